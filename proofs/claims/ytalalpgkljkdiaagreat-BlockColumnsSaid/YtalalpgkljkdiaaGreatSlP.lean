/- A part of the proof. -/
import Derived.Test.YtalalpgkljkdiaaGreatSlA
set_option linter.unusedVariables false
set_option linter.unusedSimpArgs false
set_option linter.unnecessarySimpa false
namespace Go.Proofs.Sl
set_option maxRecDepth 100000
def zbn_:Nat:=9
def zhi_:Nat:=10
def zhj_:Nat:=13
def zek_:Nat:=34
def zvt_:Nat:=47
def zvu_:Nat:=49
def zrb_:Nat:=54
def zrc_:Nat:=98
def zrd_:Nat:=101
def zvv_:Nat:=115
def zvw_:Nat:=116
def zhk_:Nat:=117
def zvx_:Nat:=118
def zvy_:Nat:=123
def zvz_:Nat:=134
def zhl_:Nat:=135
def zhm_:Nat:=136
def zhn_:Nat:=137
def zho_:Nat:=138
def zhp_:Nat:=139
def zwa_:Nat:=141
def zwb_:Nat:=142
def zwc_:Nat:=144
def zwd_:Nat:=145
def zcer_:Nat:=146
def zwe_:Nat:=147
def zre_:Nat:=157
def zfm_:Nat:=160
def zel_:Nat:=162
def zrf_:Nat:=163
def zhq_:Nat:=164
def zwf_:Nat:=171
def zhr_:Nat:=177
def zkd_:Nat:=184
def zhs_:Nat:=189
def zht_:Nat:=190
def zwg_:Nat:=191
def zwh_:Nat:=192
def zwi_:Nat:=193
def zhu_:Nat:=195
def zrg_:Nat:=196
def zfn_:Nat:=197
def zdq_:Nat:=198
def zrh_:Nat:=199
def zwj_:Nat:=200
def zwk_:Nat:=201
def zri_:Nat:=208
def zwl_:Nat:=212
def zwm_:Nat:=213
def zrj_:Nat:=214
def zhv_:Nat:=217
def zrk_:Nat:=218
def zwn_:Nat:=219
def zke_:Nat:=220
def zwo_:Nat:=221
def zwp_:Nat:=224
def zkf_:Nat:=225
def zwq_:Nat:=226
def zfo_:Nat:=227
def zrl_:Nat:=229
def zrm_:Nat:=230
def zwr_:Nat:=231
def zrn_:Nat:=232
def zck_:Nat:=233
def zws_:Nat:=234
def zwt_:Nat:=260
def zkg_:Nat:=296
def zwu_:Nat:=297
def zro_:Nat:=299
def zhw_:Nat:=325
def zrp_:Nat:=326
def zrq_:Nat:=327
def zwv_:Nat:=328
def zww_:Nat:=329
def zem_:Nat:=330
def zdg_:Nat:=331
def zwx_:Nat:=332
def zdh_:Nat:=333
def zrr_:Nat:=334
def zwy_:Nat:=335
def zhx_:Nat:=336
def zces_:Nat:=337
def zrs_:Nat:=338
def zcet_:Nat:=339
def zrt_:Nat:=340
def zceu_:Nat:=341
def zdi_:Nat:=342
def zkh_:Nat:=343
def zcev_:Nat:=344
def zbgg_:Nat:=345
def zcew_:Nat:=346
def zki_:Nat:=347
def zcex_:Nat:=348
def zcey_:Nat:=349
def zwz_:Nat:=352
def zxa_:Nat:=353
def zru_:Nat:=364
def zxb_:Nat:=368
def zxc_:Nat:=369
def zxd_:Nat:=370
def zxe_:Nat:=371
def zxf_:Nat:=372
def zrv_:Nat:=373
def zxg_:Nat:=374
def zrw_:Nat:=375
def zkj_:Nat:=376
def zxh_:Nat:=377
def zxi_:Nat:=378
def zbgh_:Nat:=379
def zcez_:Nat:=380
def zxj_:Nat:=385
def zen_:Nat:=386
def zhy_:Nat:=387
def zkk_:Nat:=402
def zkl_:Nat:=403
def zkm_:Nat:=404
def zkn_:Nat:=405
def zko_:Nat:=406
def zkp_:Nat:=407
def zkq_:Nat:=408
def zkr_:Nat:=409
def zxk_:Nat:=410
def zks_:Nat:=411
def zkt_:Nat:=412
def zku_:Nat:=413
def zcfa_:Nat:=415
def zbgi_:Nat:=416
def zxl_:Nat:=419
def zrx_:Nat:=443
def zxm_:Nat:=451
def zxn_:Nat:=452
def zkv_:Nat:=455
def zxo_:Nat:=456
def zry_:Nat:=457
def zrz_:Nat:=466
def zxp_:Nat:=467
def zsa_:Nat:=468
def zxq_:Nat:=469
def zkw_:Nat:=470
def zhz_:Nat:=471
def zia_:Nat:=472
def zib_:Nat:=473
def zxr_:Nat:=491
def zxs_:Nat:=494
def zxt_:Nat:=495
def zxu_:Nat:=496
def zxv_:Nat:=497
def zxw_:Nat:=500
def zxx_:Nat:=504
def zcv_:Nat:=510
def zkx_:Nat:=511
def zxy_:Nat:=512
def zsb_:Nat:=514
def zxz_:Nat:=515
def zic_:Nat:=516
def zky_:XC :=
(.seq (.seq (.region [
⟨some 54,.cp (.t 12),none⟩,
⟨some 55,.cp (.t 8),none⟩,
⟨some 56,.len false (.t 55),none⟩,
⟨some 57,.bin .lss (.t 54) (.t 56),none⟩] (none))
(.cond (.t 57)
.skip
(.exit 0)))
(.seq (.block 1
(.seq (.region [
⟨some 61,.cp (.t 6),none⟩,
⟨some 62,.cp (.t 8),none⟩,
⟨some 63,.cp (.t 12),none⟩,
⟨some 64,.iaddr 1 (.t 62) (.t 63),none⟩,
⟨some 65,.load 1 false (.t 64),none⟩,
⟨some 66,.call false zem_ [(.t 61),(.t 65)],none⟩,
⟨some 60,.cp (.t 66),none⟩,
⟨some 67,.extract (.t 60) 0,none⟩,
⟨some 68,.extract (.t 60) 1,none⟩,
⟨some 13,.cp (.t 67),none⟩,
⟨some 14,.cp (.t 68),none⟩] (none))
(.seq (.region [
⟨some 70,.cp (.t 6),none⟩,
⟨some 71,.cp (.t 8),none⟩,
⟨some 72,.cp (.t 12),none⟩,
⟨some 73,.iaddr 1 (.t 71) (.t 72),none⟩,
⟨some 74,.load 1 false (.t 73),none⟩,
⟨some 75,.call false zdh_ [(.t 70),(.t 74)],none⟩,
⟨some 69,.cp (.t 75),none⟩,
⟨some 76,.extract (.t 69) 0,none⟩,
⟨some 77,.extract (.t 69) 1,none⟩,
⟨some 15,.cp (.t 76),none⟩,
⟨some 16,.cp (.t 77),none⟩] (none))
(.seq (.seq (.region [
⟨some 78,.cp (.t 14),none⟩,
⟨some 79,.bin .neq (.t 78) (.c (.s (.int .i64 0))),none⟩,
⟨some 80,.cp (.t 79),none⟩,
⟨some 81,.cp (.t 13),some (80,false)⟩,
⟨some 82,.cp (.t 5),some (80,false)⟩,
⟨some 83,.cp (.t 8),some (80,false)⟩,
⟨some 84,.cp (.t 12),some (80,false)⟩,
⟨some 85,.iaddr 1 (.t 83) (.t 84),some (80,false)⟩,
⟨some 86,.load 1 false (.t 85),some (80,false)⟩,
⟨some 87,.call false zkw_ [(.t 82),(.t 86)],some (80,false)⟩,
⟨some 88,.call false zxq_ [(.t 81),(.t 87)],some (80,false)⟩,
⟨some 89,.un .not (.t 88),some (80,false)⟩,
⟨some 90,.pick (.t 80) (.c (.s (.bool true))) (.t 89),none⟩,
⟨some 91,.cp (.t 90),none⟩,
⟨some 92,.cp (.t 16),some (91,false)⟩,
⟨some 93,.bin .neq (.t 92) (.c (.s (.int .i64 16))),some (91,false)⟩,
⟨some 94,.pick (.t 91) (.c (.s (.bool true))) (.t 93),none⟩] (none))
(.cond (.t 94)
(.seq (.region [
⟨some 4,.cp (.c (.s (.bool false))),none⟩] (none))
.ret)
.skip))
(.region [
⟨some 95,.cp (.t 10),none⟩,
⟨some 96,.cp (.t 95),none⟩,
⟨some 97,.cp (.t 8),some (96,false)⟩,
⟨some 98,.cp (.t 12),some (96,false)⟩,
⟨some 99,.iaddr 1 (.t 97) (.t 98),some (96,false)⟩,
⟨some 100,.load 1 false (.t 99),some (96,false)⟩,
⟨some 101,.cp (.t 1),some (96,false)⟩,
⟨some 102,.bin .eql (.t 100) (.t 101),some (96,false)⟩,
⟨some 103,.pick (.t 96) (.c (.s (.bool true))) (.t 102),none⟩,
⟨some 10,.cp (.t 103),none⟩] (none))))))
(.region [
⟨some 58,.cp (.t 12),none⟩,
⟨some 59,.bin .add (.t 58) (.c (.s (.int .i64 1))),none⟩,
⟨some 12,.cp (.t 59),none⟩] (none))))
def zkz_:XC :=
(.seq (.seq (.region [
⟨some 104,.cp (.t 17),none⟩,
⟨some 105,.cp (.t 9),none⟩,
⟨some 106,.len false (.t 105),none⟩,
⟨some 107,.bin .lss (.t 104) (.t 106),none⟩] (none))
(.cond (.t 107)
.skip
(.exit 2)))
(.seq (.block 3
(.seq (.region [
⟨some 111,.cp (.t 6),none⟩,
⟨some 112,.cp (.t 9),none⟩,
⟨some 113,.cp (.t 17),none⟩,
⟨some 114,.iaddr 1 (.t 112) (.t 113),none⟩,
⟨some 115,.load 1 false (.t 114),none⟩,
⟨some 116,.call false zdh_ [(.t 111),(.t 115)],none⟩,
⟨some 110,.cp (.t 116),none⟩,
⟨some 117,.extract (.t 110) 0,none⟩,
⟨some 118,.extract (.t 110) 1,none⟩,
⟨some 18,.cp (.t 117),none⟩,
⟨some 19,.cp (.t 118),none⟩] (none))
(.seq (.region [
⟨some 120,.cp (.t 6),none⟩,
⟨some 121,.cp (.t 9),none⟩,
⟨some 122,.cp (.t 17),none⟩,
⟨some 123,.iaddr 1 (.t 121) (.t 122),none⟩,
⟨some 124,.load 1 false (.t 123),none⟩,
⟨some 125,.call false zhz_ [(.t 120),(.t 124)],none⟩,
⟨some 119,.cp (.t 125),none⟩,
⟨some 126,.extract (.t 119) 0,none⟩,
⟨some 127,.extract (.t 119) 1,none⟩,
⟨some 20,.cp (.t 126),none⟩,
⟨some 21,.cp (.t 127),none⟩] (none))
(.seq (.region [
⟨some 129,.cp (.t 5),none⟩,
⟨some 130,.cp (.t 9),none⟩,
⟨some 131,.cp (.t 17),none⟩,
⟨some 132,.iaddr 1 (.t 130) (.t 131),none⟩,
⟨some 133,.load 1 false (.t 132),none⟩,
⟨some 134,.call false zia_ [(.t 129),(.t 133)],none⟩,
⟨some 135,.call false zdi_ [(.t 134)],none⟩,
⟨some 128,.cp (.t 135),none⟩,
⟨some 136,.extract (.t 128) 0,none⟩,
⟨some 137,.extract (.t 128) 1,none⟩,
⟨some 22,.cp (.t 136),none⟩,
⟨some 23,.cp (.t 137),none⟩] (none))
(.seq (.region [
⟨some 139,.cp (.t 6),none⟩,
⟨some 140,.cp (.t 9),none⟩,
⟨some 141,.cp (.t 17),none⟩,
⟨some 142,.iaddr 1 (.t 140) (.t 141),none⟩,
⟨some 143,.load 1 false (.t 142),none⟩,
⟨some 144,.call false zem_ [(.t 139),(.t 143)],none⟩,
⟨some 138,.cp (.t 144),none⟩,
⟨some 145,.extract (.t 138) 0,none⟩,
⟨some 146,.extract (.t 138) 1,none⟩,
⟨some 24,.cp (.t 145),none⟩,
⟨some 25,.cp (.t 146),none⟩] (none))
(.seq (.seq (.region [
⟨some 147,.cp (.t 19),none⟩,
⟨some 148,.bin .neq (.t 147) (.c (.s (.int .i64 0))),none⟩,
⟨some 149,.cp (.t 148),none⟩,
⟨some 150,.cp (.t 21),some (149,false)⟩,
⟨some 151,.bin .neq (.t 150) (.c (.s (.int .i64 0))),some (149,false)⟩,
⟨some 152,.pick (.t 149) (.c (.s (.bool true))) (.t 151),none⟩,
⟨some 153,.cp (.t 152),none⟩,
⟨some 154,.cp (.t 18),some (153,false)⟩,
⟨some 155,.cp (.t 5),some (153,false)⟩,
⟨some 156,.cp (.t 9),some (153,false)⟩,
⟨some 157,.cp (.t 17),some (153,false)⟩,
⟨some 158,.iaddr 1 (.t 156) (.t 157),some (153,false)⟩,
⟨some 159,.load 1 false (.t 158),some (153,false)⟩,
⟨some 160,.call false zia_ [(.t 155),(.t 159)],some (153,false)⟩,
⟨some 161,.call false zib_ [(.t 154),(.t 160)],some (153,false)⟩,
⟨some 162,.un .not (.t 161),some (153,false)⟩,
⟨some 163,.pick (.t 153) (.c (.s (.bool true))) (.t 162),none⟩,
⟨some 164,.cp (.t 163),none⟩,
⟨some 165,.cp (.t 20),some (164,false)⟩,
⟨some 166,.cp (.t 22),some (164,false)⟩,
⟨some 167,.call false zib_ [(.t 165),(.t 166)],some (164,false)⟩,
⟨some 168,.un .not (.t 167),some (164,false)⟩,
⟨some 169,.pick (.t 164) (.c (.s (.bool true))) (.t 168),none⟩,
⟨some 170,.cp (.t 169),none⟩,
⟨some 171,.cp (.t 25),some (170,false)⟩,
⟨some 172,.bin .neq (.t 171) (.c (.s (.int .i64 16))),some (170,false)⟩,
⟨some 173,.pick (.t 170) (.c (.s (.bool true))) (.t 172),none⟩] (none))
(.cond (.t 173)
(.seq (.region [
⟨some 4,.cp (.c (.s (.bool false))),none⟩] (none))
.ret)
.skip))
(.region [
⟨some 174,.cp (.t 11),none⟩,
⟨some 175,.cp (.t 174),none⟩,
⟨some 176,.cp (.t 9),some (175,false)⟩,
⟨some 177,.cp (.t 17),some (175,false)⟩,
⟨some 178,.iaddr 1 (.t 176) (.t 177),some (175,false)⟩,
⟨some 179,.load 1 false (.t 178),some (175,false)⟩,
⟨some 180,.cp (.t 1),some (175,false)⟩,
⟨some 181,.bin .eql (.t 179) (.t 180),some (175,false)⟩,
⟨some 182,.pick (.t 175) (.c (.s (.bool true))) (.t 181),none⟩,
⟨some 11,.cp (.t 182),none⟩] (none))))))))
(.region [
⟨some 108,.cp (.t 17),none⟩,
⟨some 109,.bin .add (.t 108) (.c (.s (.int .i64 1))),none⟩,
⟨some 17,.cp (.t 109),none⟩] (none))))
def zid_:XF:={ np:=2,results:=[(.inl 4,.v)],body :=
(.seq (.region [
⟨some 2,.box false (.t 0),none⟩,
⟨some 4,.cp (.c (.s (.bool false))),none⟩] (none))
(.seq (.seq (.region [
⟨some 32,.call false zrz_ [],none⟩,
⟨some 33,.un .not (.t 32),none⟩,
⟨some 34,.cp (.t 33),none⟩,
⟨some 35,.cp (.t 1),some (34,false)⟩,
⟨some 36,.len true (.t 35),some (34,false)⟩,
⟨some 37,.bin .gtr (.t 36) (.c (.s (.int .i64 20))),some (34,false)⟩,
⟨some 38,.pick (.t 34) (.c (.s (.bool true))) (.t 37),none⟩] (none))
(.cond (.t 38)
(.seq (.region [
⟨some 39,.call false zrz_ [],none⟩,
⟨some 4,.cp (.t 39),none⟩] (none))
.ret)
.skip))
(.seq (.region [
⟨some 40,.load 7 true (.t 2),none⟩,
⟨some 41,.call false zxp_ [(.t 40)],none⟩,
⟨some 42,.call false zkd_ [(.t 41)],none⟩,
⟨some 5,.cp (.t 42),none⟩] (none))
(.seq (.region [
⟨some 44,.cp (.t 5),none⟩,
⟨some 45,.call false zkg_ [(.t 44)],none⟩,
⟨some 43,.cp (.t 45),none⟩,
⟨some 46,.extract (.t 43) 0,none⟩,
⟨some 47,.extract (.t 43) 1,none⟩,
⟨some 6,.cp (.t 46),none⟩,
⟨some 7,.cp (.t 47),none⟩] (none))
(.seq (.seq (.region [
⟨some 48,.cp (.t 7),none⟩,
⟨some 49,.bin .neq (.t 48) (.c (.s (.int .i64 0))),none⟩] (none))
(.cond (.t 49)
(.seq (.region [
⟨some 4,.cp (.c (.s (.bool false))),none⟩] (none))
.ret)
.skip))
(.seq (.region [
⟨some 51,.call false zsa_ [],none⟩,
⟨some 50,.cp (.t 51),none⟩,
⟨some 52,.extract (.t 50) 0,none⟩,
⟨some 53,.extract (.t 50) 1,none⟩,
⟨some 8,.cp (.t 52),none⟩,
⟨some 9,.cp (.t 53),none⟩] (none))
(.seq (.region [
⟨some 10,.cp (.c (.s (.bool false))),none⟩,
⟨some 11,.cp (.c (.s (.bool false))),none⟩] (none))
(.seq (.seq (.region [
⟨some 12,.cp (.c (.s (.int .i64 0))),none⟩] (none))
(.block 0
(.loop zky_)))
(.seq (.seq (.region [
⟨some 17,.cp (.c (.s (.int .i64 0))),none⟩] (none))
(.block 2
(.loop zkz_)))
(.seq (.region [
⟨some 184,.cp (.t 6),none⟩,
⟨some 185,.cp (.t 1),none⟩,
⟨some 186,.call false zem_ [(.t 184),(.t 185)],none⟩,
⟨some 183,.cp (.t 186),none⟩,
⟨some 187,.extract (.t 183) 0,none⟩,
⟨some 188,.extract (.t 183) 1,none⟩,
⟨some 26,.cp (.t 187),none⟩,
⟨some 27,.cp (.t 188),none⟩] (none))
(.seq (.region [
⟨some 190,.cp (.t 6),none⟩,
⟨some 191,.cp (.t 1),none⟩,
⟨some 192,.call false zdh_ [(.t 190),(.t 191)],none⟩,
⟨some 189,.cp (.t 192),none⟩,
⟨some 193,.extract (.t 189) 0,none⟩,
⟨some 194,.extract (.t 189) 1,none⟩,
⟨some 28,.cp (.t 193),none⟩,
⟨some 29,.cp (.t 194),none⟩] (none))
(.seq (.region [
⟨some 196,.cp (.t 6),none⟩,
⟨some 197,.cp (.t 1),none⟩,
⟨some 198,.call false zhz_ [(.t 196),(.t 197)],none⟩,
⟨some 195,.cp (.t 198),none⟩,
⟨some 199,.extract (.t 195) 0,none⟩,
⟨some 200,.extract (.t 195) 1,none⟩,
⟨some 30,.cp (.t 199),none⟩,
⟨some 31,.cp (.t 200),none⟩] (none))
(.seq (.seq (.region [
⟨some 201,.cp (.t 10),none⟩,
⟨some 202,.un .not (.t 201),none⟩,
⟨some 203,.cp (.t 202),none⟩,
⟨some 204,.cp (.t 27),some (203,true)⟩,
⟨some 205,.bin .neq (.t 204) (.c (.s (.int .i64 16))),some (203,true)⟩,
⟨some 206,.cp (.t 205),some (203,true)⟩,
⟨some 207,.cp (.t 26),some (206,false)⟩,
⟨some 208,.len false (.t 207),some (206,false)⟩,
⟨some 209,.bin .gtr (.t 208) (.c (.s (.int .i64 0))),some (206,false)⟩,
⟨some 210,.pick (.t 206) (.c (.s (.bool true))) (.t 209),some (203,true)⟩,
⟨some 211,.pick (.t 203) (.t 210) (.c (.s (.bool false))),none⟩] (none))
(.cond (.t 211)
(.seq (.region [
⟨some 4,.cp (.c (.s (.bool false))),none⟩] (none))
.ret)
.skip))
(.seq (.region [
⟨some 212,.cp (.t 11),none⟩,
⟨some 213,.cp (.t 212),none⟩,
⟨some 214,.cp (.t 29),some (213,false)⟩,
⟨some 215,.bin .eql (.t 214) (.c (.s (.int .i64 16))),some (213,false)⟩,
⟨some 216,.cp (.t 215),some (213,false)⟩,
⟨some 217,.cp (.t 31),some (216,true)⟩,
⟨some 218,.bin .eql (.t 217) (.c (.s (.int .i64 16))),some (216,true)⟩,
⟨some 219,.pick (.t 216) (.t 218) (.c (.s (.bool false))),some (213,false)⟩,
⟨some 220,.cp (.t 219),some (213,false)⟩,
⟨some 221,.cp (.t 28),some (220,true)⟩,
⟨some 222,.len false (.t 221),some (220,true)⟩,
⟨some 223,.cp (.t 30),some (220,true)⟩,
⟨some 224,.len false (.t 223),some (220,true)⟩,
⟨some 225,.bin .add (.t 222) (.t 224),some (220,true)⟩,
⟨some 226,.bin .eql (.t 225) (.c (.s (.int .i64 0))),some (220,true)⟩,
⟨some 227,.pick (.t 220) (.t 226) (.c (.s (.bool false))),some (213,false)⟩,
⟨some 228,.pick (.t 213) (.c (.s (.bool true))) (.t 227),none⟩,
⟨some 4,.cp (.t 228),none⟩] (none))
.ret)))))))))))))) }
def zla_:XF:={ np:=0,results:=[(.inl 0,.v)],body :=
(.seq (.region [
⟨some 0,.cp (.c (.s (.bool false))),none⟩] (none))
(.seq (.region [
⟨some 10,.build false [.s (.int .i64 0),.s (.int .i64 0),.s (.int .i64 0),.s (.int .i64 0),.s (.int .i64 0),.s (.int .i64 0),.s (.string ⟨#[]⟩),.s (.string ⟨#[]⟩),.s (.string ⟨#[]⟩),.s (.int .i64 0),.s (.int .i64 0),.s (.bool false),.s (.slice none 0 0),.s (.slice none 0 0)] [(0,1,(.c (.s (.int .i64 5)))),(1,1,(.c (.s (.int .i64 2)))),(4,1,(.c (.s (.int .i64 1)))),(5,1,(.c (.s (.int .i64 3)))),(6,1,(.c (.s (.string ⟨#[98]⟩)))),(7,1,(.c (.s (.string ⟨#[118]⟩)))),(8,1,(.c (.s (.string ⟨#[111]⟩))))],none⟩,
⟨some 11,.build false [.s (.int .i64 0),.s (.int .i64 0),.s (.int .i64 0),.s (.int .i64 0),.s (.int .i64 0),.s (.int .i64 0),.s (.string ⟨#[]⟩),.s (.string ⟨#[]⟩),.s (.string ⟨#[]⟩),.s (.int .i64 0),.s (.int .i64 0),.s (.bool false),.s (.slice none 0 0),.s (.slice none 0 0)] [(0,1,(.c (.s (.int .i64 5)))),(1,1,(.c (.s (.int .i64 1)))),(4,1,(.c (.s (.int .i64 1)))),(5,1,(.c (.s (.int .i64 3)))),(6,1,(.c (.s (.string ⟨#[97]⟩)))),(8,1,(.c (.s (.string ⟨#[111]⟩))))],none⟩,
⟨some 12,.bslice false 14 [(.t 10),(.t 11)],none⟩,
⟨some 1,.cp (.t 12),none⟩] (none))
(.seq (.region [
⟨some 14,.cp (.t 1),none⟩,
⟨some 15,.call false zkg_ [(.t 14)],none⟩,
⟨some 13,.cp (.t 15),none⟩,
⟨some 16,.extract (.t 13) 0,none⟩,
⟨some 17,.extract (.t 13) 1,none⟩,
⟨some 2,.cp (.t 16),none⟩,
⟨some 3,.cp (.t 17),none⟩] (none))
(.seq (.seq (.region [
⟨some 18,.cp (.t 2),none⟩,
⟨some 19,.eqv .p false (.t 18) (.c (.s (.pointer none))),none⟩,
⟨some 20,.cp (.t 19),none⟩,
⟨some 21,.cp (.t 3),some (20,false)⟩,
⟨some 22,.bin .neq (.t 21) (.c (.s (.int .i64 0))),some (20,false)⟩,
⟨some 23,.pick (.t 20) (.c (.s (.bool true))) (.t 22),none⟩,
⟨some 24,.cp (.t 23),none⟩,
⟨some 25,.cp (.t 2),some (24,false)⟩,
⟨some 26,.call false zhw_ [(.t 25)],some (24,false)⟩,
⟨some 27,.bin .neq (.t 26) (.c (.s (.int .i64 2))),some (24,false)⟩,
⟨some 28,.pick (.t 24) (.c (.s (.bool true))) (.t 27),none⟩] (none))
(.cond (.t 28)
(.seq (.region [
⟨some 0,.cp (.c (.s (.bool false))),none⟩] (none))
.ret)
.skip))
(.seq (.region [
⟨some 30,.cp (.t 2),none⟩,
⟨some 31,.call false zdh_ [(.t 30),(.c (.s (.string ⟨#[115,101,114,118,105,99,101]⟩)))],none⟩,
⟨some 29,.cp (.t 31),none⟩,
⟨some 32,.extract (.t 29) 0,none⟩,
⟨some 33,.extract (.t 29) 1,none⟩,
⟨some 4,.cp (.t 32),none⟩,
⟨some 5,.cp (.t 33),none⟩] (none))
(.seq (.region [
⟨some 35,.cp (.t 2),none⟩,
⟨some 36,.call false zhz_ [(.t 35),(.c (.s (.string ⟨#[118,101,114,115,105,111,110]⟩)))],none⟩,
⟨some 34,.cp (.t 36),none⟩,
⟨some 37,.extract (.t 34) 0,none⟩,
⟨some 38,.extract (.t 34) 1,none⟩,
⟨some 6,.cp (.t 37),none⟩,
⟨some 7,.cp (.t 38),none⟩] (none))
(.seq (.region [
⟨some 40,.call false zkg_ [(.c (.s (.slice none 0 0)))],none⟩,
⟨some 39,.cp (.t 40),none⟩,
⟨some 41,.extract (.t 39) 0,none⟩,
⟨some 42,.extract (.t 39) 1,none⟩,
⟨some 8,.cp (.t 41),none⟩,
⟨some 9,.cp (.t 42),none⟩] (none))
(.seq (.region [
⟨some 43,.cp (.t 5),none⟩,
⟨some 44,.bin .eql (.t 43) (.c (.s (.int .i64 0))),none⟩,
⟨some 45,.cp (.t 44),none⟩,
⟨some 46,.cp (.t 4),some (45,true)⟩,
⟨some 47,.bslice false 1 [(.c (.s (.string ⟨#[97]⟩))),(.c (.s (.string ⟨#[98]⟩)))],some (45,true)⟩,
⟨some 48,.call false zib_ [(.t 46),(.t 47)],some (45,true)⟩,
⟨some 49,.pick (.t 45) (.t 48) (.c (.s (.bool false))),none⟩,
⟨some 50,.cp (.t 49),none⟩,
⟨some 51,.cp (.t 7),some (50,true)⟩,
⟨some 52,.bin .eql (.t 51) (.c (.s (.int .i64 0))),some (50,true)⟩,
⟨some 53,.pick (.t 50) (.t 52) (.c (.s (.bool false))),none⟩,
⟨some 54,.cp (.t 53),none⟩,
⟨some 55,.cp (.t 6),some (54,true)⟩,
⟨some 56,.bslice false 1 [(.c (.s (.string ⟨#[]⟩))),(.c (.s (.string ⟨#[118]⟩)))],some (54,true)⟩,
⟨some 57,.call false zib_ [(.t 55),(.t 56)],some (54,true)⟩,
⟨some 58,.pick (.t 54) (.t 57) (.c (.s (.bool false))),none⟩,
⟨some 59,.cp (.t 58),none⟩,
⟨some 60,.cp (.t 9),some (59,true)⟩,
⟨some 61,.bin .eql (.t 60) (.c (.s (.int .i64 0))),some (59,true)⟩,
⟨some 62,.pick (.t 59) (.t 61) (.c (.s (.bool false))),none⟩,
⟨some 63,.cp (.t 62),none⟩,
⟨some 64,.cp (.t 8),some (63,true)⟩,
⟨some 65,.eqv .p true (.t 64) (.c (.s (.pointer none))),some (63,true)⟩,
⟨some 66,.pick (.t 63) (.t 65) (.c (.s (.bool false))),none⟩,
⟨some 67,.cp (.t 66),none⟩,
⟨some 68,.cp (.t 8),some (67,true)⟩,
⟨some 69,.call false zwu_ [(.t 68)],some (67,true)⟩,
⟨some 70,.call false zxr_ [(.c (.s (.slice none 0 0)))],some (67,true)⟩,
⟨some 71,.bin .eql (.t 69) (.t 70),some (67,true)⟩,
⟨some 72,.pick (.t 67) (.t 71) (.c (.s (.bool false))),none⟩,
⟨some 73,.cp (.t 72),none⟩,
⟨some 74,.cp (.t 2),some (73,true)⟩,
⟨some 75,.call false zxs_ [(.t 74)],some (73,true)⟩,
⟨some 76,.call false zxt_ [(.t 75)],some (73,true)⟩,
⟨some 77,.len false (.t 76),some (73,true)⟩,
⟨some 78,.bin .eql (.t 77) (.c (.s (.int .i64 2))),some (73,true)⟩,
⟨some 79,.pick (.t 73) (.t 78) (.c (.s (.bool false))),none⟩,
⟨some 0,.cp (.t 79),none⟩] (none))
.ret)))))))) }
def zie_:XF:={ np:=1,results:=[(.inl 2,.v)],body :=
(.seq (.region [
⟨some 2,.cp (.c (.s (.slice none 0 0))),none⟩] (none))
(.seq (.region [
⟨some 3,.cp (.t 0),none⟩,
⟨some 4,.call false zwm_ [(.t 3)],none⟩,
⟨some 5,.call true zwl_ [(.t 4),(.c (.fn zrj_ [] []))],none⟩,
⟨some 2,.cp (.t 5),none⟩] (none))
.ret)) }
def zya_:XC :=
(.seq (.seq (.region [
⟨some 11,.cp (.t 5),none⟩,
⟨some 12,.cp (.t 4),none⟩,
⟨some 13,.len false (.t 12),none⟩,
⟨some 14,.bin .lss (.t 11) (.t 13),none⟩] (none))
(.cond (.t 14)
.skip
(.exit 0)))
(.seq (.block 1
(.region [
⟨some 17,.cp (.t 3),none⟩,
⟨some 18,.cp (.t 4),none⟩,
⟨some 19,.cp (.t 5),none⟩,
⟨some 20,.iaddr 4 (.t 18) (.t 19),none⟩,
⟨some 21,.faddr (.t 20) 2,none⟩,
⟨some 22,.load 1 false (.t 21),none⟩,
⟨some 23,.append 14 837723144972 (.t 17) (.t 22),none⟩,
⟨some 3,.cp (.t 23),none⟩] (none)))
(.region [
⟨some 15,.cp (.t 5),none⟩,
⟨some 16,.bin .add (.t 15) (.c (.s (.int .i64 1))),none⟩,
⟨some 5,.cp (.t 16),none⟩] (none))))
def zif_:XF:={ np:=1,results:=[(.inl 2,.v)],body :=
(.seq (.region [
⟨some 1,.box false (.t 0),none⟩,
⟨some 2,.cp (.c (.s (.slice none 0 0))),none⟩] (none))
(.seq (.seq (.region [
⟨some 6,.load 7 true (.t 1),none⟩,
⟨some 7,.call false zwt_ [(.t 6)],none⟩,
⟨some 8,.un .not (.t 7),none⟩] (none))
(.cond (.t 8)
(.seq (.region [
⟨some 2,.cp (.c (.s (.slice none 0 0))),none⟩] (none))
.ret)
.skip))
(.seq (.region [
⟨some 3,.cp (.c (.s (.slice none 0 0))),none⟩] (none))
(.seq (.region [
⟨some 9,.load 7 true (.t 1),none⟩,
⟨some 10,.call false zro_ [(.t 9),(.c (.s (.int .u8 2)))],none⟩,
⟨some 4,.cp (.t 10),none⟩] (none))
(.seq (.seq (.region [
⟨some 5,.cp (.c (.s (.int .i64 0))),none⟩] (none))
(.block 0
(.loop zya_)))
(.seq (.region [
⟨some 24,.cp (.t 3),none⟩,
⟨some 2,.cp (.t 24),none⟩] (none))
.ret)))))) }
def zlb_:XC :=
(.seq (.region [
⟨some 15,.bin .lss (.t 14) (.t 13),none⟩] (none))
(.seq (.cond (.t 15)
.skip
(.exit 0))
(.seq (.block 1
(.seq (.region [
⟨some 16,.iaddr 14 (.t 12) (.t 14),none⟩,
⟨some 17,.load 14 true (.t 16),none⟩,
⟨some 5,.alloc [.s (.int .i64 0),.s (.int .i64 0),.s (.int .i64 0),.s (.int .i64 0),.s (.int .i64 0),.s (.int .i64 0),.s (.string ⟨#[]⟩),.s (.string ⟨#[]⟩),.s (.string ⟨#[]⟩),.s (.int .i64 0),.s (.int .i64 0),.s (.bool false),.s (.slice none 0 0),.s (.slice none 0 0)],none⟩,
⟨none,.store 14 (.t 5) (.t 17),none⟩] (none))
(.seq (.region [
⟨some 18,.load 14 true (.t 5),none⟩,
⟨some 19,.call false zre_ [(.t 18)],none⟩,
⟨some 6,.cp (.t 19),none⟩] (none))
(.seq (.region [
⟨some 20,.cp (.t 6),none⟩,
⟨some 21,.bin .neq (.t 20) (.c (.s (.int .i64 0))),none⟩] (none))
(.cond (.t 21)
(.seq (.region [
⟨some 22,.cp (.t 6),none⟩,
⟨some 2,.cp (.c (.s (.pointer none))),none⟩,
⟨some 3,.cp (.t 22),none⟩] (none))
.ret)
.skip)))))
(.region [
⟨some 23,.bin .add (.t 14) (.c (.s (.int .i64 1))),none⟩,
⟨some 14,.cp (.t 23),none⟩] (none)))))
def zlc_:XC :=
(.seq (.region [
⟨some 27,.bin .lss (.t 26) (.t 25),none⟩] (none))
(.seq (.cond (.t 27)
.skip
(.exit 2))
(.seq (.block 3
(.seq (.region [
⟨some 28,.iaddr 14 (.t 24) (.t 26),none⟩,
⟨some 29,.load 14 true (.t 28),none⟩,
⟨some 8,.alloc [.s (.int .i64 0),.s (.int .i64 0),.s (.int .i64 0),.s (.int .i64 0),.s (.int .i64 0),.s (.int .i64 0),.s (.string ⟨#[]⟩),.s (.string ⟨#[]⟩),.s (.string ⟨#[]⟩),.s (.int .i64 0),.s (.int .i64 0),.s (.bool false),.s (.slice none 0 0),.s (.slice none 0 0)],none⟩,
⟨none,.store 14 (.t 8) (.t 29),none⟩] (none))
(.seq (.region [
⟨some 30,.faddr (.t 8) 12,none⟩,
⟨some 31,.load 1 false (.t 30),none⟩,
⟨some 32,.call false zrp_ [(.t 31),(.c (.fn zrq_ [] []))],none⟩] (none))
(.cond (.t 32)
(.seq (.region [
⟨some 2,.cp (.c (.s (.pointer none))),none⟩,
⟨some 3,.cp (.c (.s (.int .i64 5))),none⟩] (none))
.ret)
.skip))))
(.region [
⟨some 33,.bin .add (.t 26) (.c (.s (.int .i64 1))),none⟩,
⟨some 26,.cp (.t 33),none⟩] (none)))))
def zig_:XF:={ np:=1,results:=[(.inl 2,.f),(.inl 3,.v)],body :=
(.seq (.region [
⟨some 2,.cp (.c (.s (.pointer none))),none⟩,
⟨some 3,.cp (.c (.s (.int .i64 0))),none⟩] (none))
(.seq (.seq (.region [
⟨some 9,.cp (.t 0),none⟩,
⟨some 10,.len false (.t 9),none⟩,
⟨some 11,.bin .gtr (.t 10) (.c (.s (.int .i64 4096))),none⟩] (none))
(.cond (.t 11)
(.seq (.region [
⟨some 2,.cp (.c (.s (.pointer none))),none⟩,
⟨some 3,.cp (.c (.s (.int .i64 6))),none⟩] (none))
.ret)
.skip))
(.seq (.seq (.region [
⟨some 12,.cp (.t 0),none⟩,
⟨some 13,.len false (.t 12),none⟩,
⟨some 14,.cp (.c (.s (.int .i64 0))),none⟩] (none))
(.block 0
(.loop zlb_)))
(.seq (.seq (.region [
⟨some 24,.cp (.t 0),none⟩,
⟨some 25,.len false (.t 24),none⟩,
⟨some 26,.cp (.c (.s (.int .i64 0))),none⟩] (none))
(.block 2
(.loop zlc_)))
(.seq (.region [
⟨some 34,.cp (.t 0),none⟩,
⟨some 35,.call false zkd_ [(.t 34)],none⟩,
⟨some 36,.call false zwv_ [(.t 35)],none⟩,
⟨some 37,.extract (.t 36) 0,none⟩,
⟨some 38,.extract (.t 36) 1,none⟩,
⟨some 2,.cp (.t 37),none⟩,
⟨some 3,.cp (.t 38),none⟩] (none))
.ret))))) }
def zld_:XF:={ np:=0,results:=[(.inl 0,.v),(.inl 1,.v)],body :=
(.seq (.region [
⟨some 0,.cp (.c (.s (.slice none 0 0))),none⟩,
⟨some 1,.cp (.c (.s (.slice none 0 0))),none⟩] (none))
(.seq (.region [
⟨some 2,.bslice false 1 [(.c (.s (.string ⟨#[116,114,97,99,101]⟩))),(.c (.s (.string ⟨#[105,100]⟩))),(.c (.s (.string ⟨#[112,97,114,101,110,116]⟩))),(.c (.s (.string ⟨#[114,101,118,105,115,105,111,110]⟩))),(.c (.s (.string ⟨#[99,108,111,99,107]⟩))),(.c (.s (.string ⟨#[107,105,110,100]⟩))),(.c (.s (.string ⟨#[115,116,97,114,116]⟩))),(.c (.s (.string ⟨#[100,117,114,97,116,105,111,110]⟩))),(.c (.s (.string ⟨#[101,114,114,111,114]⟩)))],none⟩,
⟨some 3,.bslice false 1 [(.c (.s (.string ⟨#[115,101,114,118,105,99,101]⟩))),(.c (.s (.string ⟨#[118,101,114,115,105,111,110]⟩))),(.c (.s (.string ⟨#[111,112,101,114,97,116,105,111,110]⟩)))],none⟩,
⟨some 0,.cp (.t 2),none⟩,
⟨some 1,.cp (.t 3),none⟩] (none))
.ret)) }
def zbw_:XF:={ np:=2,results:=[(.inl 4,.v),(.inl 5,.v)],body :=
(.seq (.region [
⟨some 4,.cp (.c (.s (.slice none 0 0))),none⟩,
⟨some 5,.cp (.c (.s (.int .i64 0))),none⟩] (none))
(.seq (.region [
⟨some 9,.call false zxd_ [],none⟩,
⟨some 10,.cp (.t 1),none⟩,
⟨some 11,.mget .t true (.s .nilFunc) (.t 9) (.t 10),none⟩,
⟨some 8,.cp (.t 11),none⟩,
⟨some 12,.extract (.t 8) 0,none⟩,
⟨some 13,.extract (.t 8) 1,none⟩,
⟨some 6,.cp (.t 12),none⟩,
⟨some 7,.cp (.t 13),none⟩] (none))
(.seq (.block 0
(.seq (.region [
⟨some 15,.cp (.t 0),none⟩,
⟨some 16,.eqv .p false (.t 15) (.c (.s (.pointer none))),none⟩,
⟨some 14,.cp (.t 16),none⟩] (none))
(.cond (.t 14)
(.seq (.region [
⟨some 4,.cp (.c (.s (.slice none 0 0))),none⟩,
⟨some 5,.cp (.c (.s (.int .i64 1))),none⟩] (none))
.ret)
(.seq (.region [
⟨some 18,.cp (.t 7),none⟩,
⟨some 19,.un .not (.t 18),none⟩,
⟨some 17,.cp (.t 19),none⟩] (none))
(.cond (.t 17)
(.seq (.region [
⟨some 4,.cp (.c (.s (.slice none 0 0))),none⟩,
⟨some 5,.cp (.c (.s (.int .i64 16))),none⟩] (none))
.ret)
.skip)))))
(.seq (.region [
⟨some 20,.cp (.t 0),none⟩,
⟨some 21,.nilchk (.t 20),none⟩,
⟨some 22,.faddr (.t 21) 0,none⟩,
⟨some 23,.load 1 false (.t 22),none⟩,
⟨some 24,.cp (.t 6),none⟩,
⟨some 25,.call false zhx_ [(.t 23),(.t 24)],none⟩,
⟨some 4,.cp (.t 25),none⟩,
⟨some 5,.cp (.c (.s (.int .i64 0))),none⟩] (none))
.ret)))) }
def zeo_:XF:={ np:=2,results:=[(.inl 4,.v),(.inl 5,.v)],body :=
(.seq (.region [
⟨some 4,.cp (.c (.s (.slice none 0 0))),none⟩,
⟨some 5,.cp (.c (.s (.int .i64 0))),none⟩] (none))
(.seq (.region [
⟨some 9,.call false zxe_ [],none⟩,
⟨some 10,.cp (.t 1),none⟩,
⟨some 11,.mget .t true (.s .nilFunc) (.t 9) (.t 10),none⟩,
⟨some 8,.cp (.t 11),none⟩,
⟨some 12,.extract (.t 8) 0,none⟩,
⟨some 13,.extract (.t 8) 1,none⟩,
⟨some 6,.cp (.t 12),none⟩,
⟨some 7,.cp (.t 13),none⟩] (none))
(.seq (.block 0
(.seq (.region [
⟨some 15,.cp (.t 0),none⟩,
⟨some 16,.eqv .p false (.t 15) (.c (.s (.pointer none))),none⟩,
⟨some 14,.cp (.t 16),none⟩] (none))
(.cond (.t 14)
(.seq (.region [
⟨some 4,.cp (.c (.s (.slice none 0 0))),none⟩,
⟨some 5,.cp (.c (.s (.int .i64 1))),none⟩] (none))
.ret)
(.seq (.region [
⟨some 18,.cp (.t 7),none⟩,
⟨some 19,.un .not (.t 18),none⟩,
⟨some 17,.cp (.t 19),none⟩] (none))
(.cond (.t 17)
(.seq (.region [
⟨some 4,.cp (.c (.s (.slice none 0 0))),none⟩,
⟨some 5,.cp (.c (.s (.int .i64 16))),none⟩] (none))
.ret)
.skip)))))
(.seq (.region [
⟨some 20,.cp (.t 0),none⟩,
⟨some 21,.nilchk (.t 20),none⟩,
⟨some 22,.faddr (.t 21) 0,none⟩,
⟨some 23,.load 1 false (.t 22),none⟩,
⟨some 24,.cp (.t 6),none⟩,
⟨some 25,.call false zxf_ [(.t 23),(.t 24)],none⟩,
⟨some 4,.cp (.t 25),none⟩,
⟨some 5,.cp (.c (.s (.int .i64 0))),none⟩] (none))
.ret)))) }
def zyb_:XC :=
(.seq (.seq (.region [
⟨some 11,.cp (.t 5),none⟩,
⟨some 12,.cp (.t 0),none⟩,
⟨some 13,.len false (.t 12),none⟩,
⟨some 14,.bin .lss (.t 11) (.t 13),none⟩] (none))
(.cond (.t 14)
.skip
(.exit 0)))
(.seq (.block 1
(.seq (.region [
⟨some 17,.cp (.t 0),none⟩,
⟨some 18,.cp (.t 5),none⟩,
⟨some 19,.iaddr 1 (.t 17) (.t 18),none⟩,
⟨some 20,.load 1 false (.t 19),none⟩,
⟨some 21,.cp (.t 1),none⟩,
⟨some 22,.cp (.t 5),none⟩,
⟨some 23,.iaddr 1 (.t 21) (.t 22),none⟩,
⟨some 24,.load 1 false (.t 23),none⟩,
⟨some 25,.bin .neq (.t 20) (.t 24),none⟩] (some []))
(.cond (.t 25)
(.seq (.region [
⟨some 4,.cp (.c (.s (.bool false))),none⟩] (none))
.ret)
.skip)))
(.region [
⟨some 15,.cp (.t 5),none⟩,
⟨some 16,.bin .add (.t 15) (.c (.s (.int .i64 1))),none⟩,
⟨some 5,.cp (.t 16),none⟩] (none))))
def zle_:XF:={ np:=2,results:=[(.inl 4,.v)],body :=
(.seq (.region [
⟨some 4,.cp (.c (.s (.bool false))),none⟩] (none))
(.seq (.seq (.region [
⟨some 6,.cp (.t 0),none⟩,
⟨some 7,.len false (.t 6),none⟩,
⟨some 8,.cp (.t 1),none⟩,
⟨some 9,.len false (.t 8),none⟩,
⟨some 10,.bin .neq (.t 7) (.t 9),none⟩] (none))
(.cond (.t 10)
(.seq (.region [
⟨some 4,.cp (.c (.s (.bool false))),none⟩] (none))
.ret)
.skip))
(.seq (.seq (.region [
⟨some 5,.cp (.c (.s (.int .i64 0))),none⟩] (none))
(.block 0
(.loop zyb_)))
(.seq (.region [
⟨some 4,.cp (.c (.s (.bool true))),none⟩] (none))
.ret)))) }
def zyc_:XC :=
(.seq (.seq (.region [
⟨some 7,.cp (.t 6),none⟩,
⟨some 8,.cp (.t 0),none⟩,
⟨some 9,.len false (.t 8),none⟩,
⟨some 10,.bin .lss (.t 7) (.t 9),none⟩] (none))
(.cond (.t 10)
.skip
(.exit 0)))
(.seq (.block 1
(.region [
⟨some 13,.cp (.t 5),none⟩,
⟨some 14,.cp (.t 0),none⟩,
⟨some 15,.cp (.t 6),none⟩,
⟨some 16,.iaddr 14 (.t 14) (.t 15),none⟩,
⟨some 17,.load 14 true (.t 16),none⟩,
⟨some 18,.cp (.t 1),none⟩,
⟨some 19,.call false zxu_ [(.t 17),(.t 18)],none⟩,
⟨some 20,.bslice false 1 [(.t 19)],none⟩,
⟨some 21,.append 1 17592186044416 (.t 13) (.t 20),none⟩,
⟨some 5,.cp (.t 21),none⟩] (none)))
(.region [
⟨some 11,.cp (.t 6),none⟩,
⟨some 12,.bin .add (.t 11) (.c (.s (.int .i64 1))),none⟩,
⟨some 6,.cp (.t 12),none⟩] (none))))
def zlf_:XF:={ np:=2,results:=[(.inl 4,.v)],body :=
(.seq (.region [
⟨some 4,.cp (.c (.s (.slice none 0 0))),none⟩] (none))
(.seq (.region [
⟨some 5,.cp (.c (.s (.slice none 0 0))),none⟩] (none))
(.seq (.seq (.region [
⟨some 6,.cp (.c (.s (.int .i64 0))),none⟩] (none))
(.block 0
(.loop zyc_)))
(.seq (.region [
⟨some 22,.cp (.t 5),none⟩,
⟨some 4,.cp (.t 22),none⟩] (none))
.ret)))) }
def zih_:XF:={ np:=2,results:=[(.inl 4,.v),(.inl 5,.v)],body :=
(.seq (.region [
⟨some 4,.cp (.c (.s (.slice none 0 0))),none⟩,
⟨some 5,.cp (.c (.s (.int .i64 0))),none⟩] (none))
(.seq (.region [
⟨some 9,.cp (.t 0),none⟩,
⟨some 10,.cp (.t 1),none⟩,
⟨some 11,.call false zdh_ [(.t 9),(.t 10)],none⟩,
⟨some 8,.cp (.t 11),none⟩,
⟨some 12,.extract (.t 8) 0,none⟩,
⟨some 13,.extract (.t 8) 1,none⟩,
⟨some 6,.cp (.t 12),none⟩,
⟨some 7,.cp (.t 13),none⟩] (none))
(.seq (.seq (.region [
⟨some 14,.cp (.t 7),none⟩,
⟨some 15,.bin .neq (.t 14) (.c (.s (.int .i64 0))),none⟩] (none))
(.cond (.t 15)
(.seq (.region [
⟨some 16,.cp (.t 7),none⟩,
⟨some 4,.cp (.c (.s (.slice none 0 0))),none⟩,
⟨some 5,.cp (.t 16),none⟩] (none))
.ret)
.skip))
(.seq (.region [
⟨some 17,.cp (.t 6),none⟩,
⟨some 18,.call false zdi_ [(.t 17)],none⟩,
⟨some 19,.extract (.t 18) 0,none⟩,
⟨some 20,.extract (.t 18) 1,none⟩,
⟨some 4,.cp (.t 19),none⟩,
⟨some 5,.cp (.t 20),none⟩] (none))
.ret)))) }
def zep_:XC :=
(.seq (.region [
⟨some 10,.bin .lss (.t 9) (.t 8),none⟩] (none))
(.seq (.cond (.t 10)
.skip
(.exit 0))
(.seq (.block 1
(.seq (.region [
⟨some 11,.iaddr 1 (.t 7) (.t 9),none⟩,
⟨some 12,.load 1 false (.t 11),none⟩,
⟨some 5,.cp (.t 12),none⟩] (none))
(.seq (.region [
⟨some 13,.cp (.t 5),none⟩,
⟨some 14,.len true (.t 13),none⟩,
⟨some 15,.bin .gtr (.t 14) (.c (.s (.int .i64 255))),none⟩] (none))
(.cond (.t 15)
(.seq (.region [
⟨some 2,.cp (.c (.s (.slice none 0 0))),none⟩,
⟨some 3,.cp (.c (.s (.int .i64 5))),none⟩] (none))
.ret)
.skip))))
(.region [
⟨some 16,.bin .add (.t 9) (.c (.s (.int .i64 1))),none⟩,
⟨some 9,.cp (.t 16),none⟩] (none)))))
def zlg_:XF:={ np:=1,results:=[(.inl 2,.v),(.inl 3,.v)],body :=
(.seq (.region [
⟨some 2,.cp (.c (.s (.slice none 0 0))),none⟩,
⟨some 3,.cp (.c (.s (.int .i64 0))),none⟩] (none))
(.seq (.seq (.region [
⟨some 7,.cp (.t 0),none⟩,
⟨some 8,.len false (.t 7),none⟩,
⟨some 9,.cp (.c (.s (.int .i64 0))),none⟩] (none))
(.block 0
(.loop zep_)))
(.seq (.region [
⟨some 17,.cp (.t 0),none⟩,
⟨some 18,.call true zxg_ [(.t 17)],none⟩,
⟨some 6,.cp (.t 18),none⟩] (none))
(.seq (.region [
⟨some 19,.cp (.t 6),none⟩,
⟨some 20,.call false zrw_ [(.t 19)],none⟩] (none))
(.seq (.region [
⟨some 21,.cp (.t 6),none⟩,
⟨some 22,.call true zkj_ [(.t 21)],none⟩,
⟨some 6,.cp (.t 22),none⟩] (none))
(.seq (.seq (.region [
⟨some 23,.cp (.t 6),none⟩,
⟨some 24,.len false (.t 23),none⟩,
⟨some 25,.bin .gtr (.t 24) (.c (.s (.int .i64 4096))),none⟩] (none))
(.cond (.t 25)
(.seq (.region [
⟨some 2,.cp (.c (.s (.slice none 0 0))),none⟩,
⟨some 3,.cp (.c (.s (.int .i64 6))),none⟩] (none))
.ret)
.skip))
(.seq (.region [
⟨some 26,.cp (.t 6),none⟩,
⟨some 2,.cp (.t 26),none⟩,
⟨some 3,.cp (.c (.s (.int .i64 0))),none⟩] (none))
.ret))))))) }
def zyd_:XC :=
(.seq (.seq (.region [
⟨some 7,.cp (.t 6),none⟩,
⟨some 8,.cp (.t 0),none⟩,
⟨some 9,.len false (.t 8),none⟩,
⟨some 10,.bin .lss (.t 7) (.t 9),none⟩] (none))
(.cond (.t 10)
.skip
(.exit 0)))
(.seq (.block 1
(.region [
⟨some 13,.cp (.t 5),none⟩,
⟨some 14,.cp (.t 0),none⟩,
⟨some 15,.cp (.t 6),none⟩,
⟨some 16,.iaddr 14 (.t 14) (.t 15),none⟩,
⟨some 17,.load 14 true (.t 16),none⟩,
⟨some 18,.cp (.t 1),none⟩,
⟨some 19,.call false zxv_ [(.t 17),(.t 18)],none⟩,
⟨some 20,.bslice false 1 [(.t 19)],none⟩,
⟨some 21,.append 1 8796093022208 (.t 13) (.t 20),none⟩,
⟨some 5,.cp (.t 21),none⟩] (none)))
(.region [
⟨some 11,.cp (.t 6),none⟩,
⟨some 12,.bin .add (.t 11) (.c (.s (.int .i64 1))),none⟩,
⟨some 6,.cp (.t 12),none⟩] (none))))
def zlh_:XF:={ np:=2,results:=[(.inl 4,.v)],body :=
(.seq (.region [
⟨some 4,.cp (.c (.s (.slice none 0 0))),none⟩] (none))
(.seq (.region [
⟨some 5,.cp (.c (.s (.slice none 0 0))),none⟩] (none))
(.seq (.seq (.region [
⟨some 6,.cp (.c (.s (.int .i64 0))),none⟩] (none))
(.block 0
(.loop zyd_)))
(.seq (.region [
⟨some 22,.cp (.t 5),none⟩,
⟨some 4,.cp (.t 22),none⟩] (none))
.ret)))) }
def zye_:XC :=
(.seq (.seq (.region [
⟨some 11,.cp (.t 5),none⟩,
⟨some 12,.cp (.t 0),none⟩,
⟨some 13,.len false (.t 12),none⟩,
⟨some 14,.bin .lss (.t 11) (.t 13),none⟩] (none))
(.cond (.t 14)
.skip
(.exit 0)))
(.seq (.block 1
(.seq (.region [
⟨some 17,.cp (.t 0),none⟩,
⟨some 18,.cp (.t 5),none⟩,
⟨some 19,.iaddr 1 (.t 17) (.t 18),none⟩,
⟨some 20,.load 1 false (.t 19),none⟩,
⟨some 21,.cp (.t 1),none⟩,
⟨some 22,.cp (.t 5),none⟩,
⟨some 23,.iaddr 1 (.t 21) (.t 22),none⟩,
⟨some 24,.load 1 false (.t 23),none⟩,
⟨some 25,.bin .neq (.t 20) (.t 24),none⟩] (some []))
(.cond (.t 25)
(.seq (.region [
⟨some 4,.cp (.c (.s (.bool false))),none⟩] (none))
.ret)
.skip)))
(.region [
⟨some 15,.cp (.t 5),none⟩,
⟨some 16,.bin .add (.t 15) (.c (.s (.int .i64 1))),none⟩,
⟨some 5,.cp (.t 16),none⟩] (none))))
def zli_:XF:={ np:=2,results:=[(.inl 4,.v)],body :=
(.seq (.region [
⟨some 4,.cp (.c (.s (.bool false))),none⟩] (none))
(.seq (.seq (.region [
⟨some 6,.cp (.t 0),none⟩,
⟨some 7,.len false (.t 6),none⟩,
⟨some 8,.cp (.t 1),none⟩,
⟨some 9,.len false (.t 8),none⟩,
⟨some 10,.bin .neq (.t 7) (.t 9),none⟩] (none))
(.cond (.t 10)
(.seq (.region [
⟨some 4,.cp (.c (.s (.bool false))),none⟩] (none))
.ret)
.skip))
(.seq (.seq (.region [
⟨some 5,.cp (.c (.s (.int .i64 0))),none⟩] (none))
(.block 0
(.loop zye_)))
(.seq (.region [
⟨some 4,.cp (.c (.s (.bool true))),none⟩] (none))
.ret)))) }
def zsc_:XC :=
(.seq (.seq (.region [
⟨some 22,.cp (.t 6),none⟩,
⟨some 23,.cp (.t 4),none⟩,
⟨some 24,.len false (.t 23),none⟩,
⟨some 25,.bin .lss (.t 22) (.t 24),none⟩] (none))
(.cond (.t 25)
.skip
(.exit 0)))
(.seq (.block 1
(.region [
⟨some 28,.cp (.t 3),none⟩,
⟨some 29,.cp (.t 0),none⟩,
⟨some 30,.cp (.t 4),none⟩,
⟨some 31,.cp (.t 6),none⟩,
⟨some 32,.iaddr 1 (.t 30) (.t 31),none⟩,
⟨some 33,.load 1 false (.t 32),none⟩,
⟨some 34,.call false zkw_ [(.t 29),(.t 33)],none⟩,
⟨some 35,.call false zcv_ [(.t 34)],none⟩,
⟨some 36,.bin .add (.t 28) (.t 35),none⟩,
⟨some 3,.cp (.t 36),none⟩] (none)))
(.region [
⟨some 26,.cp (.t 6),none⟩,
⟨some 27,.bin .add (.t 26) (.c (.s (.int .i64 1))),none⟩,
⟨some 6,.cp (.t 27),none⟩] (none))))
def zsd_:XC :=
(.seq (.seq (.region [
⟨some 37,.cp (.t 7),none⟩,
⟨some 38,.cp (.t 5),none⟩,
⟨some 39,.len false (.t 38),none⟩,
⟨some 40,.bin .lss (.t 37) (.t 39),none⟩] (none))
(.cond (.t 40)
.skip
(.exit 2)))
(.seq (.block 3
(.seq (.region [
⟨some 44,.cp (.t 0),none⟩,
⟨some 45,.cp (.t 5),none⟩,
⟨some 46,.cp (.t 7),none⟩,
⟨some 47,.iaddr 1 (.t 45) (.t 46),none⟩,
⟨some 48,.load 1 false (.t 47),none⟩,
⟨some 49,.call false zia_ [(.t 44),(.t 48)],none⟩,
⟨some 50,.call false zkx_ [(.t 49)],none⟩,
⟨some 43,.cp (.t 50),none⟩,
⟨some 51,.extract (.t 43) 0,none⟩,
⟨some 52,.extract (.t 43) 1,none⟩,
⟨some 8,.cp (.t 51),none⟩,
⟨some 9,.cp (.t 52),none⟩] (none))
(.region [
⟨some 53,.cp (.t 3),none⟩,
⟨some 54,.cp (.t 8),none⟩,
⟨some 55,.bin .add (.t 53) (.t 54),none⟩,
⟨some 56,.cp (.t 9),none⟩,
⟨some 57,.call false zcv_ [(.t 56)],none⟩,
⟨some 58,.bin .add (.t 55) (.t 57),none⟩,
⟨some 3,.cp (.t 58),none⟩] (none))))
(.region [
⟨some 41,.cp (.t 7),none⟩,
⟨some 42,.bin .add (.t 41) (.c (.s (.int .i64 1))),none⟩,
⟨some 7,.cp (.t 42),none⟩] (none))))
def zcfb_:XC :=
(.seq (.seq (.region [
⟨some 78,.cp (.t 14),none⟩,
⟨some 79,.cp (.t 0),none⟩,
⟨some 80,.cp (.t 13),none⟩,
⟨some 81,.iaddr 14 (.t 79) (.t 80),none⟩,
⟨some 82,.faddr (.t 81) 13,none⟩,
⟨some 83,.load 1 false (.t 82),none⟩,
⟨some 84,.len false (.t 83),none⟩,
⟨some 85,.bin .lss (.t 78) (.t 84),none⟩] (none))
(.cond (.t 85)
.skip
(.exit 6)))
(.seq (.block 7
(.region [
⟨some 88,.cp (.t 11),none⟩,
⟨some 89,.cp (.t 0),none⟩,
⟨some 90,.cp (.t 13),none⟩,
⟨some 91,.iaddr 14 (.t 89) (.t 90),none⟩,
⟨some 92,.faddr (.t 91) 13,none⟩,
⟨some 93,.load 1 false (.t 92),none⟩,
⟨some 94,.cp (.t 14),none⟩,
⟨some 95,.iaddr 2 (.t 93) (.t 94),none⟩,
⟨some 96,.faddr (.t 95) 0,none⟩,
⟨some 97,.load 1 false (.t 96),none⟩,
⟨some 98,.bslice false 1 [(.t 97)],none⟩,
⟨some 99,.append 1 17592186044416 (.t 88) (.t 98),none⟩,
⟨some 100,.cp (.t 12),none⟩,
⟨some 101,.cp (.t 0),none⟩,
⟨some 102,.cp (.t 13),none⟩,
⟨some 103,.iaddr 14 (.t 101) (.t 102),none⟩,
⟨some 104,.faddr (.t 103) 13,none⟩,
⟨some 105,.load 1 false (.t 104),none⟩,
⟨some 106,.cp (.t 14),none⟩,
⟨some 107,.iaddr 2 (.t 105) (.t 106),none⟩,
⟨some 108,.faddr (.t 107) 1,none⟩,
⟨some 109,.load 1 false (.t 108),none⟩,
⟨some 110,.bslice false 1 [(.t 109)],none⟩,
⟨some 111,.append 1 17592186044416 (.t 100) (.t 110),none⟩,
⟨some 11,.cp (.t 99),none⟩,
⟨some 12,.cp (.t 111),none⟩] (some [(11,some 15),(11,some 17),(11,some 19),(11,some 21)])))
(.region [
⟨some 86,.cp (.t 14),none⟩,
⟨some 87,.bin .add (.t 86) (.c (.s (.int .i64 1))),none⟩,
⟨some 14,.cp (.t 87),none⟩] (none))))
def zbgj_:XC :=
(.seq (.seq (.region [
⟨some 63,.cp (.t 13),none⟩,
⟨some 64,.cp (.t 0),none⟩,
⟨some 65,.len false (.t 64),none⟩,
⟨some 66,.bin .lss (.t 63) (.t 65),none⟩] (none))
(.cond (.t 66)
.skip
(.exit 4)))
(.seq (.block 5
(.seq (.region [
⟨some 69,.cp (.t 10),none⟩,
⟨some 70,.cp (.t 0),none⟩,
⟨some 71,.cp (.t 13),none⟩,
⟨some 72,.iaddr 14 (.t 70) (.t 71),none⟩,
⟨some 73,.faddr (.t 72) 13,none⟩,
⟨some 74,.load 1 false (.t 73),none⟩,
⟨some 75,.len false (.t 74),none⟩,
⟨some 76,.bslice false 1 [(.t 75)],none⟩,
⟨some 77,.append 1 17592186044416 (.t 69) (.t 76),none⟩,
⟨some 10,.cp (.t 77),none⟩] (none))
(.seq (.region [
⟨some 14,.cp (.c (.s (.int .i64 0))),none⟩] (none))
(.block 6
(.loop zcfb_)))))
(.region [
⟨some 67,.cp (.t 13),none⟩,
⟨some 68,.bin .add (.t 67) (.c (.s (.int .i64 1))),none⟩,
⟨some 13,.cp (.t 68),none⟩] (none))))
def zlj_:XF:={ np:=1,results:=[(.inl 2,.v)],body :=
(.seq (.region [
⟨some 2,.cp (.c (.s (.string ⟨#[]⟩))),none⟩] (none))
(.seq (.region [
⟨some 15,.cp (.t 0),none⟩,
⟨some 16,.len false (.t 15),none⟩,
⟨some 17,.call false zhj_ [(.t 16)],none⟩,
⟨some 3,.cp (.t 17),none⟩] (none))
(.seq (.region [
⟨some 19,.call false zsa_ [],none⟩,
⟨some 18,.cp (.t 19),none⟩,
⟨some 20,.extract (.t 18) 0,none⟩,
⟨some 21,.extract (.t 18) 1,none⟩,
⟨some 4,.cp (.t 20),none⟩,
⟨some 5,.cp (.t 21),none⟩] (none))
(.seq (.seq (.region [
⟨some 6,.cp (.c (.s (.int .i64 0))),none⟩] (none))
(.block 0
(.loop zsc_)))
(.seq (.seq (.region [
⟨some 7,.cp (.c (.s (.int .i64 0))),none⟩] (none))
(.block 2
(.loop zsd_)))
(.seq (.region [
⟨some 59,.cp (.t 3),none⟩,
⟨some 60,.cp (.t 0),none⟩,
⟨some 61,.call false zxy_ [(.t 60)],none⟩,
⟨some 62,.bin .add (.t 59) (.t 61),none⟩,
⟨some 3,.cp (.t 62),none⟩] (none))
(.seq (.region [
⟨some 10,.cp (.c (.s (.slice none 0 0))),none⟩,
⟨some 11,.cp (.c (.s (.slice none 0 0))),none⟩,
⟨some 12,.cp (.c (.s (.slice none 0 0))),none⟩] (none))
(.seq (.seq (.region [
⟨some 13,.cp (.c (.s (.int .i64 0))),none⟩] (none))
(.block 4
(.loop zbgj_)))
(.seq (.region [
⟨some 112,.cp (.t 3),none⟩,
⟨some 113,.cp (.t 10),none⟩,
⟨some 114,.call false zcv_ [(.t 113)],none⟩,
⟨some 115,.bin .add (.t 112) (.t 114),none⟩,
⟨some 116,.cp (.t 11),none⟩,
⟨some 117,.call false zcv_ [(.t 116)],none⟩,
⟨some 118,.bin .add (.t 115) (.t 117),none⟩,
⟨some 119,.cp (.t 12),none⟩,
⟨some 120,.call false zcv_ [(.t 119)],none⟩,
⟨some 121,.bin .add (.t 118) (.t 120),none⟩,
⟨some 2,.cp (.t 121),none⟩] (none))
.ret))))))))) }
def zse_:XC :=
(.seq (.region [
⟨some 34,.bin .lss (.t 33) (.t 32),none⟩] (none))
(.seq (.cond (.t 34)
.skip
(.exit 0))
(.seq (.block 1
(.seq (.region [
⟨some 35,.iaddr 1 (.t 31) (.t 33),none⟩,
⟨some 36,.load 1 false (.t 35),none⟩,
⟨some 5,.cp (.t 36),none⟩] (none))
(.seq (.region [
⟨some 38,.cp (.t 0),none⟩,
⟨some 39,.cp (.t 5),none⟩,
⟨some 40,.call false zem_ [(.t 38),(.t 39)],none⟩,
⟨some 37,.cp (.t 40),none⟩,
⟨some 41,.extract (.t 37) 0,none⟩,
⟨some 42,.extract (.t 37) 1,none⟩,
⟨some 6,.cp (.t 41),none⟩,
⟨some 7,.cp (.t 42),none⟩] (none))
(.region [
⟨some 43,.cp (.t 3),none⟩,
⟨some 44,.cp (.t 6),none⟩,
⟨some 45,.call false zdg_ [(.t 43),(.t 44)],none⟩] (none)))))
(.region [
⟨some 46,.bin .add (.t 33) (.c (.s (.int .i64 1))),none⟩,
⟨some 33,.cp (.t 46),none⟩] (none)))))
def zsf_:XC :=
(.seq (.region [
⟨some 50,.bin .lss (.t 49) (.t 48),none⟩] (none))
(.seq (.cond (.t 50)
.skip
(.exit 2))
(.seq (.block 3
(.seq (.region [
⟨some 51,.iaddr 1 (.t 47) (.t 49),none⟩,
⟨some 52,.load 1 false (.t 51),none⟩,
⟨some 9,.cp (.t 52),none⟩] (none))
(.seq (.region [
⟨some 54,.cp (.t 0),none⟩,
⟨some 55,.cp (.t 9),none⟩,
⟨some 56,.call false zdh_ [(.t 54),(.t 55)],none⟩,
⟨some 53,.cp (.t 56),none⟩,
⟨some 57,.extract (.t 53) 0,none⟩,
⟨some 58,.extract (.t 53) 1,none⟩,
⟨some 10,.cp (.t 57),none⟩,
⟨some 11,.cp (.t 58),none⟩] (none))
(.region [
⟨some 59,.cp (.t 3),none⟩,
⟨some 60,.cp (.t 10),none⟩,
⟨some 61,.call false zrr_ [(.t 59),(.t 60)],none⟩] (none)))))
(.region [
⟨some 62,.bin .add (.t 49) (.c (.s (.int .i64 1))),none⟩,
⟨some 49,.cp (.t 62),none⟩] (none)))))
def zbgk_:XC :=
(.seq (.region [
⟨some 83,.bin .lss (.t 82) (.t 81),none⟩] (none))
(.seq (.cond (.t 83)
.skip
(.exit 4))
(.seq (.block 5
(.seq (.region [
⟨some 84,.iaddr 4 (.t 80) (.t 82),none⟩,
⟨some 85,.load 4 true (.t 84),none⟩,
⟨some 15,.alloc [.s (.string ⟨#[]⟩),.s (.int .i64 0),.s (.string ⟨#[]⟩),.s (.int .i64 0)],none⟩,
⟨none,.store 4 (.t 15) (.t 85),none⟩] (none))
(.seq (.region [
⟨some 86,.faddr (.t 15) 1,none⟩,
⟨some 87,.faddr (.t 86) 0,none⟩,
⟨some 88,.load 1 false (.t 87),none⟩,
⟨some 89,.bin .eql (.t 88) (.c (.s (.int .i64 1))),none⟩] (none))
(.cond (.t 89)
(.region [
⟨some 90,.cp (.t 13),none⟩,
⟨some 91,.faddr (.t 15) 1,none⟩,
⟨some 92,.faddr (.t 91) 1,none⟩,
⟨some 93,.load 1 false (.t 92),none⟩,
⟨some 94,.bslice false 1 [(.t 93)],none⟩,
⟨some 95,.append 1 8796093022208 (.t 90) (.t 94),none⟩,
⟨some 13,.cp (.t 95),none⟩] (none))
.skip))))
(.region [
⟨some 96,.bin .add (.t 82) (.c (.s (.int .i64 1))),none⟩,
⟨some 82,.cp (.t 96),none⟩] (none)))))
def zbgl_:XC :=
(.seq (.region [
⟨some 121,.bin .lss (.t 120) (.t 119),none⟩] (none))
(.seq (.cond (.t 121)
.skip
(.exit 6))
(.seq (.block 7
(.seq (.region [
⟨some 122,.iaddr 14 (.t 118) (.t 120),none⟩,
⟨some 123,.load 14 true (.t 122),none⟩,
⟨some 22,.alloc [.s (.int .i64 0),.s (.int .i64 0),.s (.int .i64 0),.s (.int .i64 0),.s (.int .i64 0),.s (.int .i64 0),.s (.string ⟨#[]⟩),.s (.string ⟨#[]⟩),.s (.string ⟨#[]⟩),.s (.int .i64 0),.s (.int .i64 0),.s (.bool false),.s (.slice none 0 0),.s (.slice none 0 0)],none⟩,
⟨none,.store 14 (.t 22) (.t 123),none⟩] (none))
(.region [
⟨some 124,.cp (.t 20),none⟩,
⟨some 125,.faddr (.t 22) 13,none⟩,
⟨some 126,.load 1 false (.t 125),none⟩,
⟨some 127,.append 2 8796093022208 (.t 124) (.t 126),none⟩,
⟨some 20,.cp (.t 127),none⟩] (none))))
(.region [
⟨some 128,.bin .add (.t 120) (.c (.s (.int .i64 1))),none⟩,
⟨some 120,.cp (.t 128),none⟩] (none)))))
def zlk_:XF:={ np:=1,results:=[(.inl 2,.v)],body :=
(.seq (.region [
⟨some 2,.cp (.c (.s (.string ⟨#[]⟩))),none⟩] (none))
(.seq (.seq (.region [
⟨some 23,.cp (.t 0),none⟩,
⟨some 24,.eqv .p false (.t 23) (.c (.s (.pointer none))),none⟩] (none))
(.cond (.t 24)
(.seq (.region [
⟨some 2,.cp (.c (.s (.string ⟨#[]⟩))),none⟩] (none))
.ret)
.skip))
(.seq (.region [
⟨some 25,.build false [.s (.slice none 0 0)] [],none⟩,
⟨some 26,.box false (.t 25),none⟩,
⟨some 3,.cp (.t 26),none⟩] (none))
(.seq (.region [
⟨some 27,.cp (.t 3),none⟩,
⟨some 28,.cp (.t 0),none⟩,
⟨some 29,.call false zhw_ [(.t 28)],none⟩,
⟨some 30,.call false zbn_ [(.t 27),(.t 29)],none⟩] (none))
(.seq (.seq (.region [
⟨some 31,.call false zww_ [],none⟩,
⟨some 32,.len false (.t 31),none⟩,
⟨some 33,.cp (.c (.s (.int .i64 0))),none⟩] (none))
(.block 0
(.loop zse_)))
(.seq (.seq (.region [
⟨some 47,.call false zwx_ [],none⟩,
⟨some 48,.len false (.t 47),none⟩,
⟨some 49,.cp (.c (.s (.int .i64 0))),none⟩] (none))
(.block 2
(.loop zsf_)))
(.seq (.region [
⟨some 63,.cp (.t 0),none⟩,
⟨some 64,.call false zwy_ [(.t 63)],none⟩,
⟨some 12,.cp (.t 64),none⟩] (none))
(.seq (.region [
⟨some 65,.cp (.t 3),none⟩,
⟨some 66,.cp (.t 0),none⟩,
⟨some 67,.nilchk (.t 66),none⟩,
⟨some 68,.faddr (.t 67) 0,none⟩,
⟨some 69,.load 1 false (.t 68),none⟩,
⟨some 70,.call false zhx_ [(.t 69),(.c (.fn zces_ [] []))],none⟩,
⟨some 71,.call false zdg_ [(.t 65),(.t 70)],none⟩] (none))
(.seq (.region [
⟨some 72,.cp (.t 3),none⟩,
⟨some 73,.cp (.t 12),none⟩,
⟨some 74,.call false zrs_ [(.t 73),(.c (.fn zcet_ [] []))],none⟩,
⟨some 75,.call false zrr_ [(.t 72),(.t 74)],none⟩] (none))
(.seq (.region [
⟨some 76,.cp (.t 3),none⟩,
⟨some 77,.cp (.t 12),none⟩,
⟨some 78,.call false zrt_ [(.t 77),(.c (.fn zceu_ [] []))],none⟩,
⟨some 79,.call false zdg_ [(.t 76),(.t 78)],none⟩] (none))
(.seq (.region [
⟨some 13,.cp (.c (.s (.slice none 0 0))),none⟩] (none))
(.seq (.seq (.region [
⟨some 80,.cp (.t 12),none⟩,
⟨some 81,.len false (.t 80),none⟩,
⟨some 82,.cp (.c (.s (.int .i64 0))),none⟩] (none))
(.block 4
(.loop zbgk_)))
(.seq (.region [
⟨some 98,.cp (.t 13),none⟩,
⟨some 99,.call false zdi_ [(.t 98)],none⟩,
⟨some 97,.cp (.t 99),none⟩,
⟨some 100,.extract (.t 97) 0,none⟩,
⟨some 101,.extract (.t 97) 1,none⟩,
⟨some 16,.alloc [.s (.slice none 0 0)],none⟩,
⟨none,.store 1 (.t 16) (.t 100),none⟩,
⟨some 17,.cp (.t 101),none⟩] (none))
(.seq (.region [
⟨some 103,.load 1 false (.t 16),none⟩,
⟨some 104,.call false zkh_ [(.t 103)],none⟩,
⟨some 102,.cp (.t 104),none⟩,
⟨some 105,.extract (.t 102) 0,none⟩,
⟨some 106,.extract (.t 102) 1,none⟩,
⟨some 18,.cp (.t 105),none⟩,
⟨some 19,.cp (.t 106),none⟩] (none))
(.seq (.region [
⟨some 107,.cp (.t 3),none⟩,
⟨some 108,.cp (.t 18),none⟩,
⟨some 109,.call false zek_ [(.t 107),(.t 108)],none⟩] (none))
(.seq (.region [
⟨some 110,.cp (.t 3),none⟩,
⟨some 111,.cp (.t 12),none⟩,
⟨some 112,.mkfn false zcev_ [] [(.t 16)],none⟩,
⟨some 113,.call false zrt_ [(.t 111),(.t 112)],none⟩,
⟨some 114,.call false zdg_ [(.t 110),(.t 113)],none⟩] (none))
(.seq (.region [
⟨some 20,.cp (.c (.s (.slice none 0 0))),none⟩] (none))
(.seq (.seq (.region [
⟨some 115,.cp (.t 0),none⟩,
⟨some 116,.nilchk (.t 115),none⟩,
⟨some 117,.faddr (.t 116) 0,none⟩,
⟨some 118,.load 1 false (.t 117),none⟩,
⟨some 119,.len false (.t 118),none⟩,
⟨some 120,.cp (.c (.s (.int .i64 0))),none⟩] (none))
(.block 6
(.loop zbgl_)))
(.seq (.region [
⟨some 129,.cp (.t 3),none⟩,
⟨some 130,.cp (.t 0),none⟩,
⟨some 131,.nilchk (.t 130),none⟩,
⟨some 132,.faddr (.t 131) 0,none⟩,
⟨some 133,.load 1 false (.t 132),none⟩,
⟨some 134,.call false zhx_ [(.t 133),(.c (.fn zcew_ [] []))],none⟩,
⟨some 135,.call false zdg_ [(.t 129),(.t 134)],none⟩] (none))
(.seq (.region [
⟨some 136,.cp (.t 3),none⟩,
⟨some 137,.cp (.t 20),none⟩,
⟨some 138,.call false zki_ [(.t 137),(.c (.fn zcex_ [] []))],none⟩,
⟨some 139,.call false zdg_ [(.t 136),(.t 138)],none⟩] (none))
(.seq (.region [
⟨some 140,.cp (.t 3),none⟩,
⟨some 141,.cp (.t 20),none⟩,
⟨some 142,.call false zki_ [(.t 141),(.c (.fn zcey_ [] []))],none⟩,
⟨some 143,.call false zdg_ [(.t 140),(.t 142)],none⟩] (none))
(.seq (.region [
⟨some 144,.cp (.t 3),none⟩,
⟨some 145,.call false zhi_ [(.t 144)],none⟩,
⟨some 2,.cp (.t 145),none⟩] (none))
.ret)))))))))))))))))))))) }
def zll_:XF:={ np:=1,results:=[(.inl 2,.v)],body :=
(.seq (.region [
⟨some 2,.cp (.c (.s (.int .i64 0))),none⟩] (none))
(.seq (.seq (.region [
⟨some 3,.cp (.t 0),none⟩,
⟨some 4,.eqv .p false (.t 3) (.c (.s (.pointer none))),none⟩] (none))
(.cond (.t 4)
(.seq (.region [
⟨some 2,.cp (.c (.s (.int .i64 0))),none⟩] (none))
.ret)
.skip))
(.seq (.region [
⟨some 5,.cp (.t 0),none⟩,
⟨some 6,.nilchk (.t 5),none⟩,
⟨some 7,.faddr (.t 6) 0,none⟩,
⟨some 8,.load 1 false (.t 7),none⟩,
⟨some 9,.len false (.t 8),none⟩,
⟨some 2,.cp (.t 9),none⟩] (none))
.ret))) }
def zlm_:XF:={ np:=1,results:=[(.inr (2,1,true),.v)],body :=
(.seq (.region [
⟨some 1,.box false (.t 0),none⟩,
⟨some 2,.alloc [.s (.slice none 0 0)],none⟩] (none))
(.seq (.region [
⟨some 3,.load 1 false (.t 1),none⟩,
⟨some 4,.mkfn false zsb_ [] [(.t 1)],none⟩,
⟨some 5,.call false zxx_ [(.t 3),(.t 4)],none⟩,
⟨none,.store 1 (.t 2) (.t 5),none⟩] (none))
.ret)) }
def zsg_:XC :=
(.seq (.seq (.region [
⟨some 16,.cp (.t 6),none⟩,
⟨some 17,.faddr (.t 5) 1,none⟩,
⟨some 18,.load 1 false (.t 17),none⟩,
⟨some 19,.bin .leq (.t 16) (.t 18),none⟩] (none))
(.cond (.t 19)
.skip
(.exit 2)))
(.seq (.block 3
(.region [
⟨some 22,.cp (.t 3),none⟩,
⟨some 23,.cp (.t 6),none⟩,
⟨some 24,.bslice false 1 [(.t 23)],none⟩,
⟨some 25,.append 1 17592186044416 (.t 22) (.t 24),none⟩,
⟨some 3,.cp (.t 25),none⟩] (none)))
(.region [
⟨some 20,.cp (.t 6),none⟩,
⟨some 21,.bin .add (.t 20) (.c (.s (.int .i64 1))),none⟩,
⟨some 6,.cp (.t 21),none⟩] (none))))
def zyf_:XC :=
(.seq (.region [
⟨some 11,.bin .lss (.t 10) (.t 9),none⟩] (none))
(.seq (.cond (.t 11)
.skip
(.exit 0))
(.seq (.block 1
(.seq (.region [
⟨some 12,.iaddr 2 (.t 8) (.t 10),none⟩,
⟨some 13,.load 2 true (.t 12),none⟩,
⟨some 5,.alloc [.s (.int .i64 0),.s (.int .i64 0)],none⟩,
⟨none,.store 2 (.t 5) (.t 13),none⟩] (none))
(.seq (.region [
⟨some 14,.faddr (.t 5) 0,none⟩,
⟨some 15,.load 1 false (.t 14),none⟩,
⟨some 6,.cp (.t 15),none⟩] (none))
(.block 2
(.loop zsg_)))))
(.region [
⟨some 26,.bin .add (.t 10) (.c (.s (.int .i64 1))),none⟩,
⟨some 10,.cp (.t 26),none⟩] (none)))))
def zln_:XF:={ np:=1,results:=[(.inl 2,.v)],body :=
(.seq (.region [
⟨some 1,.box false (.t 0),none⟩,
⟨some 2,.cp (.c (.s (.slice none 0 0))),none⟩] (none))
(.seq (.region [
⟨some 3,.cp (.c (.s (.slice none 0 0))),none⟩] (none))
(.seq (.seq (.region [
⟨some 7,.faddr (.t 1) 0,none⟩,
⟨some 8,.load 1 false (.t 7),none⟩,
⟨some 9,.len false (.t 8),none⟩,
⟨some 10,.cp (.c (.s (.int .i64 0))),none⟩] (none))
(.block 0
(.loop zyf_)))
(.seq (.region [
⟨some 27,.cp (.t 3),none⟩,
⟨some 2,.cp (.t 27),none⟩] (none))
.ret)))) }
def zsh_:XC :=
(.seq (.region [
⟨some 11,.bin .lss (.t 10) (.t 9),none⟩] (none))
(.seq (.cond (.t 11)
.skip
(.exit 0))
(.seq (.block 1
(.seq (.region [
⟨some 12,.cp (.t 10),none⟩,
⟨some 13,.iaddr 14 (.t 8) (.t 10),none⟩,
⟨some 14,.load 14 true (.t 13),none⟩,
⟨some 7,.alloc [.s (.int .i64 0),.s (.int .i64 0),.s (.int .i64 0),.s (.int .i64 0),.s (.int .i64 0),.s (.int .i64 0),.s (.string ⟨#[]⟩),.s (.string ⟨#[]⟩),.s (.string ⟨#[]⟩),.s (.int .i64 0),.s (.int .i64 0),.s (.bool false),.s (.slice none 0 0),.s (.slice none 0 0)],none⟩,
⟨some 6,.cp (.t 12),none⟩,
⟨none,.store 14 (.t 7) (.t 14),none⟩] (none))
(.seq (.region [
⟨some 15,.cp (.t 1),none⟩,
⟨some 16,.cp (.t 6),none⟩,
⟨some 17,.callv false (.t 15) [(.t 16)],none⟩] (none))
(.cond (.t 17)
(.region [
⟨some 18,.cp (.t 5),none⟩,
⟨some 19,.load 14 true (.t 7),none⟩,
⟨some 20,.call false zwp_ [(.t 19)],none⟩,
⟨some 21,.bslice false 14 [(.t 20)],none⟩,
⟨some 22,.append 14 837723144972 (.t 18) (.t 21),none⟩,
⟨some 5,.cp (.t 22),none⟩] (none))
.skip))))
(.region [
⟨some 23,.bin .add (.t 10) (.c (.s (.int .i64 1))),none⟩,
⟨some 10,.cp (.t 23),none⟩] (none)))))
def zlo_:XF:={ np:=2,results:=[(.inl 4,.v)],body :=
(.seq (.region [
⟨some 4,.cp (.c (.s (.slice none 0 0))),none⟩] (none))
(.seq (.region [
⟨some 5,.cp (.c (.s (.slice none 0 0))),none⟩] (none))
(.seq (.seq (.region [
⟨some 8,.cp (.t 0),none⟩,
⟨some 9,.len false (.t 8),none⟩,
⟨some 10,.cp (.c (.s (.int .i64 0))),none⟩] (none))
(.block 0
(.loop zsh_)))
(.seq (.region [
⟨some 24,.cp (.t 5),none⟩,
⟨some 4,.cp (.t 24),none⟩] (none))
.ret)))) }
def zfp_:XF:={ np:=1,results:=[(.inl 2,.v)],body :=
(.seq (.region [
⟨some 2,.cp (.c (.s (.slice none 0 0))),none⟩] (none))
(.seq (.region [
⟨some 3,.cp (.t 0),none⟩,
⟨some 4,.call false zfo_ [(.t 3)],none⟩,
⟨some 5,.call true zwq_ [(.t 4),(.c (.fn zfm_ [] []))],none⟩,
⟨some 6,.call false zkf_ [(.t 5),(.c (.fn zel_ [] []))],none⟩,
⟨some 2,.cp (.t 6),none⟩] (none))
.ret)) }
def zlp_:XF:={ np:=1,results:=[(.inl 2,.v)],body :=
(.seq (.region [
⟨some 2,.cp (.c (.s (.bool false))),none⟩] (none))
(.seq (.region [
⟨some 2,.cp (.c (.s (.bool true))),none⟩] (none))
.ret)) }
def zii_:XC :=
(.seq (.seq (.region [
⟨some 4,.cp (.t 3),none⟩,
⟨some 5,.faddr (.t 1) 0,none⟩,
⟨some 6,.load 1 false (.t 5),none⟩,
⟨some 7,.len false (.t 6),none⟩,
⟨some 8,.bin .lss (.t 4) (.t 7),none⟩] (none))
(.cond (.t 8)
.skip
(.exit 0)))
(.seq (.block 1
(.seq (.region [
⟨some 11,.faddr (.t 1) 0,none⟩,
⟨some 12,.load 1 false (.t 11),none⟩,
⟨some 13,.cp (.t 3),none⟩,
⟨some 14,.iaddr 3 (.t 12) (.t 13),none⟩,
⟨some 15,.faddr (.t 14) 2,none⟩,
⟨some 16,.load 1 false (.t 15),none⟩,
⟨some 17,.len false (.t 16),none⟩,
⟨some 18,.bin .gtr (.t 17) (.c (.s (.int .i64 8))),none⟩] (none))
(.cond (.t 18)
(.seq (.region [
⟨some 2,.cp (.c (.s (.bool false))),none⟩] (none))
.ret)
.skip)))
(.region [
⟨some 9,.cp (.t 3),none⟩,
⟨some 10,.bin .add (.t 9) (.c (.s (.int .i64 1))),none⟩,
⟨some 3,.cp (.t 10),none⟩] (none))))
def zlq_:XF:={ np:=1,results:=[(.inl 2,.v)],body :=
(.seq (.region [
⟨some 1,.box false (.t 0),none⟩,
⟨some 2,.cp (.c (.s (.bool false))),none⟩] (none))
(.seq (.seq (.region [
⟨some 3,.cp (.c (.s (.int .i64 0))),none⟩] (none))
(.block 0
(.loop zii_)))
(.seq (.region [
⟨some 19,.faddr (.t 1) 0,none⟩,
⟨some 20,.load 1 false (.t 19),none⟩,
⟨some 21,.len false (.t 20),none⟩,
⟨some 22,.bin .leq (.t 21) (.c (.s (.int .i64 3))),none⟩,
⟨some 23,.cp (.t 22),none⟩,
⟨some 24,.faddr (.t 1) 5,some (23,true)⟩,
⟨some 25,.load 1 false (.t 24),some (23,true)⟩,
⟨some 26,.len false (.t 25),some (23,true)⟩,
⟨some 27,.bin .leq (.t 26) (.c (.s (.int .i64 6))),some (23,true)⟩,
⟨some 28,.pick (.t 23) (.t 27) (.c (.s (.bool false))),none⟩,
⟨some 2,.cp (.t 28),none⟩] (none))
.ret))) }
def zij_:XC :=
(.seq (.seq (.region [
⟨some 25,.cp (.t 10),none⟩,
⟨some 26,.cp (.t 6),none⟩,
⟨some 27,.len false (.t 26),none⟩,
⟨some 28,.bin .lss (.t 25) (.t 27),none⟩] (none))
(.cond (.t 28)
.skip
(.exit 2)))
(.seq (.block 3
(.seq (.seq (.region [
⟨some 31,.cp (.t 6),none⟩,
⟨some 32,.cp (.t 10),none⟩,
⟨some 33,.iaddr 14 (.t 31) (.t 32),none⟩,
⟨some 34,.faddr (.t 33) 4,none⟩,
⟨some 35,.load 1 false (.t 34),none⟩,
⟨some 36,.cp (.t 8),none⟩,
⟨some 37,.bin .neq (.t 35) (.t 36),none⟩] (none))
(.cond (.t 37)
(.exit 3)
.skip))
(.seq (.seq (.region [
⟨some 38,.cp (.t 6),none⟩,
⟨some 39,.cp (.t 10),none⟩,
⟨some 40,.iaddr 14 (.t 38) (.t 39),none⟩,
⟨some 41,.faddr (.t 40) 3,none⟩,
⟨some 42,.load 1 false (.t 41),none⟩,
⟨some 43,.bin .gtr (.t 42) (.c (.s (.int .i64 0))),none⟩] (none))
(.cond (.t 43)
(.seq (.region [
⟨some 44,.cp (.t 6),none⟩,
⟨some 45,.cp (.t 10),none⟩,
⟨some 46,.iaddr 14 (.t 44) (.t 45),none⟩,
⟨some 47,.load 14 true (.t 46),none⟩,
⟨some 11,.alloc [.s (.int .i64 0),.s (.int .i64 0),.s (.int .i64 0),.s (.int .i64 0),.s (.int .i64 0),.s (.int .i64 0),.s (.string ⟨#[]⟩),.s (.string ⟨#[]⟩),.s (.string ⟨#[]⟩),.s (.int .i64 0),.s (.int .i64 0),.s (.bool false),.s (.slice none 0 0),.s (.slice none 0 0)],none⟩,
⟨none,.store 14 (.t 11) (.t 47),none⟩] (none))
(.seq (.region [
⟨some 48,.faddr (.t 11) 9,none⟩,
⟨some 49,.load 1 false (.t 48),none⟩,
⟨some 50,.faddr (.t 11) 3,none⟩,
⟨none,.store 1 (.t 50) (.c (.s (.int .i64 0))),none⟩,
⟨some 51,.faddr (.t 11) 10,none⟩,
⟨none,.store 1 (.t 51) (.t 49),none⟩,
⟨some 52,.faddr (.t 11) 11,none⟩,
⟨none,.store 1 (.t 52) (.c (.s (.bool false))),none⟩] (none))
(.region [
⟨some 53,.cp (.t 9),none⟩,
⟨some 54,.load 14 true (.t 11),none⟩,
⟨some 55,.bslice false 14 [(.t 54)],none⟩,
⟨some 56,.append 14 837723144972 (.t 53) (.t 55),none⟩,
⟨some 9,.cp (.t 56),none⟩] (none))))
.skip))
(.region [
⟨some 57,.cp (.t 9),none⟩,
⟨some 58,.cp (.t 6),none⟩,
⟨some 59,.cp (.t 10),none⟩,
⟨some 60,.iaddr 14 (.t 58) (.t 59),none⟩,
⟨some 61,.load 14 true (.t 60),none⟩,
⟨some 62,.bslice false 14 [(.t 61)],none⟩,
⟨some 63,.append 14 837723144972 (.t 57) (.t 62),none⟩,
⟨some 9,.cp (.t 63),none⟩] (none)))))
(.region [
⟨some 29,.cp (.t 10),none⟩,
⟨some 30,.bin .add (.t 29) (.c (.s (.int .i64 1))),none⟩,
⟨some 10,.cp (.t 30),none⟩] (none))))
def zik_:XC :=
(.seq (.seq (.region [
⟨some 64,.cp (.t 13),none⟩,
⟨some 65,.cp (.t 9),none⟩,
⟨some 66,.len false (.t 65),none⟩,
⟨some 67,.bin .lss (.t 64) (.t 66),none⟩] (none))
(.cond (.t 67)
.skip
(.exit 4)))
(.seq (.block 5
(.seq (.region [
⟨some 74,.cp (.t 8),none⟩,
⟨some 75,.cp (.t 12),none⟩,
⟨some 76,.cp (.t 9),none⟩,
⟨some 77,.cp (.t 13),none⟩,
⟨some 78,.cp (.t 9),none⟩,
⟨some 79,.len false (.t 78),none⟩,
⟨some 80,.cp (.t 13),none⟩,
⟨some 81,.bin .add (.t 80) (.c (.s (.int .i64 1))),none⟩,
⟨some 82,.cp (.t 1),none⟩,
⟨some 83,.bin .rem (.t 82) (.c (.s (.int .u8 4))),none⟩,
⟨some 84,.conv .i64 (.t 83),none⟩,
⟨some 85,.bin .add (.t 81) (.t 84),none⟩,
⟨some 86,.minmax false [(.t 79),(.t 85)],none⟩,
⟨some 87,.slFrz 14 (.t 76) (some (.t 77)) (some (.t 86)),none⟩,
⟨some 88,.build false [.s (.int .i64 0),.s (.int .i64 0),.s (.slice none 0 0),.s (.slice none 0 0)] [(0,1,(.t 74)),(1,1,(.t 75)),(2,1,(.t 87))],none⟩,
⟨some 14,.alloc [.s (.int .i64 0),.s (.int .i64 0),.s (.slice none 0 0),.s (.slice none 0 0)],none⟩,
⟨none,.store 4 (.t 14) (.t 88),none⟩] (none))
(.region [
⟨some 89,.cp (.t 5),none⟩,
⟨some 90,.load 4 true (.t 14),none⟩,
⟨some 91,.bslice false 4 [(.t 90)],none⟩,
⟨some 92,.append 4 2199023255552 (.t 89) (.t 91),none⟩,
⟨some 93,.cp (.t 12),none⟩,
⟨some 94,.bin .add (.t 93) (.c (.s (.int .i64 1))),none⟩,
⟨some 5,.cp (.t 92),none⟩,
⟨some 12,.cp (.t 94),none⟩] (none))))
(.region [
⟨some 68,.cp (.t 13),none⟩,
⟨some 69,.bin .add (.t 68) (.c (.s (.int .i64 1))),none⟩,
⟨some 70,.cp (.t 1),none⟩,
⟨some 71,.bin .rem (.t 70) (.c (.s (.int .u8 4))),none⟩,
⟨some 72,.conv .i64 (.t 71),none⟩,
⟨some 73,.bin .add (.t 69) (.t 72),none⟩,
⟨some 13,.cp (.t 73),none⟩] (none))))
def zil_:XC :=
(.seq (.seq (.region [
⟨some 98,.cp (.t 16),none⟩,
⟨some 99,.cp (.t 7),none⟩,
⟨some 100,.len false (.t 99),none⟩,
⟨some 101,.bin .lss (.t 98) (.t 100),none⟩] (none))
(.cond (.t 101)
.skip
(.exit 6)))
(.seq (.block 7
(.seq (.region [
⟨some 104,.cp (.t 7),none⟩,
⟨some 105,.cp (.t 16),none⟩,
⟨some 106,.iaddr 5 (.t 104) (.t 105),none⟩,
⟨some 107,.faddr (.t 106) 1,none⟩,
⟨some 108,.load 1 false (.t 107),none⟩,
⟨some 109,.cp (.t 8),none⟩,
⟨some 110,.bin .eql (.t 108) (.t 109),none⟩] (none))
(.cond (.t 110)
(.region [
⟨some 111,.faddr (.t 15) 3,none⟩,
⟨some 112,.load 1 false (.t 111),none⟩,
⟨some 113,.cp (.t 7),none⟩,
⟨some 114,.cp (.t 16),none⟩,
⟨some 115,.iaddr 5 (.t 113) (.t 114),none⟩,
⟨some 116,.load 5 true (.t 115),none⟩,
⟨some 117,.bslice false 5 [(.t 116)],none⟩,
⟨some 118,.append 5 3518437208883 (.t 112) (.t 117),none⟩,
⟨some 119,.faddr (.t 15) 3,none⟩,
⟨none,.store 1 (.t 119) (.t 118),none⟩] (some []))
.skip)))
(.region [
⟨some 102,.cp (.t 16),none⟩,
⟨some 103,.bin .add (.t 102) (.c (.s (.int .i64 1))),none⟩,
⟨some 16,.cp (.t 103),none⟩] (none))))
def zsi_:XC :=
(.seq (.seq (.region [
⟨some 21,.cp (.t 8),none⟩,
⟨some 22,.bin .leq (.t 21) (.c (.s (.int .i64 4))),none⟩] (none))
(.cond (.t 22)
.skip
(.exit 0)))
(.seq (.block 1
(.seq (.region [
⟨some 9,.cp (.c (.s (.slice none 0 0))),none⟩] (none))
(.seq (.seq (.region [
⟨some 10,.cp (.c (.s (.int .i64 0))),none⟩] (none))
(.block 2
(.loop zij_)))
(.seq (.region [
⟨some 12,.cp (.c (.s (.int .i64 0))),none⟩] (none))
(.seq (.seq (.region [
⟨some 13,.cp (.c (.s (.int .i64 0))),none⟩] (none))
(.block 4
(.loop zik_)))
(.seq (.region [
⟨some 95,.cp (.t 8),none⟩,
⟨some 96,.cp (.t 12),none⟩,
⟨some 97,.build false [.s (.int .i64 0),.s (.int .i64 0),.s (.slice none 0 0),.s (.slice none 0 0)] [(0,1,(.t 95)),(1,1,(.t 96))],none⟩,
⟨some 15,.alloc [.s (.int .i64 0),.s (.int .i64 0),.s (.slice none 0 0),.s (.slice none 0 0)],none⟩,
⟨none,.store 4 (.t 15) (.t 97),none⟩] (none))
(.seq (.seq (.region [
⟨some 16,.cp (.c (.s (.int .i64 0))),none⟩] (none))
(.block 6
(.loop zil_)))
(.seq (.region [
⟨some 120,.faddr (.t 15) 3,none⟩,
⟨some 121,.load 1 false (.t 120),none⟩,
⟨some 122,.len false (.t 121),none⟩,
⟨some 123,.bin .gtr (.t 122) (.c (.s (.int .i64 0))),none⟩] (none))
(.cond (.t 123)
(.region [
⟨some 124,.cp (.t 5),none⟩,
⟨some 125,.load 4 true (.t 15),none⟩,
⟨some 126,.bslice false 4 [(.t 125)],none⟩,
⟨some 127,.append 4 2199023255552 (.t 124) (.t 126),none⟩,
⟨some 5,.cp (.t 127),none⟩] (none))
.skip)))))))))
(.region [
⟨some 23,.cp (.t 8),none⟩,
⟨some 24,.bin .add (.t 23) (.c (.s (.int .i64 1))),none⟩,
⟨some 8,.cp (.t 24),none⟩] (none))))
def zlr_:XF:={ np:=2,results:=[(.inl 4,.v)],body :=
(.seq (.region [
⟨some 2,.box false (.t 0),none⟩,
⟨some 4,.cp (.c (.s (.slice none 0 0))),none⟩] (none))
(.seq (.region [
⟨some 5,.cp (.c (.s (.slice none 0 0))),none⟩] (none))
(.seq (.region [
⟨some 17,.load 7 true (.t 2),none⟩,
⟨some 18,.call false zwz_ [(.t 17)],none⟩,
⟨some 19,.load 7 true (.t 2),none⟩,
⟨some 20,.call false zxa_ [(.t 19)],none⟩,
⟨some 6,.cp (.t 18),none⟩,
⟨some 7,.cp (.t 20),none⟩] (some [(1,some 2)]))
(.seq (.seq (.region [
⟨some 8,.cp (.c (.s (.int .i64 1))),none⟩] (none))
(.block 0
(.loop zsi_)))
(.seq (.region [
⟨some 128,.cp (.t 5),none⟩,
⟨some 4,.cp (.t 128),none⟩] (none))
.ret))))) }
def zaz_:XF:={ np:=1,results:=[(.inl 2,.v)],body :=
(.seq (.region [
⟨some 1,.box false (.t 0),none⟩,
⟨some 2,.cp (.c (.s (.int .i64 0))),none⟩] (none))
(.seq (.block 0
(.seq (.region [
⟨some 4,.faddr (.t 1) 0,none⟩,
⟨some 5,.load 1 false (.t 4),none⟩,
⟨some 6,.call false zhs_ [(.t 5)],none⟩,
⟨some 7,.cp (.t 6),none⟩,
⟨some 8,.faddr (.t 1) 1,some (7,false)⟩,
⟨some 9,.load 1 false (.t 8),some (7,false)⟩,
⟨some 10,.call false zhs_ [(.t 9)],some (7,false)⟩,
⟨some 11,.pick (.t 7) (.c (.s (.bool true))) (.t 10),none⟩,
⟨some 12,.cp (.t 11),none⟩,
⟨some 13,.faddr (.t 1) 2,some (12,false)⟩,
⟨some 14,.load 1 false (.t 13),some (12,false)⟩,
⟨some 15,.bin .lss (.t 14) (.c (.s (.int .i64 0))),some (12,false)⟩,
⟨some 16,.pick (.t 12) (.c (.s (.bool true))) (.t 15),none⟩,
⟨some 17,.cp (.t 16),none⟩,
⟨some 18,.faddr (.t 1) 2,some (17,false)⟩,
⟨some 19,.load 1 false (.t 18),some (17,false)⟩,
⟨some 20,.bin .gtr (.t 19) (.c (.s (.int .i64 1099511627776))),some (17,false)⟩,
⟨some 21,.pick (.t 17) (.c (.s (.bool true))) (.t 20),none⟩,
⟨some 22,.cp (.t 21),none⟩,
⟨some 23,.faddr (.t 1) 3,some (22,false)⟩,
⟨some 24,.load 1 false (.t 23),some (22,false)⟩,
⟨some 25,.bin .lss (.t 24) (.c (.s (.int .i64 0))),some (22,false)⟩,
⟨some 26,.pick (.t 22) (.c (.s (.bool true))) (.t 25),none⟩,
⟨some 27,.cp (.t 26),none⟩,
⟨some 28,.faddr (.t 1) 3,some (27,false)⟩,
⟨some 29,.load 1 false (.t 28),some (27,false)⟩,
⟨some 30,.bin .gtr (.t 29) (.c (.s (.int .i64 1048576))),some (27,false)⟩,
⟨some 31,.pick (.t 27) (.c (.s (.bool true))) (.t 30),none⟩,
⟨some 32,.cp (.t 31),none⟩,
⟨some 33,.faddr (.t 1) 4,some (32,false)⟩,
⟨some 34,.load 1 false (.t 33),some (32,false)⟩,
⟨some 35,.bin .lss (.t 34) (.c (.s (.int .i64 1))),some (32,false)⟩,
⟨some 36,.pick (.t 32) (.c (.s (.bool true))) (.t 35),none⟩,
⟨some 37,.cp (.t 36),none⟩,
⟨some 38,.faddr (.t 1) 4,some (37,false)⟩,
⟨some 39,.load 1 false (.t 38),some (37,false)⟩,
⟨some 40,.bin .gtr (.t 39) (.c (.s (.int .i64 1048576))),some (37,false)⟩,
⟨some 41,.pick (.t 37) (.c (.s (.bool true))) (.t 40),none⟩,
⟨some 3,.cp (.t 41),none⟩] (none))
(.cond (.t 3)
(.seq (.region [
⟨some 2,.cp (.c (.s (.int .i64 2))),none⟩] (none))
.ret)
(.seq (.region [
⟨some 43,.faddr (.t 1) 5,none⟩,
⟨some 44,.load 1 false (.t 43),none⟩,
⟨some 45,.bin .lss (.t 44) (.c (.s (.int .i64 1))),none⟩,
⟨some 46,.cp (.t 45),none⟩,
⟨some 47,.faddr (.t 1) 5,some (46,false)⟩,
⟨some 48,.load 1 false (.t 47),some (46,false)⟩,
⟨some 49,.bin .gtr (.t 48) (.c (.s (.int .i64 5))),some (46,false)⟩,
⟨some 50,.pick (.t 46) (.c (.s (.bool true))) (.t 49),none⟩,
⟨some 42,.cp (.t 50),none⟩] (none))
(.cond (.t 42)
(.seq (.region [
⟨some 2,.cp (.c (.s (.int .i64 12))),none⟩] (none))
.ret)
(.seq (.region [
⟨some 52,.faddr (.t 1) 6,none⟩,
⟨some 53,.load 1 false (.t 52),none⟩,
⟨some 54,.call false zht_ [(.t 53)],none⟩,
⟨some 55,.un .not (.t 54),none⟩,
⟨some 56,.cp (.t 55),none⟩,
⟨some 57,.faddr (.t 1) 8,some (56,false)⟩,
⟨some 58,.load 1 false (.t 57),some (56,false)⟩,
⟨some 59,.call false zht_ [(.t 58)],some (56,false)⟩,
⟨some 60,.un .not (.t 59),some (56,false)⟩,
⟨some 61,.pick (.t 56) (.c (.s (.bool true))) (.t 60),none⟩,
⟨some 62,.cp (.t 61),none⟩,
⟨some 63,.faddr (.t 1) 7,some (62,false)⟩,
⟨some 64,.load 1 false (.t 63),some (62,false)⟩,
⟨some 65,.bin .neq (.t 64) (.c (.s (.string ⟨#[]⟩))),some (62,false)⟩,
⟨some 66,.cp (.t 65),some (62,false)⟩,
⟨some 67,.faddr (.t 1) 7,some (66,true)⟩,
⟨some 68,.load 1 false (.t 67),some (66,true)⟩,
⟨some 69,.call false zht_ [(.t 68)],some (66,true)⟩,
⟨some 70,.un .not (.t 69),some (66,true)⟩,
⟨some 71,.pick (.t 66) (.t 70) (.c (.s (.bool false))),some (62,false)⟩,
⟨some 72,.pick (.t 62) (.c (.s (.bool true))) (.t 71),none⟩,
⟨some 51,.cp (.t 72),none⟩] (none))
(.cond (.t 51)
(.seq (.region [
⟨some 2,.cp (.c (.s (.int .i64 11))),none⟩] (none))
.ret)
(.seq (.region [
⟨some 74,.faddr (.t 1) 9,none⟩,
⟨some 75,.load 1 false (.t 74),none⟩,
⟨some 76,.faddr (.t 1) 10,none⟩,
⟨some 77,.load 1 false (.t 76),none⟩,
⟨some 78,.minmax false [(.t 75),(.t 77)],none⟩,
⟨some 79,.bin .lss (.t 78) (.c (.s (.int .i64 (-1099511627776)))),none⟩,
⟨some 80,.cp (.t 79),none⟩,
⟨some 81,.faddr (.t 1) 9,some (80,false)⟩,
⟨some 82,.load 1 false (.t 81),some (80,false)⟩,
⟨some 83,.faddr (.t 1) 10,some (80,false)⟩,
⟨some 84,.load 1 false (.t 83),some (80,false)⟩,
⟨some 85,.minmax true [(.t 82),(.t 84)],some (80,false)⟩,
⟨some 86,.bin .gtr (.t 85) (.c (.s (.int .i64 1099511627776))),some (80,false)⟩,
⟨some 87,.pick (.t 80) (.c (.s (.bool true))) (.t 86),none⟩,
⟨some 73,.cp (.t 87),none⟩] (none))
(.cond (.t 73)
(.seq (.region [
⟨some 2,.cp (.c (.s (.int .i64 32))),none⟩] (none))
.ret)
(.seq (.region [
⟨some 89,.faddr (.t 1) 10,none⟩,
⟨some 90,.load 1 false (.t 89),none⟩,
⟨some 91,.faddr (.t 1) 9,none⟩,
⟨some 92,.load 1 false (.t 91),none⟩,
⟨some 93,.bin .lss (.t 90) (.t 92),none⟩,
⟨some 88,.cp (.t 93),none⟩] (none))
(.cond (.t 88)
(.seq (.region [
⟨some 2,.cp (.c (.s (.int .i64 8))),none⟩] (none))
.ret)
(.seq (.region [
⟨some 95,.faddr (.t 1) 10,none⟩,
⟨some 96,.load 1 false (.t 95),none⟩,
⟨some 97,.faddr (.t 1) 9,none⟩,
⟨some 98,.load 1 false (.t 97),none⟩,
⟨some 99,.bin .sub (.t 96) (.t 98),none⟩,
⟨some 100,.bin .gtr (.t 99) (.c (.s (.int .i64 1099511627776))),none⟩,
⟨some 94,.cp (.t 100),none⟩] (none))
(.cond (.t 94)
(.seq (.region [
⟨some 2,.cp (.c (.s (.int .i64 32))),none⟩] (none))
.ret)
.skip)))))))))))))
(.seq (.region [
⟨some 101,.faddr (.t 1) 12,none⟩,
⟨some 102,.load 1 false (.t 101),none⟩,
⟨some 103,.call false zwh_ [(.t 102)],none⟩,
⟨some 104,.faddr (.t 1) 13,none⟩,
⟨some 105,.load 1 false (.t 104),none⟩,
⟨some 106,.call false zwi_ [(.t 105)],none⟩,
⟨some 107,.bslice false 1 [(.t 103),(.t 106)],none⟩,
⟨some 108,.call false zwg_ [(.t 107)],none⟩,
⟨some 2,.cp (.t 108),none⟩] (some [(2,some 4)]))
.ret))) }
def zls_:XF:={ np:=2,results:=[(.inl 4,.v)],body :=
(.seq (.region [
⟨some 4,.cp (.c (.s (.bool false))),none⟩] (none))
(.seq (.region [
⟨some 5,.cp (.t 0),none⟩,
⟨some 6,.cp (.t 1),none⟩,
⟨some 7,.call false zxb_ [(.t 5),(.t 6)],none⟩,
⟨some 8,.bin .geq (.t 7) (.c (.s (.int .i64 0))),none⟩,
⟨some 4,.cp (.t 8),none⟩] (none))
.ret)) }
def zlt_:XF:={ np:=1,results:=[(.inl 2,.v)],body :=
(.seq (.region [
⟨some 1,.box false (.t 0),none⟩,
⟨some 2,.cp (.c (.s (.bool false))),none⟩] (none))
(.seq (.region [
⟨some 3,.faddr (.t 1) 1,none⟩,
⟨some 4,.faddr (.t 3) 1,none⟩,
⟨some 5,.load 1 false (.t 4),none⟩,
⟨some 6,.len true (.t 5),none⟩,
⟨some 7,.bin .gtr (.t 6) (.c (.s (.int .i64 255))),none⟩,
⟨some 2,.cp (.t 7),none⟩] (none))
.ret)) }
def zsj_:XC :=
(.seq (.region [
⟨some 14,.bin .lss (.t 13) (.t 12),none⟩] (none))
(.seq (.cond (.t 14)
.skip
(.exit 0))
(.seq (.block 1
(.seq (.region [
⟨some 15,.iaddr 14 (.t 11) (.t 13),none⟩,
⟨some 16,.load 14 true (.t 15),none⟩,
⟨some 7,.alloc [.s (.int .i64 0),.s (.int .i64 0),.s (.int .i64 0),.s (.int .i64 0),.s (.int .i64 0),.s (.int .i64 0),.s (.string ⟨#[]⟩),.s (.string ⟨#[]⟩),.s (.string ⟨#[]⟩),.s (.int .i64 0),.s (.int .i64 0),.s (.bool false),.s (.slice none 0 0),.s (.slice none 0 0)],none⟩,
⟨none,.store 14 (.t 7) (.t 16),none⟩] (none))
(.region [
⟨some 17,.cp (.t 4),none⟩,
⟨some 18,.faddr (.t 7) 12,none⟩,
⟨some 19,.load 1 false (.t 18),none⟩,
⟨some 20,.len false (.t 19),none⟩,
⟨some 21,.bin .add (.t 17) (.t 20),none⟩,
⟨some 22,.cp (.t 5),none⟩,
⟨some 23,.faddr (.t 7) 13,none⟩,
⟨some 24,.load 1 false (.t 23),none⟩,
⟨some 25,.len false (.t 24),none⟩,
⟨some 26,.bin .add (.t 22) (.t 25),none⟩,
⟨some 4,.cp (.t 21),none⟩,
⟨some 5,.cp (.t 26),none⟩] (some []))))
(.region [
⟨some 27,.bin .add (.t 13) (.c (.s (.int .i64 1))),none⟩,
⟨some 13,.cp (.t 27),none⟩] (none)))))
def zlu_:XC :=
(.seq (.region [
⟨some 44,.bin .lss (.t 43) (.t 42),none⟩] (none))
(.seq (.cond (.t 44)
.skip
(.exit 2))
(.seq (.block 3
(.seq (.region [
⟨some 45,.iaddr 14 (.t 41) (.t 43),none⟩,
⟨some 46,.load 14 true (.t 45),none⟩,
⟨some 10,.alloc [.s (.int .i64 0),.s (.int .i64 0),.s (.int .i64 0),.s (.int .i64 0),.s (.int .i64 0),.s (.int .i64 0),.s (.string ⟨#[]⟩),.s (.string ⟨#[]⟩),.s (.string ⟨#[]⟩),.s (.int .i64 0),.s (.int .i64 0),.s (.bool false),.s (.slice none 0 0),.s (.slice none 0 0)],none⟩,
⟨none,.store 14 (.t 10) (.t 46),none⟩] (none))
(.region [
⟨some 47,.cp (.t 8),none⟩,
⟨some 48,.cp (.t 8),none⟩,
⟨some 49,.nilchk (.t 48),none⟩,
⟨some 50,.faddr (.t 49) 0,none⟩,
⟨some 51,.load 1 false (.t 50),none⟩,
⟨some 52,.load 14 true (.t 10),none⟩,
⟨some 53,.call false zxc_ [(.t 52)],none⟩,
⟨some 54,.bslice false 14 [(.t 53)],none⟩,
⟨some 55,.append 14 837723144972 (.t 51) (.t 54),none⟩,
⟨some 56,.nilchk (.t 47),none⟩,
⟨some 57,.faddr (.t 56) 0,none⟩,
⟨none,.store 1 (.t 57) (.t 55),none⟩] (some [(6,some 4)]))))
(.region [
⟨some 58,.bin .add (.t 43) (.c (.s (.int .i64 1))),none⟩,
⟨some 43,.cp (.t 58),none⟩] (none)))))
def zlv_:XF:={ np:=1,results:=[(.inl 2,.f),(.inl 3,.v)],body :=
(.seq (.region [
⟨some 2,.cp (.c (.s (.pointer none))),none⟩,
⟨some 3,.cp (.c (.s (.int .i64 0))),none⟩] (none))
(.seq (.region [
⟨some 4,.cp (.c (.s (.int .i64 0))),none⟩,
⟨some 5,.cp (.c (.s (.int .i64 0))),none⟩] (none))
(.seq (.seq (.region [
⟨some 11,.cp (.t 0),none⟩,
⟨some 12,.len false (.t 11),none⟩,
⟨some 13,.cp (.c (.s (.int .i64 0))),none⟩] (none))
(.block 0
(.loop zsj_)))
(.seq (.seq (.region [
⟨some 28,.cp (.t 0),none⟩,
⟨some 29,.len false (.t 28),none⟩,
⟨some 30,.bin .gtr (.t 29) (.c (.s (.int .i64 4096))),none⟩,
⟨some 31,.cp (.t 30),none⟩,
⟨some 32,.cp (.t 4),some (31,false)⟩,
⟨some 33,.bin .gtr (.t 32) (.c (.s (.int .i64 4096))),some (31,false)⟩,
⟨some 34,.pick (.t 31) (.c (.s (.bool true))) (.t 33),none⟩,
⟨some 35,.cp (.t 34),none⟩,
⟨some 36,.cp (.t 5),some (35,false)⟩,
⟨some 37,.bin .gtr (.t 36) (.c (.s (.int .i64 4096))),some (35,false)⟩,
⟨some 38,.pick (.t 35) (.c (.s (.bool true))) (.t 37),none⟩] (none))
(.cond (.t 38)
(.seq (.region [
⟨some 2,.cp (.c (.s (.pointer none))),none⟩,
⟨some 3,.cp (.c (.s (.int .i64 6))),none⟩] (none))
.ret)
.skip))
(.seq (.region [
⟨some 39,.build false [.s (.slice none 0 0)] [],none⟩,
⟨some 40,.box false (.t 39),none⟩,
⟨some 8,.cp (.t 40),none⟩] (none))
(.seq (.seq (.region [
⟨some 41,.cp (.t 0),none⟩,
⟨some 42,.len false (.t 41),none⟩,
⟨some 43,.cp (.c (.s (.int .i64 0))),none⟩] (none))
(.block 2
(.loop zlu_)))
(.seq (.region [
⟨some 59,.cp (.t 8),none⟩,
⟨some 2,.cp (.t 59),none⟩,
⟨some 3,.cp (.c (.s (.int .i64 0))),none⟩] (none))
.ret))))))) }
def zlw_:XF:={ np:=0,results:=[(.inl 0,.m)],body :=
(.seq (.region [
⟨some 0,.cp (.c (.s (.map none))),none⟩] (none))
(.seq (.region [
⟨some 1,.mkmap,none⟩,
⟨none,.mput .t (.t 1) (.c (.s (.string ⟨#[116,114,97,99,101]⟩))) (.c (.fn zkk_ [] [])),none⟩,
⟨none,.mput .t (.t 1) (.c (.s (.string ⟨#[105,100]⟩))) (.c (.fn zkl_ [] [])),none⟩,
⟨none,.mput .t (.t 1) (.c (.s (.string ⟨#[112,97,114,101,110,116]⟩))) (.c (.fn zkm_ [] [])),none⟩,
⟨none,.mput .t (.t 1) (.c (.s (.string ⟨#[114,101,118,105,115,105,111,110]⟩))) (.c (.fn zkn_ [] [])),none⟩,
⟨none,.mput .t (.t 1) (.c (.s (.string ⟨#[99,108,111,99,107]⟩))) (.c (.fn zko_ [] [])),none⟩,
⟨none,.mput .t (.t 1) (.c (.s (.string ⟨#[107,105,110,100]⟩))) (.c (.fn zkp_ [] [])),none⟩,
⟨none,.mput .t (.t 1) (.c (.s (.string ⟨#[115,116,97,114,116]⟩))) (.c (.fn zkq_ [] [])),none⟩,
⟨none,.mput .t (.t 1) (.c (.s (.string ⟨#[100,117,114,97,116,105,111,110]⟩))) (.c (.fn zhr_ [] [])),none⟩,
⟨none,.mput .t (.t 1) (.c (.s (.string ⟨#[101,114,114,111,114]⟩))) (.c (.fn zkr_ [] [])),none⟩,
⟨some 2,.cp (.t 1),none⟩,
⟨some 0,.cp (.t 2),none⟩] (none))
.ret)) }
def zyg_:XC :=
(.seq (.region [
⟨some 11,.bin .lss (.t 10) (.t 9),none⟩] (none))
(.seq (.cond (.t 11)
.skip
(.exit 0))
(.seq (.block 1
(.seq (.region [
⟨some 12,.iaddr 14 (.t 8) (.t 10),none⟩,
⟨some 13,.load 14 true (.t 12),none⟩,
⟨some 7,.alloc [.s (.int .i64 0),.s (.int .i64 0),.s (.int .i64 0),.s (.int .i64 0),.s (.int .i64 0),.s (.int .i64 0),.s (.string ⟨#[]⟩),.s (.string ⟨#[]⟩),.s (.string ⟨#[]⟩),.s (.int .i64 0),.s (.int .i64 0),.s (.bool false),.s (.slice none 0 0),.s (.slice none 0 0)],none⟩,
⟨none,.store 14 (.t 7) (.t 13),none⟩] (none))
(.region [
⟨some 14,.cp (.t 5),none⟩,
⟨some 15,.cp (.t 1),none⟩,
⟨some 16,.load 14 true (.t 7),none⟩,
⟨some 17,.callv false (.t 15) [(.t 16)],none⟩,
⟨some 18,.bslice false 1 [(.t 17)],none⟩,
⟨some 19,.append 1 17592186044416 (.t 14) (.t 18),none⟩,
⟨some 5,.cp (.t 19),none⟩] (none))))
(.region [
⟨some 20,.bin .add (.t 10) (.c (.s (.int .i64 1))),none⟩,
⟨some 10,.cp (.t 20),none⟩] (none)))))
def zlx_:XF:={ np:=2,results:=[(.inl 4,.v)],body :=
(.seq (.region [
⟨some 4,.cp (.c (.s (.slice none 0 0))),none⟩] (none))
(.seq (.region [
⟨some 5,.cp (.c (.s (.slice none 0 0))),none⟩] (none))
(.seq (.seq (.region [
⟨some 8,.cp (.t 0),none⟩,
⟨some 9,.len false (.t 8),none⟩,
⟨some 10,.cp (.c (.s (.int .i64 0))),none⟩] (none))
(.block 0
(.loop zyg_)))
(.seq (.region [
⟨some 21,.cp (.t 5),none⟩,
⟨some 4,.cp (.t 21),none⟩] (none))
.ret)))) }
def zly_:XF:={ np:=0,results:=[(.inl 0,.m)],body :=
(.seq (.region [
⟨some 0,.cp (.c (.s (.map none))),none⟩] (none))
(.seq (.region [
⟨some 1,.mkmap,none⟩,
⟨none,.mput .t (.t 1) (.c (.s (.string ⟨#[115,101,114,118,105,99,101]⟩))) (.c (.fn zks_ [] [])),none⟩,
⟨none,.mput .t (.t 1) (.c (.s (.string ⟨#[118,101,114,115,105,111,110]⟩))) (.c (.fn zkt_ [] [])),none⟩,
⟨none,.mput .t (.t 1) (.c (.s (.string ⟨#[111,112,101,114,97,116,105,111,110]⟩))) (.c (.fn zku_ [] [])),none⟩,
⟨some 2,.cp (.t 1),none⟩,
⟨some 0,.cp (.t 2),none⟩] (none))
.ret)) }
def zyh_:XC :=
(.seq (.region [
⟨some 11,.bin .lss (.t 10) (.t 9),none⟩] (none))
(.seq (.cond (.t 11)
.skip
(.exit 0))
(.seq (.block 1
(.seq (.region [
⟨some 12,.iaddr 14 (.t 8) (.t 10),none⟩,
⟨some 13,.load 14 true (.t 12),none⟩,
⟨some 7,.alloc [.s (.int .i64 0),.s (.int .i64 0),.s (.int .i64 0),.s (.int .i64 0),.s (.int .i64 0),.s (.int .i64 0),.s (.string ⟨#[]⟩),.s (.string ⟨#[]⟩),.s (.string ⟨#[]⟩),.s (.int .i64 0),.s (.int .i64 0),.s (.bool false),.s (.slice none 0 0),.s (.slice none 0 0)],none⟩,
⟨none,.store 14 (.t 7) (.t 13),none⟩] (none))
(.region [
⟨some 14,.cp (.t 5),none⟩,
⟨some 15,.cp (.t 1),none⟩,
⟨some 16,.load 14 true (.t 7),none⟩,
⟨some 17,.callv false (.t 15) [(.t 16)],none⟩,
⟨some 18,.bslice false 1 [(.t 17)],none⟩,
⟨some 19,.append 1 8796093022208 (.t 14) (.t 18),none⟩,
⟨some 5,.cp (.t 19),none⟩] (none))))
(.region [
⟨some 20,.bin .add (.t 10) (.c (.s (.int .i64 1))),none⟩,
⟨some 10,.cp (.t 20),none⟩] (none)))))
def zlz_:XF:={ np:=2,results:=[(.inl 4,.v)],body :=
(.seq (.region [
⟨some 4,.cp (.c (.s (.slice none 0 0))),none⟩] (none))
(.seq (.region [
⟨some 5,.cp (.c (.s (.slice none 0 0))),none⟩] (none))
(.seq (.seq (.region [
⟨some 8,.cp (.t 0),none⟩,
⟨some 9,.len false (.t 8),none⟩,
⟨some 10,.cp (.c (.s (.int .i64 0))),none⟩] (none))
(.block 0
(.loop zyh_)))
(.seq (.region [
⟨some 21,.cp (.t 5),none⟩,
⟨some 4,.cp (.t 21),none⟩] (none))
.ret)))) }
def zcc_:XF:={ np:=2,results:=[(.inl 4,.v)],body :=
(.seq (.region [
⟨some 2,.box false (.t 0),none⟩,
⟨some 4,.cp (.c (.s (.int .i64 0))),none⟩] (none))
(.seq (.seq (.region [
⟨some 5,.cp (.t 1),none⟩] (none))
(.block 0
(.seq (.region [
⟨some 7,.bin .eql (.t 5) (.c (.s (.string ⟨#[116,114,97,99,101]⟩))),none⟩,
⟨some 6,.cp (.t 7),none⟩] (none))
(.cond (.t 6)
(.seq (.region [
⟨some 8,.faddr (.t 2) 0,none⟩,
⟨some 9,.load 1 false (.t 8),none⟩,
⟨some 4,.cp (.t 9),none⟩] (none))
.ret)
(.seq (.region [
⟨some 11,.bin .eql (.t 5) (.c (.s (.string ⟨#[105,100]⟩))),none⟩,
⟨some 10,.cp (.t 11),none⟩] (none))
(.cond (.t 10)
(.seq (.region [
⟨some 12,.faddr (.t 2) 1,none⟩,
⟨some 13,.load 1 false (.t 12),none⟩,
⟨some 4,.cp (.t 13),none⟩] (none))
.ret)
(.seq (.region [
⟨some 15,.bin .eql (.t 5) (.c (.s (.string ⟨#[112,97,114,101,110,116]⟩))),none⟩,
⟨some 14,.cp (.t 15),none⟩] (none))
(.cond (.t 14)
(.seq (.region [
⟨some 16,.faddr (.t 2) 2,none⟩,
⟨some 17,.load 1 false (.t 16),none⟩,
⟨some 4,.cp (.t 17),none⟩] (none))
.ret)
(.seq (.region [
⟨some 19,.bin .eql (.t 5) (.c (.s (.string ⟨#[114,101,118,105,115,105,111,110]⟩))),none⟩,
⟨some 18,.cp (.t 19),none⟩] (none))
(.cond (.t 18)
(.seq (.region [
⟨some 20,.faddr (.t 2) 3,none⟩,
⟨some 21,.load 1 false (.t 20),none⟩,
⟨some 4,.cp (.t 21),none⟩] (none))
.ret)
(.seq (.region [
⟨some 23,.bin .eql (.t 5) (.c (.s (.string ⟨#[99,108,111,99,107]⟩))),none⟩,
⟨some 22,.cp (.t 23),none⟩] (none))
(.cond (.t 22)
(.seq (.region [
⟨some 24,.faddr (.t 2) 4,none⟩,
⟨some 25,.load 1 false (.t 24),none⟩,
⟨some 4,.cp (.t 25),none⟩] (none))
.ret)
(.seq (.region [
⟨some 27,.bin .eql (.t 5) (.c (.s (.string ⟨#[107,105,110,100]⟩))),none⟩,
⟨some 26,.cp (.t 27),none⟩] (none))
(.cond (.t 26)
(.seq (.region [
⟨some 28,.faddr (.t 2) 5,none⟩,
⟨some 29,.load 1 false (.t 28),none⟩,
⟨some 4,.cp (.t 29),none⟩] (none))
.ret)
(.seq (.region [
⟨some 31,.bin .eql (.t 5) (.c (.s (.string ⟨#[115,116,97,114,116]⟩))),none⟩,
⟨some 30,.cp (.t 31),none⟩] (none))
(.cond (.t 30)
(.seq (.region [
⟨some 32,.faddr (.t 2) 9,none⟩,
⟨some 33,.load 1 false (.t 32),none⟩,
⟨some 4,.cp (.t 33),none⟩] (none))
.ret)
(.seq (.region [
⟨some 35,.bin .eql (.t 5) (.c (.s (.string ⟨#[100,117,114,97,116,105,111,110]⟩))),none⟩,
⟨some 34,.cp (.t 35),none⟩] (none))
(.cond (.t 34)
(.seq (.region [
⟨some 36,.faddr (.t 2) 10,none⟩,
⟨some 37,.load 1 false (.t 36),none⟩,
⟨some 38,.faddr (.t 2) 9,none⟩,
⟨some 39,.load 1 false (.t 38),none⟩,
⟨some 40,.bin .sub (.t 37) (.t 39),none⟩,
⟨some 4,.cp (.t 40),none⟩] (none))
.ret)
.skip))))))))))))))))))
(.seq (.seq (.region [
⟨some 41,.faddr (.t 2) 11,none⟩,
⟨some 42,.load 1 false (.t 41),none⟩] (none))
(.cond (.t 42)
(.seq (.region [
⟨some 4,.cp (.c (.s (.int .i64 1))),none⟩] (none))
.ret)
.skip))
(.seq (.region [
⟨some 4,.cp (.c (.s (.int .i64 0))),none⟩] (none))
.ret)))) }
def zim_:XF:={ np:=1,results:=[(.inl 2,.v)],body :=
(.seq (.region [
⟨some 2,.cp (.c (.s (.slice none 0 0))),none⟩] (none))
(.seq (.seq (.region [
⟨some 3,.cp (.t 0),none⟩,
⟨some 4,.eqv .s false (.t 3) (.c (.s (.slice none 0 0))),none⟩] (none))
(.cond (.t 4)
(.seq (.region [
⟨some 2,.cp (.c (.s (.slice none 0 0))),none⟩] (none))
.ret)
.skip))
(.seq (.region [
⟨some 5,.bslice true 1 [],none⟩,
⟨some 6,.cp (.t 0),none⟩,
⟨some 7,.append 1 8796093022208 (.t 5) (.t 6),none⟩,
⟨some 2,.cp (.t 7),none⟩] (none))
.ret))) }
def zyi_:XF:={ np:=1,results:=[],body:=.skip,nat:=some (.srt true) }
def zsk_:XC :=
(.seq (.seq (.region [
⟨some 29,.cp (.t 5),none⟩,
⟨some 30,.cp (.t 4),none⟩,
⟨some 31,.len false (.t 30),none⟩,
⟨some 32,.bin .lss (.t 29) (.t 31),none⟩] (none))
(.cond (.t 32)
.skip
(.exit 2)))
(.seq (.block 3
(.seq (.region [
⟨some 35,.cp (.t 4),none⟩,
⟨some 36,.cp (.t 5),none⟩,
⟨some 37,.iaddr 1 (.t 35) (.t 36),none⟩,
⟨some 38,.load 1 false (.t 37),none⟩,
⟨some 39,.cp (.t 4),none⟩,
⟨some 40,.cp (.t 5),none⟩,
⟨some 41,.bin .sub (.t 40) (.c (.s (.int .i64 1))),none⟩,
⟨some 42,.iaddr 1 (.t 39) (.t 41),none⟩,
⟨some 43,.load 1 false (.t 42),none⟩,
⟨some 44,.bin .neq (.t 38) (.t 43),none⟩] (some []))
(.cond (.t 44)
(.seq (.region [
⟨some 45,.cp (.t 0),none⟩,
⟨some 46,.cp (.t 3),none⟩,
⟨some 47,.cp (.t 4),none⟩,
⟨some 48,.cp (.t 5),none⟩,
⟨some 49,.iaddr 1 (.t 47) (.t 48),none⟩,
⟨some 50,.load 1 false (.t 49),none⟩,
⟨some 51,.iaddr 1 (.t 45) (.t 46),none⟩,
⟨none,.store 1 (.t 51) (.t 50),none⟩] (none))
(.region [
⟨some 52,.cp (.t 3),none⟩,
⟨some 53,.bin .add (.t 52) (.c (.s (.int .i64 1))),none⟩,
⟨some 3,.cp (.t 53),none⟩] (none)))
.skip)))
(.region [
⟨some 33,.cp (.t 5),none⟩,
⟨some 34,.bin .add (.t 33) (.c (.s (.int .i64 1))),none⟩,
⟨some 5,.cp (.t 34),none⟩] (none))))
def zsl_:XC :=
(.seq (.seq (.region [
⟨some 10,.cp (.t 3),none⟩,
⟨some 11,.cp (.t 0),none⟩,
⟨some 12,.len false (.t 11),none⟩,
⟨some 13,.bin .lss (.t 10) (.t 12),none⟩] (none))
(.cond (.t 13)
.skip
(.exit 0)))
(.seq (.block 1
(.seq (.region [
⟨some 16,.cp (.t 0),none⟩,
⟨some 17,.cp (.t 3),none⟩,
⟨some 18,.iaddr 1 (.t 16) (.t 17),none⟩,
⟨some 19,.load 1 false (.t 18),none⟩,
⟨some 20,.cp (.t 0),none⟩,
⟨some 21,.cp (.t 3),none⟩,
⟨some 22,.bin .sub (.t 21) (.c (.s (.int .i64 1))),none⟩,
⟨some 23,.iaddr 1 (.t 20) (.t 22),none⟩,
⟨some 24,.load 1 false (.t 23),none⟩,
⟨some 25,.bin .eql (.t 19) (.t 24),none⟩] (some []))
(.cond (.t 25)
(.seq (.region [
⟨some 26,.cp (.t 0),none⟩,
⟨some 27,.cp (.t 3),none⟩,
⟨some 28,.slLst 1 (.t 26) (some (.t 27)) none,none⟩,
⟨some 4,.cp (.t 28),none⟩] (none))
(.seq (.seq (.region [
⟨some 5,.cp (.c (.s (.int .i64 1))),none⟩] (none))
(.block 2
(.loop zsk_)))
(.seq (.region [
⟨some 54,.cp (.t 0),none⟩,
⟨some 55,.cp (.t 3),none⟩,
⟨some 56,.slLst 1 (.t 54) (some (.t 55)) none,none⟩,
⟨none,.clear 1 (.s (.string ⟨#[]⟩)) (.t 56),none⟩] (none))
(.seq (.region [
⟨some 57,.cp (.t 0),none⟩,
⟨some 58,.cp (.t 3),none⟩,
⟨some 59,.slFrz 1 (.t 57) none (some (.t 58)),none⟩,
⟨some 2,.cp (.t 59),none⟩] (none))
.ret))))
.skip)))
(.region [
⟨some 14,.cp (.t 3),none⟩,
⟨some 15,.bin .add (.t 14) (.c (.s (.int .i64 1))),none⟩,
⟨some 3,.cp (.t 15),none⟩] (none))))
def zfq_:XF:={ np:=1,results:=[(.inl 2,.v)],body :=
(.seq (.region [
⟨some 2,.cp (.c (.s (.slice none 0 0))),none⟩] (none))
(.seq (.seq (.region [
⟨some 6,.cp (.t 0),none⟩,
⟨some 7,.len false (.t 6),none⟩,
⟨some 8,.bin .lss (.t 7) (.c (.s (.int .i64 2))),none⟩] (none))
(.cond (.t 8)
(.seq (.region [
⟨some 9,.cp (.t 0),none⟩,
⟨some 2,.cp (.t 9),none⟩] (none))
.ret)
.skip))
(.seq (.seq (.region [
⟨some 3,.cp (.c (.s (.int .i64 1))),none⟩] (none))
(.block 0
(.loop zsl_)))
(.seq (.region [
⟨some 60,.cp (.t 0),none⟩,
⟨some 2,.cp (.t 60),none⟩] (none))
.ret)))) }
def zfr_:XF:={ np:=2,results:=[(.inl 4,.v)],body :=
(.seq (.region [
⟨some 2,.box false (.t 0),none⟩,
⟨some 4,.cp (.c (.s (.string ⟨#[]⟩))),none⟩] (none))
(.seq (.seq (.region [
⟨some 5,.cp (.t 1),none⟩] (none))
(.block 0
(.seq (.region [
⟨some 7,.bin .eql (.t 5) (.c (.s (.string ⟨#[115,101,114,118,105,99,101]⟩))),none⟩,
⟨some 6,.cp (.t 7),none⟩] (none))
(.cond (.t 6)
(.seq (.region [
⟨some 8,.faddr (.t 2) 6,none⟩,
⟨some 9,.load 1 false (.t 8),none⟩,
⟨some 4,.cp (.t 9),none⟩] (none))
.ret)
(.seq (.region [
⟨some 11,.bin .eql (.t 5) (.c (.s (.string ⟨#[118,101,114,115,105,111,110]⟩))),none⟩,
⟨some 10,.cp (.t 11),none⟩] (none))
(.cond (.t 10)
(.seq (.region [
⟨some 12,.faddr (.t 2) 7,none⟩,
⟨some 13,.load 1 false (.t 12),none⟩,
⟨some 4,.cp (.t 13),none⟩] (none))
.ret)
.skip))))))
(.seq (.region [
⟨some 14,.faddr (.t 2) 8,none⟩,
⟨some 15,.load 1 false (.t 14),none⟩,
⟨some 4,.cp (.t 15),none⟩] (none))
.ret))) }
def zma_:XF:={ np:=2,results:=[(.inl 4,.v)],body :=
(.seq (.region [
⟨some 2,.box false (.t 0),none⟩,
⟨some 3,.box false (.t 1),none⟩,
⟨some 4,.cp (.c (.s (.bool false))),none⟩] (none))
(.seq (.region [
⟨some 5,.load 14 true (.t 2),none⟩,
⟨some 6,.load 14 true (.t 3),none⟩,
⟨some 7,.call false zfm_ [(.t 5),(.t 6)],none⟩,
⟨some 8,.bin .eql (.t 7) (.c (.s (.int .i64 0))),none⟩,
⟨some 4,.cp (.t 8),none⟩] (none))
.ret)) }
def zyj_:XC :=
(.seq (.region [
⟨some 11,.bin .lss (.t 10) (.t 9),none⟩] (none))
(.seq (.cond (.t 11)
.skip
(.exit 0))
(.seq (.block 1
(.seq (.region [
⟨some 12,.iaddr 4 (.t 8) (.t 10),none⟩,
⟨some 13,.load 4 true (.t 12),none⟩,
⟨some 7,.alloc [.s (.string ⟨#[]⟩),.s (.int .i64 0),.s (.string ⟨#[]⟩),.s (.int .i64 0)],none⟩,
⟨none,.store 4 (.t 7) (.t 13),none⟩] (none))
(.region [
⟨some 14,.cp (.t 5),none⟩,
⟨some 15,.cp (.t 1),none⟩,
⟨some 16,.load 4 true (.t 7),none⟩,
⟨some 17,.callv false (.t 15) [(.t 16)],none⟩,
⟨some 18,.bslice false 1 [(.t 17)],none⟩,
⟨some 19,.append 1 8796093022208 (.t 14) (.t 18),none⟩,
⟨some 5,.cp (.t 19),none⟩] (none))))
(.region [
⟨some 20,.bin .add (.t 10) (.c (.s (.int .i64 1))),none⟩,
⟨some 10,.cp (.t 20),none⟩] (none)))))
def zmb_:XF:={ np:=2,results:=[(.inl 4,.v)],body :=
(.seq (.region [
⟨some 4,.cp (.c (.s (.slice none 0 0))),none⟩] (none))
(.seq (.region [
⟨some 5,.cp (.c (.s (.slice none 0 0))),none⟩] (none))
(.seq (.seq (.region [
⟨some 8,.cp (.t 0),none⟩,
⟨some 9,.len false (.t 8),none⟩,
⟨some 10,.cp (.c (.s (.int .i64 0))),none⟩] (none))
(.block 0
(.loop zyj_)))
(.seq (.region [
⟨some 21,.cp (.t 5),none⟩,
⟨some 4,.cp (.t 21),none⟩] (none))
.ret)))) }
def zbgm_:XC :=
(.seq (.region [
⟨some 12,.bin .lss (.t 11) (.t 10),none⟩] (none))
(.seq (.cond (.t 12)
.skip
(.exit 0))
(.seq (.block 1
(.seq (.region [
⟨some 13,.iaddr 14 (.t 9) (.t 11),none⟩,
⟨some 14,.load 14 true (.t 13),none⟩,
⟨some 5,.alloc [.s (.int .i64 0),.s (.int .i64 0),.s (.int .i64 0),.s (.int .i64 0),.s (.int .i64 0),.s (.int .i64 0),.s (.string ⟨#[]⟩),.s (.string ⟨#[]⟩),.s (.string ⟨#[]⟩),.s (.int .i64 0),.s (.int .i64 0),.s (.bool false),.s (.slice none 0 0),.s (.slice none 0 0)],none⟩,
⟨none,.store 14 (.t 5) (.t 14),none⟩] (none))
(.region [
⟨some 15,.cp (.t 3),none⟩,
⟨some 16,.faddr (.t 5) 12,none⟩,
⟨some 17,.load 1 false (.t 16),none⟩,
⟨some 18,.append 4 2932031007402 (.t 15) (.t 17),none⟩,
⟨some 3,.cp (.t 18),none⟩] (none))))
(.region [
⟨some 19,.bin .add (.t 11) (.c (.s (.int .i64 1))),none⟩,
⟨some 11,.cp (.t 19),none⟩] (none)))))
def zmc_:XF:={ np:=1,results:=[(.inl 2,.v)],body :=
(.seq (.region [
⟨some 2,.cp (.c (.s (.slice none 0 0))),none⟩] (none))
(.seq (.region [
⟨some 3,.cp (.c (.s (.slice none 0 0))),none⟩] (none))
(.seq (.seq (.region [
⟨some 6,.cp (.t 0),none⟩,
⟨some 7,.nilchk (.t 6),none⟩,
⟨some 8,.faddr (.t 7) 0,none⟩,
⟨some 9,.load 1 false (.t 8),none⟩,
⟨some 10,.len false (.t 9),none⟩,
⟨some 11,.cp (.c (.s (.int .i64 0))),none⟩] (none))
(.block 0
(.loop zbgm_)))
(.seq (.region [
⟨some 20,.cp (.t 3),none⟩,
⟨some 2,.cp (.t 20),none⟩] (none))
.ret)))) }
def zmd_:XF:={ np:=1,results:=[(.inl 2,.v)],body :=
(.seq (.region [
⟨some 2,.cp (.c (.s (.int .i64 0))),none⟩] (none))
(.seq (.seq (.region [
⟨some 3,.cp (.t 0),none⟩] (none))
(.cond (.t 3)
(.seq (.region [
⟨some 2,.cp (.c (.s (.int .i64 1))),none⟩] (none))
.ret)
.skip))
(.seq (.region [
⟨some 2,.cp (.c (.s (.int .i64 0))),none⟩] (none))
.ret))) }
def zsm_:XC :=
(.seq (.region [
⟨some 13,.bin .lss (.t 12) (.t 11),none⟩] (none))
(.seq (.cond (.t 13)
.skip
(.exit 0))
(.seq (.block 1
(.seq (.region [
⟨some 14,.iaddr 1 (.t 10) (.t 12),none⟩,
⟨some 15,.load 1 false (.t 14),none⟩,
⟨some 5,.cp (.t 15),none⟩] (none))
(.seq (.region [
⟨some 16,.cp (.t 5),none⟩,
⟨some 17,.call false zxz_ [(.t 16)],none⟩,
⟨some 18,.un .not (.t 17),none⟩] (none))
(.cond (.t 18)
(.seq (.region [
⟨some 19,.build false [.s (.slice none 0 0)] [],none⟩,
⟨none,.store 1 (.t 2) (.t 19),none⟩,
⟨some 3,.cp (.c (.s (.int .i64 2))),none⟩] (none))
.ret)
.skip))))
(.region [
⟨some 20,.bin .add (.t 12) (.c (.s (.int .i64 1))),none⟩,
⟨some 12,.cp (.t 20),none⟩] (none)))))
def zme_:XC :=
(.seq (.region [
⟨some 28,.bin .lss (.t 27) (.t 26),none⟩] (none))
(.seq (.cond (.t 28)
.skip
(.exit 2))
(.seq (.block 3
(.seq (.region [
⟨some 29,.iaddr 1 (.t 25) (.t 27),none⟩,
⟨some 30,.load 1 false (.t 29),none⟩,
⟨some 9,.cp (.t 30),none⟩] (none))
(.region [
⟨some 31,.cp (.t 9),none⟩,
⟨some 32,.cp (.t 9),none⟩,
⟨some 33,.build false [.s (.int .i64 0),.s (.int .i64 0)] [(0,1,(.t 31)),(1,1,(.t 32))],none⟩,
⟨some 34,.callK zic_ [(.t 7),(.t 33)],none⟩] (none))))
(.region [
⟨some 35,.bin .add (.t 27) (.c (.s (.int .i64 1))),none⟩,
⟨some 27,.cp (.t 35),none⟩] (none)))))
def zmf_:XF:={ np:=1,results:=[(.inr (2,1,true),.v),(.inl 3,.v)],body :=
(.seq (.region [
⟨some 2,.alloc [.s (.slice none 0 0)],none⟩,
⟨some 3,.cp (.c (.s (.int .i64 0))),none⟩] (none))
(.seq (.seq (.region [
⟨some 10,.cp (.t 0),none⟩,
⟨some 11,.len false (.t 10),none⟩,
⟨some 12,.cp (.c (.s (.int .i64 0))),none⟩] (none))
(.block 0
(.loop zsm_)))
(.seq (.region [
⟨some 21,.cp (.t 0),none⟩,
⟨some 22,.call true zhk_ [(.t 21)],none⟩,
⟨some 6,.cp (.t 22),none⟩] (none))
(.seq (.region [
⟨some 23,.cp (.t 6),none⟩,
⟨some 24,.call false zru_ [(.t 23)],none⟩] (none))
(.seq (.region [
⟨some 7,.alloc [.s (.slice none 0 0)],none⟩] (none))
(.seq (.seq (.region [
⟨some 25,.cp (.t 6),none⟩,
⟨some 26,.len false (.t 25),none⟩,
⟨some 27,.cp (.c (.s (.int .i64 0))),none⟩] (none))
(.block 2
(.loop zme_)))
(.seq (.region [
⟨some 36,.loadF 1 true (.t 7),none⟩,
⟨none,.store 1 (.t 2) (.t 36),none⟩,
⟨some 3,.cp (.c (.s (.int .i64 0))),none⟩] (none))
.ret))))))) }
def zmg_:XF:={ np:=1,results:=[(.inr (2,14,true),.v)],body :=
(.seq (.region [
⟨some 1,.box false (.t 0),none⟩,
⟨some 2,.alloc [.s (.int .i64 0),.s (.int .i64 0),.s (.int .i64 0),.s (.int .i64 0),.s (.int .i64 0),.s (.int .i64 0),.s (.string ⟨#[]⟩),.s (.string ⟨#[]⟩),.s (.string ⟨#[]⟩),.s (.int .i64 0),.s (.int .i64 0),.s (.bool false),.s (.slice none 0 0),.s (.slice none 0 0)],none⟩] (none))
(.seq (.region [
⟨some 3,.faddr (.t 1) 12,none⟩,
⟨some 4,.load 1 false (.t 3),none⟩,
⟨some 5,.call false zrl_ [(.t 4)],none⟩,
⟨some 6,.faddr (.t 1) 13,none⟩,
⟨some 7,.load 1 false (.t 6),none⟩,
⟨some 8,.call false zrm_ [(.t 7)],none⟩,
⟨some 9,.faddr (.t 1) 12,none⟩,
⟨none,.store 1 (.t 9) (.t 5),none⟩,
⟨some 10,.faddr (.t 1) 13,none⟩,
⟨none,.store 1 (.t 10) (.t 8),none⟩] (some [(2,some 4)]))
(.seq (.region [
⟨some 11,.load 14 true (.t 1),none⟩,
⟨none,.store 14 (.t 2) (.t 11),none⟩] (none))
.ret))) }
def zfs_:XC :=
(.seq (.seq (.region [
⟨some 11,.cp (.t 4),none⟩,
⟨some 12,.bin .gtr (.t 11) (.c (.s (.int .u64 0))),none⟩] (none))
(.cond (.t 12)
.skip
(.exit 0)))
(.seq (.block 1
(.region [
⟨some 15,.cp (.t 3),none⟩,
⟨some 16,.cp (.t 4),none⟩,
⟨some 17,.bin .rem (.t 16) (.c (.s (.int .u64 256))),none⟩,
⟨some 18,.conv .u8 (.t 17),none⟩,
⟨some 19,.bslice false 1 [(.t 18)],none⟩,
⟨some 20,.append 1 140737488355328 (.t 15) (.t 19),none⟩,
⟨some 3,.cp (.t 20),none⟩] (none)))
(.region [
⟨some 13,.cp (.t 4),none⟩,
⟨some 14,.bin .quo (.t 13) (.c (.s (.int .u64 256))),none⟩,
⟨some 4,.cp (.t 14),none⟩] (none))))
def zft_:XC :=
(.seq (.seq (.region [
⟨some 35,.cp (.t 7),none⟩,
⟨some 36,.bin .geq (.t 35) (.c (.s (.int .i64 0))),none⟩] (none))
(.cond (.t 36)
.skip
(.exit 2)))
(.seq (.block 3
(.seq (.region [
⟨some 39,.cp (.t 3),none⟩,
⟨some 40,.cp (.t 7),none⟩,
⟨some 41,.iaddr 1 (.t 39) (.t 40),none⟩,
⟨some 42,.load 1 false (.t 41),none⟩,
⟨some 8,.cp (.t 42),none⟩] (none))
(.seq (.seq (.region [
⟨some 43,.cp (.t 0),none⟩,
⟨some 44,.bin .lss (.t 43) (.c (.s (.int .i64 0))),none⟩] (none))
(.cond (.t 44)
(.region [
⟨some 45,.cp (.t 8),none⟩,
⟨some 46,.bin .sub (.c (.s (.int .u8 255))) (.t 45),none⟩,
⟨some 8,.cp (.t 46),none⟩] (none))
.skip))
(.region [
⟨some 47,.cp (.t 6),none⟩,
⟨some 48,.cp (.t 8),none⟩,
⟨some 49,.bslice false 1 [(.t 48)],none⟩,
⟨some 50,.append 1 140737488355328 (.t 47) (.t 49),none⟩,
⟨some 6,.cp (.t 50),none⟩] (none)))))
(.region [
⟨some 37,.cp (.t 7),none⟩,
⟨some 38,.bin .sub (.t 37) (.c (.s (.int .i64 1))),none⟩,
⟨some 7,.cp (.t 38),none⟩] (none))))
def zmh_:XF:={ np:=1,results:=[(.inl 2,.v)],body :=
(.seq (.region [
⟨some 2,.cp (.c (.s (.string ⟨#[]⟩))),none⟩] (none))
(.seq (.region [
⟨some 3,.cp (.c (.s (.slice none 0 0))),none⟩] (none))
(.seq (.seq (.region [
⟨some 9,.cp (.t 0),none⟩,
⟨some 10,.call false zvu_ [(.t 9)],none⟩,
⟨some 4,.cp (.t 10),none⟩] (none))
(.block 0
(.loop zfs_)))
(.seq (.region [
⟨some 21,.cp (.t 3),none⟩,
⟨some 22,.len false (.t 21),none⟩,
⟨some 23,.bin .add (.c (.s (.int .i64 128))) (.t 22),none⟩,
⟨some 5,.cp (.t 23),none⟩] (none))
(.seq (.seq (.region [
⟨some 24,.cp (.t 0),none⟩,
⟨some 25,.bin .lss (.t 24) (.c (.s (.int .i64 0))),none⟩] (none))
(.cond (.t 25)
(.region [
⟨some 26,.cp (.t 3),none⟩,
⟨some 27,.len false (.t 26),none⟩,
⟨some 28,.bin .sub (.c (.s (.int .i64 128))) (.t 27),none⟩,
⟨some 5,.cp (.t 28),none⟩] (none))
.skip))
(.seq (.region [
⟨some 29,.cp (.t 5),none⟩,
⟨some 30,.conv .u8 (.t 29),none⟩,
⟨some 31,.bslice true 1 [(.t 30)],none⟩,
⟨some 6,.cp (.t 31),none⟩] (none))
(.seq (.seq (.region [
⟨some 32,.cp (.t 3),none⟩,
⟨some 33,.len false (.t 32),none⟩,
⟨some 34,.bin .sub (.t 33) (.c (.s (.int .i64 1))),none⟩,
⟨some 7,.cp (.t 34),none⟩] (none))
(.block 2
(.loop zft_)))
(.seq (.region [
⟨some 51,.cp (.t 6),none⟩,
⟨some 52,.toStr (.t 51),none⟩,
⟨some 2,.cp (.t 52),none⟩] (none))
.ret)))))))) }
def zmi_:XF:={ np:=1,results:=[(.inl 2,.v)],body :=
(.seq (.region [
⟨some 2,.cp (.c (.s (.string ⟨#[]⟩))),none⟩] (none))
(.seq (.region [
⟨some 3,.cp (.t 0),none⟩,
⟨some 4,.len true (.t 3),none⟩,
⟨some 5,.call false zhj_ [(.t 4)],none⟩,
⟨some 6,.cp (.t 0),none⟩,
⟨some 7,.bin .add (.t 5) (.t 6),none⟩,
⟨some 2,.cp (.t 7),none⟩] (none))
.ret)) }
def zsn_:XC :=
(.seq (.region [
⟨some 12,.bin .lss (.t 11) (.t 10),none⟩] (none))
(.seq (.cond (.t 12)
.skip
(.exit 0))
(.seq (.block 1
(.seq (.region [
⟨some 13,.cp (.t 11),none⟩,
⟨some 6,.cp (.t 13),none⟩] (none))
(.seq (.region [
⟨some 14,.cp (.t 1),none⟩,
⟨some 15,.cp (.t 6),none⟩,
⟨some 16,.callv false (.t 14) [(.t 15)],none⟩] (none))
(.cond (.t 16)
(.region [
⟨some 17,.cp (.t 5),none⟩,
⟨some 18,.cp (.t 6),none⟩,
⟨some 19,.bslice false 1 [(.t 18)],none⟩,
⟨some 20,.append 1 17592186044416 (.t 17) (.t 19),none⟩,
⟨some 5,.cp (.t 20),none⟩] (none))
.skip))))
(.region [
⟨some 21,.bin .add (.t 11) (.c (.s (.int .i64 1))),none⟩,
⟨some 11,.cp (.t 21),none⟩] (none)))))
def zmj_:XF:={ np:=2,results:=[(.inr (4,1,true),.v)],body :=
(.seq (.region [
⟨some 4,.alloc [.s (.slice none 0 0)],none⟩] (none))
(.seq (.region [
⟨some 5,.cp (.c (.s (.slice none 0 0))),none⟩] (none))
(.seq (.seq (.region [
⟨some 9,.cp (.t 0),none⟩,
⟨some 10,.call false zhw_ [(.t 9)],none⟩,
⟨some 11,.cp (.c (.s (.int .i64 0))),none⟩] (none))
(.block 0
(.loop zsn_)))
(.seq (.region [
⟨some 23,.cp (.t 5),none⟩,
⟨some 24,.call false zxw_ [(.t 23)],none⟩,
⟨some 22,.cp (.t 24),none⟩,
⟨some 25,.extract (.t 22) 0,none⟩,
⟨some 26,.extract (.t 22) 1,none⟩,
⟨some 7,.alloc [.s (.slice none 0 0)],none⟩,
⟨none,.store 1 (.t 7) (.t 25),none⟩,
⟨some 8,.cp (.t 26),none⟩] (none))
(.seq (.region [
⟨some 27,.load 1 true (.t 7),none⟩,
⟨none,.store 1 (.t 4) (.t 27),none⟩] (none))
.ret))))) }
def zmk_:XF:={ np:=1,results:=[(.inl 2,.v)],body :=
(.seq (.region [
⟨some 2,.cp (.c (.s (.string ⟨#[]⟩))),none⟩] (none))
(.seq (.region [
⟨some 6,.cp (.t 0),none⟩,
⟨some 7,.call false zrc_ [(.t 6)],none⟩,
⟨some 5,.cp (.t 7),none⟩,
⟨some 8,.extract (.t 5) 0,none⟩,
⟨some 9,.extract (.t 5) 1,none⟩,
⟨some 3,.cp (.t 8),none⟩,
⟨some 4,.cp (.t 9),none⟩] (none))
(.seq (.region [
⟨some 10,.cp (.t 3),none⟩,
⟨some 11,.call false zrd_ [(.t 10)],none⟩,
⟨some 12,.call false zrb_ [(.t 11)],none⟩,
⟨some 2,.cp (.t 12),none⟩] (none))
.ret))) }
def zml_:XF:={ np:=1,results:=[(.inl 2,.v),(.inl 3,.v)],body :=
(.seq (.region [
⟨some 2,.cp (.c (.s (.string ⟨#[]⟩))),none⟩,
⟨some 3,.cp (.c (.s (.slice none 0 0))),none⟩] (none))
(.seq (.region [
⟨some 11,.cp (.t 0),none⟩,
⟨some 12,.call false zdi_ [(.t 11)],none⟩,
⟨some 10,.cp (.t 12),none⟩,
⟨some 13,.extract (.t 10) 0,none⟩,
⟨some 14,.extract (.t 10) 1,none⟩,
⟨some 4,.cp (.t 13),none⟩,
⟨some 5,.cp (.t 14),none⟩] (none))
(.seq (.region [
⟨some 16,.cp (.t 4),none⟩,
⟨some 17,.call false zkh_ [(.t 16)],none⟩,
⟨some 15,.cp (.t 17),none⟩,
⟨some 18,.extract (.t 15) 0,none⟩,
⟨some 19,.extract (.t 15) 1,none⟩,
⟨some 6,.cp (.t 18),none⟩,
⟨some 7,.cp (.t 19),none⟩] (none))
(.seq (.region [
⟨some 21,.cp (.t 4),none⟩,
⟨some 22,.cp (.t 0),none⟩,
⟨some 23,.call false zrv_ [(.t 21),(.t 22)],none⟩,
⟨some 20,.cp (.t 23),none⟩,
⟨some 24,.extract (.t 20) 0,none⟩,
⟨some 25,.extract (.t 20) 1,none⟩,
⟨some 8,.cp (.t 24),none⟩,
⟨some 9,.cp (.t 25),none⟩] (none))
(.seq (.region [
⟨some 26,.cp (.t 6),none⟩,
⟨some 27,.call false zrb_ [(.t 26)],none⟩,
⟨some 28,.cp (.t 8),none⟩,
⟨some 2,.cp (.t 27),none⟩,
⟨some 3,.cp (.t 28),none⟩] (none))
.ret))))) }
def zcfc_:XC :=
(.seq (.seq (.region [
⟨some 34,.cp (.t 9),none⟩,
⟨some 35,.cp (.t 0),none⟩,
⟨some 36,.cp (.t 8),none⟩,
⟨some 37,.iaddr 14 (.t 35) (.t 36),none⟩,
⟨some 38,.faddr (.t 37) 12,none⟩,
⟨some 39,.load 1 false (.t 38),none⟩,
⟨some 40,.len false (.t 39),none⟩,
⟨some 41,.bin .lss (.t 34) (.t 40),none⟩] (none))
(.cond (.t 41)
.skip
(.exit 2)))
(.seq (.block 3
(.seq (.region [
⟨some 44,.cp (.t 0),none⟩,
⟨some 45,.cp (.t 8),none⟩,
⟨some 46,.iaddr 14 (.t 44) (.t 45),none⟩,
⟨some 47,.faddr (.t 46) 12,none⟩,
⟨some 48,.load 1 false (.t 47),none⟩,
⟨some 49,.cp (.t 9),none⟩,
⟨some 50,.iaddr 4 (.t 48) (.t 49),none⟩,
⟨some 51,.load 4 true (.t 50),none⟩,
⟨some 10,.alloc [.s (.string ⟨#[]⟩),.s (.int .i64 0),.s (.string ⟨#[]⟩),.s (.int .i64 0)],none⟩,
⟨none,.store 4 (.t 10) (.t 51),none⟩] (none))
(.seq (.region [
⟨some 52,.cp (.t 6),none⟩,
⟨some 53,.faddr (.t 10) 0,none⟩,
⟨some 54,.load 1 false (.t 53),none⟩,
⟨some 55,.bslice false 1 [(.t 54)],none⟩,
⟨some 56,.append 1 8796093022208 (.t 52) (.t 55),none⟩,
⟨some 57,.cp (.t 4),none⟩,
⟨some 58,.faddr (.t 10) 1,none⟩,
⟨some 59,.faddr (.t 58) 0,none⟩,
⟨some 60,.load 1 false (.t 59),none⟩,
⟨some 61,.bslice false 1 [(.t 60)],none⟩,
⟨some 62,.append 1 17592186044416 (.t 57) (.t 61),none⟩,
⟨some 6,.cp (.t 56),none⟩,
⟨some 4,.cp (.t 62),none⟩] (some [(4,some 8)]))
(.seq (.region [
⟨some 63,.faddr (.t 10) 1,none⟩,
⟨some 64,.faddr (.t 63) 0,none⟩,
⟨some 65,.load 1 false (.t 64),none⟩,
⟨some 66,.bin .eql (.t 65) (.c (.s (.int .i64 1))),none⟩] (none))
(.cond (.t 66)
(.region [
⟨some 67,.cp (.t 7),none⟩,
⟨some 68,.faddr (.t 10) 1,none⟩,
⟨some 69,.faddr (.t 68) 1,none⟩,
⟨some 70,.load 1 false (.t 69),none⟩,
⟨some 71,.bslice false 1 [(.t 70)],none⟩,
⟨some 72,.append 1 8796093022208 (.t 67) (.t 71),none⟩,
⟨some 7,.cp (.t 72),none⟩] (none))
.skip)))))
(.region [
⟨some 42,.cp (.t 9),none⟩,
⟨some 43,.bin .add (.t 42) (.c (.s (.int .i64 1))),none⟩,
⟨some 9,.cp (.t 43),none⟩] (none))))
def zbgn_:XC :=
(.seq (.seq (.region [
⟨some 19,.cp (.t 8),none⟩,
⟨some 20,.cp (.t 0),none⟩,
⟨some 21,.len false (.t 20),none⟩,
⟨some 22,.bin .lss (.t 19) (.t 21),none⟩] (none))
(.cond (.t 22)
.skip
(.exit 0)))
(.seq (.block 1
(.seq (.region [
⟨some 25,.cp (.t 3),none⟩,
⟨some 26,.cp (.t 0),none⟩,
⟨some 27,.cp (.t 8),none⟩,
⟨some 28,.iaddr 14 (.t 26) (.t 27),none⟩,
⟨some 29,.faddr (.t 28) 12,none⟩,
⟨some 30,.load 1 false (.t 29),none⟩,
⟨some 31,.len false (.t 30),none⟩,
⟨some 32,.bslice false 1 [(.t 31)],none⟩,
⟨some 33,.append 1 17592186044416 (.t 25) (.t 32),none⟩,
⟨some 3,.cp (.t 33),none⟩] (none))
(.seq (.region [
⟨some 9,.cp (.c (.s (.int .i64 0))),none⟩] (none))
(.block 2
(.loop zcfc_)))))
(.region [
⟨some 23,.cp (.t 8),none⟩,
⟨some 24,.bin .add (.t 23) (.c (.s (.int .i64 1))),none⟩,
⟨some 8,.cp (.t 24),none⟩] (none))))
def zcfd_:XC :=
(.seq (.seq (.region [
⟨some 89,.cp (.t 17),none⟩,
⟨some 90,.cp (.t 0),none⟩,
⟨some 91,.cp (.t 16),none⟩,
⟨some 92,.iaddr 14 (.t 90) (.t 91),none⟩,
⟨some 93,.faddr (.t 92) 12,none⟩,
⟨some 94,.load 1 false (.t 93),none⟩,
⟨some 95,.len false (.t 94),none⟩,
⟨some 96,.bin .lss (.t 89) (.t 95),none⟩] (none))
(.cond (.t 96)
.skip
(.exit 6)))
(.seq (.block 7
(.seq (.region [
⟨some 99,.cp (.t 0),none⟩,
⟨some 100,.cp (.t 16),none⟩,
⟨some 101,.iaddr 14 (.t 99) (.t 100),none⟩,
⟨some 102,.faddr (.t 101) 12,none⟩,
⟨some 103,.load 1 false (.t 102),none⟩,
⟨some 104,.cp (.t 17),none⟩,
⟨some 105,.iaddr 4 (.t 103) (.t 104),none⟩,
⟨some 106,.faddr (.t 105) 1,none⟩,
⟨some 107,.load 3 true (.t 106),none⟩,
⟨some 18,.alloc [.s (.int .i64 0),.s (.string ⟨#[]⟩),.s (.int .i64 0)],none⟩,
⟨none,.store 3 (.t 18) (.t 107),none⟩] (none))
(.seq (.region [
⟨some 108,.faddr (.t 18) 0,none⟩,
⟨some 109,.load 1 false (.t 108),none⟩,
⟨some 110,.bin .neq (.t 109) (.c (.s (.int .i64 1))),none⟩] (none))
(.cond (.t 110)
(.region [
⟨some 111,.cp (.t 5),none⟩,
⟨some 112,.faddr (.t 18) 2,none⟩,
⟨some 113,.load 1 false (.t 112),none⟩,
⟨some 114,.bslice false 1 [(.t 113)],none⟩,
⟨some 115,.append 1 17592186044416 (.t 111) (.t 114),none⟩,
⟨some 5,.cp (.t 115),none⟩] (none))
(.seq (.region [
⟨some 116,.cp (.t 15),none⟩,
⟨some 117,.cp (.t 14),none⟩,
⟨some 118,.len false (.t 117),none⟩,
⟨some 119,.bin .lss (.t 116) (.t 118),none⟩] (none))
(.cond (.t 119)
(.region [
⟨some 120,.cp (.t 5),none⟩,
⟨some 121,.cp (.t 14),none⟩,
⟨some 122,.cp (.t 15),none⟩,
⟨some 123,.iaddr 1 (.t 121) (.t 122),none⟩,
⟨some 124,.load 1 false (.t 123),none⟩,
⟨some 125,.bslice false 1 [(.t 124)],none⟩,
⟨some 126,.append 1 17592186044416 (.t 120) (.t 125),none⟩,
⟨some 127,.cp (.t 15),none⟩,
⟨some 128,.bin .add (.t 127) (.c (.s (.int .i64 1))),none⟩,
⟨some 5,.cp (.t 126),none⟩,
⟨some 15,.cp (.t 128),none⟩] (none))
.skip))))))
(.region [
⟨some 97,.cp (.t 17),none⟩,
⟨some 98,.bin .add (.t 97) (.c (.s (.int .i64 1))),none⟩,
⟨some 17,.cp (.t 98),none⟩] (none))))
def zbgo_:XC :=
(.seq (.seq (.region [
⟨some 83,.cp (.t 16),none⟩,
⟨some 84,.cp (.t 0),none⟩,
⟨some 85,.len false (.t 84),none⟩,
⟨some 86,.bin .lss (.t 83) (.t 85),none⟩] (none))
(.cond (.t 86)
.skip
(.exit 4)))
(.seq (.block 5
(.seq (.region [
⟨some 17,.cp (.c (.s (.int .i64 0))),none⟩] (none))
(.block 6
(.loop zcfd_))))
(.region [
⟨some 87,.cp (.t 16),none⟩,
⟨some 88,.bin .add (.t 87) (.c (.s (.int .i64 1))),none⟩,
⟨some 16,.cp (.t 88),none⟩] (none))))
def zmm_:XF:={ np:=1,results:=[(.inl 2,.v)],body :=
(.seq (.region [
⟨some 2,.cp (.c (.s (.string ⟨#[]⟩))),none⟩] (none))
(.seq (.region [
⟨some 3,.cp (.c (.s (.slice none 0 0))),none⟩,
⟨some 4,.cp (.c (.s (.slice none 0 0))),none⟩,
⟨some 5,.cp (.c (.s (.slice none 0 0))),none⟩] (none))
(.seq (.region [
⟨some 6,.cp (.c (.s (.slice none 0 0))),none⟩,
⟨some 7,.cp (.c (.s (.slice none 0 0))),none⟩] (none))
(.seq (.seq (.region [
⟨some 8,.cp (.c (.s (.int .i64 0))),none⟩] (none))
(.block 0
(.loop zbgn_)))
(.seq (.region [
⟨some 74,.cp (.t 6),none⟩,
⟨some 75,.call false zkx_ [(.t 74)],none⟩,
⟨some 73,.cp (.t 75),none⟩,
⟨some 76,.extract (.t 73) 0,none⟩,
⟨some 77,.extract (.t 73) 1,none⟩,
⟨some 11,.cp (.t 76),none⟩,
⟨some 12,.cp (.t 77),none⟩] (none))
(.seq (.region [
⟨some 79,.cp (.t 7),none⟩,
⟨some 80,.call false zkx_ [(.t 79)],none⟩,
⟨some 78,.cp (.t 80),none⟩,
⟨some 81,.extract (.t 78) 0,none⟩,
⟨some 82,.extract (.t 78) 1,none⟩,
⟨some 13,.cp (.t 81),none⟩,
⟨some 14,.cp (.t 82),none⟩] (none))
(.seq (.region [
⟨some 15,.cp (.c (.s (.int .i64 0))),none⟩] (none))
(.seq (.seq (.region [
⟨some 16,.cp (.c (.s (.int .i64 0))),none⟩] (none))
(.block 4
(.loop zbgo_)))
(.seq (.region [
⟨some 129,.cp (.t 3),none⟩,
⟨some 130,.call false zcv_ [(.t 129)],none⟩,
⟨some 131,.cp (.t 11),none⟩,
⟨some 132,.bin .add (.t 130) (.t 131),none⟩,
⟨some 133,.cp (.t 12),none⟩,
⟨some 134,.call false zcv_ [(.t 133)],none⟩,
⟨some 135,.bin .add (.t 132) (.t 134),none⟩,
⟨some 136,.cp (.t 4),none⟩,
⟨some 137,.call false zcv_ [(.t 136)],none⟩,
⟨some 138,.bin .add (.t 135) (.t 137),none⟩,
⟨some 139,.cp (.t 13),none⟩,
⟨some 140,.bin .add (.t 138) (.t 139),none⟩,
⟨some 141,.cp (.t 5),none⟩,
⟨some 142,.call false zcv_ [(.t 141)],none⟩,
⟨some 143,.bin .add (.t 140) (.t 142),none⟩,
⟨some 2,.cp (.t 143),none⟩] (none))
.ret))))))))) }
def zmn_:XF:={ np:=0,results:=[(.inl 0,.v)],body :=
(.seq (.region [
⟨some 0,.cp (.c (.s (.slice none 0 0))),none⟩] (none))
(.seq (.region [
⟨some 1,.bslice false 1 [(.c (.s (.string ⟨#[116,114,97,99,101]⟩))),(.c (.s (.string ⟨#[105,100]⟩))),(.c (.s (.string ⟨#[112,97,114,101,110,116]⟩))),(.c (.s (.string ⟨#[114,101,118,105,115,105,111,110]⟩))),(.c (.s (.string ⟨#[99,108,111,99,107]⟩))),(.c (.s (.string ⟨#[107,105,110,100]⟩))),(.c (.s (.string ⟨#[115,116,97,114,116]⟩))),(.c (.s (.string ⟨#[100,117,114,97,116,105,111,110]⟩))),(.c (.s (.string ⟨#[101,114,114,111,114]⟩)))],none⟩,
⟨some 0,.cp (.t 1),none⟩] (none))
.ret)) }
def zmo_:XF:={ np:=0,results:=[(.inl 0,.v)],body :=
(.seq (.region [
⟨some 0,.cp (.c (.s (.slice none 0 0))),none⟩] (none))
(.seq (.region [
⟨some 1,.bslice false 1 [(.c (.s (.string ⟨#[115,101,114,118,105,99,101]⟩))),(.c (.s (.string ⟨#[118,101,114,115,105,111,110]⟩))),(.c (.s (.string ⟨#[111,112,101,114,97,116,105,111,110]⟩)))],none⟩,
⟨some 0,.cp (.t 1),none⟩] (none))
.ret)) }
def zmp_:XC :=
(.seq (.seq (.region [
⟨some 14,.cp (.t 6),none⟩,
⟨some 15,.bin .gtr (.t 14) (.c (.s (.int .u64 0))),none⟩] (none))
(.cond (.t 15)
.skip
(.exit 0)))
(.seq (.block 1
(.region [
⟨some 18,.cp (.t 5),none⟩,
⟨some 19,.bin .add (.t 18) (.c (.s (.int .i64 1))),none⟩,
⟨some 5,.cp (.t 19),none⟩] (none)))
(.region [
⟨some 16,.cp (.t 6),none⟩,
⟨some 17,.bin .shr (.t 16) (.c (.s (.int .u64 8))),none⟩,
⟨some 6,.cp (.t 17),none⟩] (none))))
def zin_:XC :=
(.seq (.seq (.region [
⟨some 48,.cp (.t 8),none⟩,
⟨some 49,.bin .geq (.t 48) (.c (.s (.int .i64 0))),none⟩] (none))
(.cond (.t 49)
.skip
(.exit 2)))
(.seq (.block 3
(.region [
⟨some 52,.cp (.t 0),none⟩,
⟨some 53,.cp (.t 0),none⟩,
⟨some 54,.nilchk (.t 53),none⟩,
⟨some 55,.faddr (.t 54) 0,none⟩,
⟨some 56,.load 1 false (.t 55),none⟩,
⟨some 57,.cp (.t 4),none⟩,
⟨some 58,.cp (.t 8),none⟩,
⟨some 59,.bin .mul (.c (.s (.int .i64 8))) (.t 58),none⟩,
⟨some 60,.bin .shr (.t 57) (.t 59),none⟩,
⟨some 61,.conv .u8 (.t 60),none⟩,
⟨some 62,.cp (.t 7),none⟩,
⟨some 63,.bin .xor (.t 61) (.t 62),none⟩,
⟨some 64,.bslice false 1 [(.t 63)],none⟩,
⟨some 65,.append 1 140737488355328 (.t 56) (.t 64),none⟩,
⟨some 66,.nilchk (.t 52),none⟩,
⟨some 67,.faddr (.t 66) 0,none⟩,
⟨none,.store 1 (.t 67) (.t 65),none⟩] (some [])))
(.region [
⟨some 50,.cp (.t 8),none⟩,
⟨some 51,.bin .sub (.t 50) (.c (.s (.int .i64 1))),none⟩,
⟨some 8,.cp (.t 51),none⟩] (none))))
def zmq_:XF:={ np:=2,results:=[],body :=
(.seq (.seq (.region [
⟨some 9,.cp (.t 0),none⟩,
⟨some 10,.eqv .p false (.t 9) (.c (.s (.pointer none))),none⟩] (none))
(.cond (.t 10)
.ret
.skip))
(.seq (.region [
⟨some 11,.cp (.t 1),none⟩,
⟨some 12,.call false zvt_ [(.t 11)],none⟩,
⟨some 4,.cp (.t 12),none⟩,
⟨some 5,.cp (.c (.s (.int .i64 0))),none⟩] (none))
(.seq (.seq (.region [
⟨some 13,.cp (.t 4),none⟩,
⟨some 6,.cp (.t 13),none⟩] (none))
(.block 0
(.loop zmp_)))
(.seq (.region [
⟨some 7,.cp (.c (.s (.int .u8 0))),none⟩] (none))
(.seq (.seq (.region [
⟨some 20,.cp (.t 1),none⟩,
⟨some 21,.bin .lss (.t 20) (.c (.s (.int .i64 0))),none⟩] (none))
(.cond (.t 21)
(.seq (.region [
⟨some 7,.cp (.c (.s (.int .u8 255))),none⟩] (none))
(.region [
⟨some 22,.cp (.t 0),none⟩,
⟨some 23,.cp (.t 0),none⟩,
⟨some 24,.nilchk (.t 23),none⟩,
⟨some 25,.faddr (.t 24) 0,none⟩,
⟨some 26,.load 1 false (.t 25),none⟩,
⟨some 27,.cp (.t 5),none⟩,
⟨some 28,.bin .sub (.c (.s (.int .i64 128))) (.t 27),none⟩,
⟨some 29,.conv .u8 (.t 28),none⟩,
⟨some 30,.bslice false 1 [(.t 29)],none⟩,
⟨some 31,.append 1 140737488355328 (.t 26) (.t 30),none⟩,
⟨some 32,.nilchk (.t 22),none⟩,
⟨some 33,.faddr (.t 32) 0,none⟩,
⟨none,.store 1 (.t 33) (.t 31),none⟩] (none)))
(.region [
⟨some 34,.cp (.t 0),none⟩,
⟨some 35,.cp (.t 0),none⟩,
⟨some 36,.nilchk (.t 35),none⟩,
⟨some 37,.faddr (.t 36) 0,none⟩,
⟨some 38,.load 1 false (.t 37),none⟩,
⟨some 39,.cp (.t 5),none⟩,
⟨some 40,.bin .add (.c (.s (.int .i64 128))) (.t 39),none⟩,
⟨some 41,.conv .u8 (.t 40),none⟩,
⟨some 42,.bslice false 1 [(.t 41)],none⟩,
⟨some 43,.append 1 140737488355328 (.t 38) (.t 42),none⟩,
⟨some 44,.nilchk (.t 34),none⟩,
⟨some 45,.faddr (.t 44) 0,none⟩,
⟨none,.store 1 (.t 45) (.t 43),none⟩] (none))))
(.seq (.region [
⟨some 46,.cp (.t 5),none⟩,
⟨some 47,.bin .sub (.t 46) (.c (.s (.int .i64 1))),none⟩,
⟨some 8,.cp (.t 47),none⟩] (none))
(.block 2
(.loop zin_)))))))) }
def zmr_:XF:={ np:=2,results:=[],body :=
(.seq (.region [
⟨some 7,.cp (.t 1),none⟩,
⟨some 8,.call false zrc_ [(.t 7)],none⟩,
⟨some 6,.cp (.t 8),none⟩,
⟨some 9,.extract (.t 6) 0,none⟩,
⟨some 10,.extract (.t 6) 1,none⟩,
⟨some 4,.cp (.t 9),none⟩,
⟨some 5,.cp (.t 10),none⟩] (none))
(.region [
⟨some 11,.cp (.t 0),none⟩,
⟨some 12,.cp (.t 4),none⟩,
⟨some 13,.call false zrd_ [(.t 12)],none⟩,
⟨some 14,.call false zek_ [(.t 11),(.t 13)],none⟩] (none))) }
def zms_:XF:={ np:=2,results:=[],body :=
(.seq (.region [
⟨some 11,.cp (.t 1),none⟩,
⟨some 12,.call false zdi_ [(.t 11)],none⟩,
⟨some 10,.cp (.t 12),none⟩,
⟨some 13,.extract (.t 10) 0,none⟩,
⟨some 14,.extract (.t 10) 1,none⟩,
⟨some 4,.cp (.t 13),none⟩,
⟨some 5,.cp (.t 14),none⟩] (none))
(.seq (.region [
⟨some 16,.cp (.t 4),none⟩,
⟨some 17,.call false zkh_ [(.t 16)],none⟩,
⟨some 15,.cp (.t 17),none⟩,
⟨some 18,.extract (.t 15) 0,none⟩,
⟨some 19,.extract (.t 15) 1,none⟩,
⟨some 6,.cp (.t 18),none⟩,
⟨some 7,.cp (.t 19),none⟩] (none))
(.seq (.region [
⟨some 20,.cp (.t 0),none⟩,
⟨some 21,.cp (.t 6),none⟩,
⟨some 22,.call false zek_ [(.t 20),(.t 21)],none⟩] (none))
(.seq (.region [
⟨some 24,.cp (.t 4),none⟩,
⟨some 25,.cp (.t 1),none⟩,
⟨some 26,.call false zrv_ [(.t 24),(.t 25)],none⟩,
⟨some 23,.cp (.t 26),none⟩,
⟨some 27,.extract (.t 23) 0,none⟩,
⟨some 28,.extract (.t 23) 1,none⟩,
⟨some 8,.cp (.t 27),none⟩,
⟨some 9,.cp (.t 28),none⟩] (none))
(.region [
⟨some 29,.cp (.t 0),none⟩,
⟨some 30,.cp (.t 8),none⟩,
⟨some 31,.call false zdg_ [(.t 29),(.t 30)],none⟩] (none)))))) }
def zyk_:XF:={ np:=1,results:=[(.inl 2,.v)],body :=
(.seq (.region [
⟨some 1,.box false (.t 0),none⟩,
⟨some 2,.cp (.c (.s (.int .i64 0))),none⟩] (none))
(.seq (.region [
⟨some 3,.faddr (.t 1) 12,none⟩,
⟨some 4,.load 1 false (.t 3),none⟩,
⟨some 5,.len false (.t 4),none⟩,
⟨some 2,.cp (.t 5),none⟩] (none))
.ret)) }
def zyl_:XF:={ np:=1,results:=[(.inl 2,.v)],body :=
(.seq (.region [
⟨some 1,.box false (.t 0),none⟩,
⟨some 2,.cp (.c (.s (.string ⟨#[]⟩))),none⟩] (none))
(.seq (.region [
⟨some 3,.faddr (.t 1) 0,none⟩,
⟨some 4,.load 1 false (.t 3),none⟩,
⟨some 2,.cp (.t 4),none⟩] (none))
.ret)) }
def zbgp_:XC :=
(.seq (.region [
⟨some 11,.bin .lss (.t 10) (.t 9),none⟩] (none))
(.seq (.cond (.t 11)
.skip
(.exit 0))
(.seq (.block 1
(.seq (.region [
⟨some 12,.iaddr 4 (.t 8) (.t 10),none⟩,
⟨some 13,.load 4 true (.t 12),none⟩,
⟨some 7,.alloc [.s (.string ⟨#[]⟩),.s (.int .i64 0),.s (.string ⟨#[]⟩),.s (.int .i64 0)],none⟩,
⟨none,.store 4 (.t 7) (.t 13),none⟩] (none))
(.region [
⟨some 14,.cp (.t 5),none⟩,
⟨some 15,.cp (.t 1),none⟩,
⟨some 16,.load 4 true (.t 7),none⟩,
⟨some 17,.callv false (.t 15) [(.t 16)],none⟩,
⟨some 18,.bslice false 1 [(.t 17)],none⟩,
⟨some 19,.append 1 17592186044416 (.t 14) (.t 18),none⟩,
⟨some 5,.cp (.t 19),none⟩] (none))))
(.region [
⟨some 20,.bin .add (.t 10) (.c (.s (.int .i64 1))),none⟩,
⟨some 10,.cp (.t 20),none⟩] (none)))))
def zmt_:XF:={ np:=2,results:=[(.inl 4,.v)],body :=
(.seq (.region [
⟨some 4,.cp (.c (.s (.slice none 0 0))),none⟩] (none))
(.seq (.region [
⟨some 5,.cp (.c (.s (.slice none 0 0))),none⟩] (none))
(.seq (.seq (.region [
⟨some 8,.cp (.t 0),none⟩,
⟨some 9,.len false (.t 8),none⟩,
⟨some 10,.cp (.c (.s (.int .i64 0))),none⟩] (none))
(.block 0
(.loop zbgp_)))
(.seq (.region [
⟨some 21,.cp (.t 5),none⟩,
⟨some 4,.cp (.t 21),none⟩] (none))
.ret)))) }
def zym_:XF:={ np:=1,results:=[(.inl 2,.v)],body :=
(.seq (.region [
⟨some 1,.box false (.t 0),none⟩,
⟨some 2,.cp (.c (.s (.int .i64 0))),none⟩] (none))
(.seq (.region [
⟨some 3,.faddr (.t 1) 1,none⟩,
⟨some 4,.faddr (.t 3) 0,none⟩,
⟨some 5,.load 1 false (.t 4),none⟩,
⟨some 2,.cp (.t 5),none⟩] (none))
.ret)) }
def zbgq_:XC :=
(.seq (.region [
⟨some 32,.bin .lss (.t 31) (.t 30),none⟩] (none))
(.seq (.cond (.t 32)
.skip
(.exit 0))
(.seq (.block 1
(.seq (.region [
⟨some 33,.cp (.t 31),none⟩,
⟨some 34,.iaddr 1 (.t 29) (.t 31),none⟩,
⟨some 35,.load 1 false (.t 34),none⟩,
⟨some 7,.cp (.t 33),none⟩,
⟨some 8,.cp (.t 35),none⟩] (none))
(.seq (.seq (.region [
⟨some 36,.cp (.t 7),none⟩,
⟨some 37,.bin .rem (.t 36) (.c (.s (.int .i64 16))),none⟩,
⟨some 38,.bin .neq (.t 37) (.c (.s (.int .i64 0))),none⟩] (none))
(.cond (.t 38)
(.seq (.region [
⟨some 39,.cp (.t 0),none⟩,
⟨some 40,.cp (.t 7),none⟩,
⟨some 41,.bin .sub (.t 40) (.c (.s (.int .i64 1))),none⟩,
⟨some 42,.iaddr 1 (.t 39) (.t 41),none⟩,
⟨some 43,.load 1 false (.t 42),none⟩,
⟨some 44,.cp (.t 8),none⟩,
⟨some 45,.call false zbgh_ [(.t 43),(.t 44)],none⟩,
⟨some 9,.cp (.t 45),none⟩] (none))
(.seq (.region [
⟨some 46,.cp (.t 5),none⟩,
⟨some 47,.cp (.t 6),none⟩,
⟨some 48,.cp (.t 9),none⟩,
⟨some 49,.conv .u8 (.t 48),none⟩,
⟨some 50,.cp (.t 8),none⟩,
⟨some 51,.cp (.t 9),none⟩,
⟨some 52,.slStr (.t 50) (some (.t 51)) none,none⟩,
⟨some 53,.iaddr 1 (.t 46) (.t 47),none⟩,
⟨none,.store 1 (.t 53) (.t 49),none⟩,
⟨some 8,.cp (.t 52),none⟩] (some []))
(.region [
⟨some 54,.cp (.t 6),none⟩,
⟨some 55,.bin .add (.t 54) (.c (.s (.int .i64 1))),none⟩,
⟨some 6,.cp (.t 55),none⟩] (none))))
.skip))
(.seq (.region [
⟨some 56,.cp (.t 5),none⟩,
⟨some 57,.cp (.t 6),none⟩,
⟨some 58,.cp (.t 8),none⟩,
⟨some 59,.len true (.t 58),none⟩,
⟨some 60,.conv .u8 (.t 59),none⟩,
⟨some 61,.iaddr 1 (.t 56) (.t 57),none⟩,
⟨none,.store 1 (.t 61) (.t 60),none⟩] (none))
(.region [
⟨some 62,.cp (.t 6),none⟩,
⟨some 63,.cp (.t 5),none⟩,
⟨some 64,.cp (.t 6),none⟩,
⟨some 65,.bin .add (.t 64) (.c (.s (.int .i64 1))),none⟩,
⟨some 66,.slLst 1 (.t 63) (some (.t 65)) none,none⟩,
⟨some 67,.cp (.t 8),none⟩,
⟨some 68,.slArr 0 (.c (.s (.slice none 0 0))),none⟩,
⟨some 69,.bin .add (.c (.s (.int .i64 1))) (.t 68),none⟩,
⟨some 70,.bin .add (.t 62) (.t 69),none⟩,
⟨some 6,.cp (.t 70),none⟩] (none))))))
(.region [
⟨some 71,.bin .add (.t 31) (.c (.s (.int .i64 1))),none⟩,
⟨some 31,.cp (.t 71),none⟩] (none)))))
def zmu_:XF:={ np:=1,results:=[(.inl 2,.v),(.inl 3,.v)],body :=
(.seq (.region [
⟨some 2,.cp (.c (.s (.string ⟨#[]⟩))),none⟩,
⟨some 3,.cp (.c (.s (.int .i64 0))),none⟩] (none))
(.seq (.seq (.region [
⟨some 10,.cp (.t 0),none⟩,
⟨some 11,.call false zxh_ [(.t 10)],none⟩,
⟨some 4,.cp (.t 11),none⟩] (none))
(.seq (.region [
⟨some 12,.cp (.t 4),none⟩,
⟨some 13,.bin .neq (.t 12) (.c (.s (.int .i64 0))),none⟩] (none))
(.cond (.t 13)
(.seq (.region [
⟨some 14,.cp (.t 4),none⟩,
⟨some 2,.cp (.c (.s (.string ⟨#[]⟩))),none⟩,
⟨some 3,.cp (.t 14),none⟩] (none))
.ret)
.skip)))
(.seq (.region [
⟨some 15,.cp (.t 0),none⟩,
⟨some 16,.call false zxi_ [(.t 15)],none⟩,
⟨some 17,.mkslice 1 (.s (.int .u8 0)) 140737488355328 (.t 16) (.t 16),none⟩,
⟨some 5,.cp (.t 17),none⟩] (none))
(.seq (.region [
⟨some 18,.cp (.t 5),none⟩,
⟨some 19,.cp (.t 5),none⟩,
⟨some 20,.cp (.t 0),none⟩,
⟨some 21,.len false (.t 20),none⟩,
⟨some 22,.bin .shr (.t 21) (.c (.s (.int .u64 8))),none⟩,
⟨some 23,.conv .u8 (.t 22),none⟩,
⟨some 24,.cp (.t 0),none⟩,
⟨some 25,.len false (.t 24),none⟩,
⟨some 26,.conv .u8 (.t 25),none⟩,
⟨some 27,.iaddr 1 (.t 18) (.c (.s (.int .i64 0))),none⟩,
⟨none,.store 1 (.t 27) (.t 23),none⟩,
⟨some 28,.iaddr 1 (.t 19) (.c (.s (.int .i64 1))),none⟩,
⟨none,.store 1 (.t 28) (.t 26),none⟩] (none))
(.seq (.region [
⟨some 6,.cp (.c (.s (.int .i64 2))),none⟩] (none))
(.seq (.seq (.region [
⟨some 29,.cp (.t 0),none⟩,
⟨some 30,.len false (.t 29),none⟩,
⟨some 31,.cp (.c (.s (.int .i64 0))),none⟩] (none))
(.block 0
(.loop zbgq_)))
(.seq (.region [
⟨some 72,.cp (.t 5),none⟩,
⟨some 73,.toStr (.t 72),none⟩,
⟨some 2,.cp (.t 73),none⟩,
⟨some 3,.cp (.c (.s (.int .i64 0))),none⟩] (none))
.ret))))))) }
def zio_:XF:={ np:=2,results:=[],body :=
(.seq (.seq (.region [
⟨some 4,.cp (.t 0),none⟩,
⟨some 5,.eqv .p false (.t 4) (.c (.s (.pointer none))),none⟩] (none))
(.cond (.t 5)
.ret
.skip))
(.seq (.region [
⟨some 6,.cp (.t 0),none⟩,
⟨some 7,.cp (.t 1),none⟩,
⟨some 8,.len true (.t 7),none⟩,
⟨some 9,.call false zbn_ [(.t 6),(.t 8)],none⟩] (none))
(.region [
⟨some 10,.cp (.t 0),none⟩,
⟨some 11,.cp (.t 0),none⟩,
⟨some 12,.nilchk (.t 11),none⟩,
⟨some 13,.faddr (.t 12) 0,none⟩,
⟨some 14,.load 1 false (.t 13),none⟩,
⟨some 15,.cp (.t 1),none⟩,
⟨some 16,.append 1 140737488355328 (.t 14) (.t 15),none⟩,
⟨some 17,.nilchk (.t 10),none⟩,
⟨some 18,.faddr (.t 17) 0,none⟩,
⟨none,.store 1 (.t 18) (.t 16),none⟩] (none)))) }
def zyn_:XF:={ np:=2,results:=[(.inl 3,.v)],body :=
(.seq (.region [
⟨some 2,.box false (.t 0),none⟩,
⟨some 3,.cp (.c (.s (.int .i64 0))),none⟩] (none))
(.seq (.seq (.region [
⟨some 6,.faddr (.t 2) 1,none⟩,
⟨some 7,.faddr (.t 6) 0,none⟩,
⟨some 8,.load 1 false (.t 7),none⟩,
⟨some 9,.bin .eql (.t 8) (.c (.s (.int .i64 1))),none⟩] (none))
(.cond (.t 9)
(.seq (.region [
⟨some 11,.load 1 false (.t 1),none⟩,
⟨some 12,.faddr (.t 2) 1,none⟩,
⟨some 13,.faddr (.t 12) 1,none⟩,
⟨some 14,.load 1 false (.t 13),none⟩,
⟨some 15,.call false zbgg_ [(.t 11),(.t 14)],none⟩,
⟨some 10,.cp (.t 15),none⟩,
⟨some 16,.extract (.t 10) 0,none⟩,
⟨some 17,.extract (.t 10) 1,none⟩,
⟨some 4,.cp (.t 16),none⟩,
⟨some 5,.cp (.t 17),none⟩] (none))
(.seq (.region [
⟨some 18,.cp (.t 4),none⟩,
⟨some 3,.cp (.t 18),none⟩] (none))
.ret))
.skip))
(.seq (.region [
⟨some 19,.faddr (.t 2) 1,none⟩,
⟨some 20,.faddr (.t 19) 2,none⟩,
⟨some 21,.load 1 false (.t 20),none⟩,
⟨some 3,.cp (.t 21),none⟩] (none))
.ret))) }
def zyo_:XF:={ np:=2,results:=[(.inl 4,.v),(.inl 5,.v)],body :=
(.seq (.region [
⟨some 4,.cp (.c (.s (.int .i64 0))),none⟩,
⟨some 5,.cp (.c (.s (.bool false))),none⟩] (none))
(.seq (.region [
⟨some 9,.cp (.t 0),none⟩,
⟨some 10,.cp (.t 1),none⟩,
⟨some 11,.call false zcez_ [(.t 9),(.t 10)],none⟩,
⟨some 8,.cp (.t 11),none⟩,
⟨some 12,.extract (.t 8) 0,none⟩,
⟨some 13,.extract (.t 8) 1,none⟩,
⟨some 6,.cp (.t 12),none⟩,
⟨some 7,.cp (.t 13),none⟩] (none))
(.seq (.seq (.region [
⟨some 14,.cp (.t 7),none⟩,
⟨some 15,.un .not (.t 14),none⟩] (none))
(.cond (.t 15)
(.seq (.region [
⟨some 4,.cp (.c (.s (.int .i64 0))),none⟩,
⟨some 5,.cp (.c (.s (.bool false))),none⟩] (none))
.ret)
.skip))
(.seq (.region [
⟨some 16,.cp (.t 6),none⟩,
⟨some 4,.cp (.t 16),none⟩,
⟨some 5,.cp (.c (.s (.bool true))),none⟩] (none))
.ret)))) }
def zyp_:XF:={ np:=1,results:=[(.inl 2,.v)],body :=
(.seq (.region [
⟨some 1,.box false (.t 0),none⟩,
⟨some 2,.cp (.c (.s (.int .i64 0))),none⟩] (none))
(.seq (.region [
⟨some 3,.faddr (.t 1) 13,none⟩,
⟨some 4,.load 1 false (.t 3),none⟩,
⟨some 5,.len false (.t 4),none⟩,
⟨some 2,.cp (.t 5),none⟩] (none))
.ret)) }
def zyq_:XC :=
(.seq (.region [
⟨some 11,.bin .lss (.t 10) (.t 9),none⟩] (none))
(.seq (.cond (.t 11)
.skip
(.exit 0))
(.seq (.block 1
(.seq (.region [
⟨some 12,.iaddr 2 (.t 8) (.t 10),none⟩,
⟨some 13,.load 2 true (.t 12),none⟩,
⟨some 7,.alloc [.s (.int .i64 0),.s (.int .i64 0)],none⟩,
⟨none,.store 2 (.t 7) (.t 13),none⟩] (none))
(.region [
⟨some 14,.cp (.t 5),none⟩,
⟨some 15,.cp (.t 1),none⟩,
⟨some 16,.load 2 true (.t 7),none⟩,
⟨some 17,.callv false (.t 15) [(.t 16)],none⟩,
⟨some 18,.bslice false 1 [(.t 17)],none⟩,
⟨some 19,.append 1 17592186044416 (.t 14) (.t 18),none⟩,
⟨some 5,.cp (.t 19),none⟩] (none))))
(.region [
⟨some 20,.bin .add (.t 10) (.c (.s (.int .i64 1))),none⟩,
⟨some 10,.cp (.t 20),none⟩] (none)))))
def zmv_:XF:={ np:=2,results:=[(.inl 4,.v)],body :=
(.seq (.region [
⟨some 4,.cp (.c (.s (.slice none 0 0))),none⟩] (none))
(.seq (.region [
⟨some 5,.cp (.c (.s (.slice none 0 0))),none⟩] (none))
(.seq (.seq (.region [
⟨some 8,.cp (.t 0),none⟩,
⟨some 9,.len false (.t 8),none⟩,
⟨some 10,.cp (.c (.s (.int .i64 0))),none⟩] (none))
(.block 0
(.loop zyq_)))
(.seq (.region [
⟨some 21,.cp (.t 5),none⟩,
⟨some 4,.cp (.t 21),none⟩] (none))
.ret)))) }
def zyr_:XF:={ np:=1,results:=[(.inl 2,.v)],body :=
(.seq (.region [
⟨some 1,.box false (.t 0),none⟩,
⟨some 2,.cp (.c (.s (.int .i64 0))),none⟩] (none))
(.seq (.region [
⟨some 3,.faddr (.t 1) 0,none⟩,
⟨some 4,.load 1 false (.t 3),none⟩,
⟨some 2,.cp (.t 4),none⟩] (none))
.ret)) }
def zys_:XF:={ np:=1,results:=[(.inl 2,.v)],body :=
(.seq (.region [
⟨some 1,.box false (.t 0),none⟩,
⟨some 2,.cp (.c (.s (.int .i64 0))),none⟩] (none))
(.seq (.region [
⟨some 3,.faddr (.t 1) 1,none⟩,
⟨some 4,.load 1 false (.t 3),none⟩,
⟨some 2,.cp (.t 4),none⟩] (none))
.ret)) }
def zip_:XF:={ np:=1,results:=[(.inl 2,.v)],body :=
(.seq (.region [
⟨some 2,.cp (.c (.s (.string ⟨#[]⟩))),none⟩] (none))
(.seq (.seq (.region [
⟨some 3,.cp (.t 0),none⟩,
⟨some 4,.eqv .p false (.t 3) (.c (.s (.pointer none))),none⟩] (none))
(.cond (.t 4)
(.seq (.region [
⟨some 2,.cp (.c (.s (.string ⟨#[]⟩))),none⟩] (none))
.ret)
.skip))
(.seq (.region [
⟨some 5,.cp (.t 0),none⟩,
⟨some 6,.nilchk (.t 5),none⟩,
⟨some 7,.faddr (.t 6) 0,none⟩,
⟨some 8,.load 1 false (.t 7),none⟩,
⟨some 9,.toStr (.t 8),none⟩,
⟨some 2,.cp (.t 9),none⟩] (none))
.ret))) }
def ziq_:XF:={ np:=2,results:=[(.inl 3,.v)],body :=
(.seq (.region [
⟨some 3,.cp (.c (.s (.bool false))),none⟩] (none))
(.seq (.region [
⟨some 4,.cp (.t 0),none⟩,
⟨some 5,.bin .add (.t 4) (.c (.s (.int .i64 1))),none⟩,
⟨some 6,.load 1 false (.t 1),none⟩,
⟨some 7,.nilchk (.t 6),none⟩,
⟨some 8,.faddr (.t 7) 0,none⟩,
⟨some 9,.load 1 false (.t 8),none⟩,
⟨some 10,.len false (.t 9),none⟩,
⟨some 11,.bin .eql (.t 5) (.t 10),none⟩,
⟨some 12,.cp (.t 11),none⟩,
⟨some 13,.load 1 false (.t 1),some (12,false)⟩,
⟨some 14,.nilchk (.t 13),some (12,false)⟩,
⟨some 15,.faddr (.t 14) 0,some (12,false)⟩,
⟨some 16,.load 1 false (.t 15),some (12,false)⟩,
⟨some 17,.cp (.t 0),some (12,false)⟩,
⟨some 18,.iaddr 14 (.t 16) (.t 17),some (12,false)⟩,
⟨some 19,.load 14 true (.t 18),some (12,false)⟩,
⟨some 20,.call false zrf_ [(.t 19)],some (12,false)⟩,
⟨some 21,.load 1 false (.t 1),some (12,false)⟩,
⟨some 22,.nilchk (.t 21),some (12,false)⟩,
⟨some 23,.faddr (.t 22) 0,some (12,false)⟩,
⟨some 24,.load 1 false (.t 23),some (12,false)⟩,
⟨some 25,.cp (.t 0),some (12,false)⟩,
⟨some 26,.bin .add (.t 25) (.c (.s (.int .i64 1))),some (12,false)⟩,
⟨some 27,.iaddr 14 (.t 24) (.t 26),some (12,false)⟩,
⟨some 28,.load 14 true (.t 27),some (12,false)⟩,
⟨some 29,.call false zrf_ [(.t 28)],some (12,false)⟩,
⟨some 30,.eqv (.a [.i,.i]) true (.t 20) (.t 29),some (12,false)⟩,
⟨some 31,.pick (.t 12) (.c (.s (.bool true))) (.t 30),none⟩,
⟨some 3,.cp (.t 31),none⟩] (some [(16,none)]))
.ret)) }
def zmw_:XF:={ np:=1,results:=[(.inr (2,2,true),.v)],body :=
(.seq (.region [
⟨some 1,.box false (.t 0),none⟩,
⟨some 2,.alloc [.s (.int .i64 0),.s (.int .i64 0)],none⟩] (none))
(.seq (.region [
⟨some 3,.faddr (.t 1) 0,none⟩,
⟨some 4,.load 1 false (.t 3),none⟩,
⟨some 5,.faddr (.t 1) 1,none⟩,
⟨some 6,.load 1 false (.t 5),none⟩,
⟨some 7,.build false [.s (.int .i64 0),.s (.int .i64 0)] [(0,1,(.t 4)),(1,1,(.t 6))],none⟩,
⟨none,.store 2 (.t 2) (.t 7),none⟩] (none))
.ret)) }
def zmx_:XF:={ np:=1,results:=[(.inr (2,14,true),.v)],body :=
(.seq (.region [
⟨some 1,.box false (.t 0),none⟩,
⟨some 2,.alloc [.s (.int .i64 0),.s (.int .i64 0),.s (.int .i64 0),.s (.int .i64 0),.s (.int .i64 0),.s (.int .i64 0),.s (.string ⟨#[]⟩),.s (.string ⟨#[]⟩),.s (.string ⟨#[]⟩),.s (.int .i64 0),.s (.int .i64 0),.s (.bool false),.s (.slice none 0 0),.s (.slice none 0 0)],none⟩] (none))
(.seq (.region [
⟨some 3,.faddr (.t 1) 12,none⟩,
⟨some 4,.load 1 false (.t 3),none⟩,
⟨some 5,.call false zrl_ [(.t 4)],none⟩,
⟨some 6,.faddr (.t 1) 13,none⟩,
⟨some 7,.load 1 false (.t 6),none⟩,
⟨some 8,.call false zrm_ [(.t 7)],none⟩,
⟨some 9,.faddr (.t 1) 12,none⟩,
⟨none,.store 1 (.t 9) (.t 5),none⟩,
⟨some 10,.faddr (.t 1) 13,none⟩,
⟨none,.store 1 (.t 10) (.t 8),none⟩] (some [(2,some 4)]))
(.seq (.region [
⟨some 11,.load 14 true (.t 1),none⟩,
⟨none,.store 14 (.t 2) (.t 11),none⟩] (none))
.ret))) }
def zso_:XC :=
(.seq (.seq (.region [
⟨some 32,.cp (.t 7),none⟩,
⟨some 33,.cp (.t 6),none⟩,
⟨some 34,.len false (.t 33),none⟩,
⟨some 35,.bin .lss (.t 32) (.t 34),none⟩] (none))
(.cond (.t 35)
.skip
(.exit 2)))
(.seq (.block 3
(.seq (.region [
⟨some 38,.cp (.t 1),none⟩,
⟨some 39,.cp (.t 6),none⟩,
⟨some 40,.cp (.t 7),none⟩,
⟨some 41,.iaddr 14 (.t 39) (.t 40),none⟩,
⟨some 42,.load 14 true (.t 41),none⟩,
⟨some 43,.cp (.t 6),none⟩,
⟨some 44,.cp (.t 7),none⟩,
⟨some 45,.bin .sub (.t 44) (.c (.s (.int .i64 1))),none⟩,
⟨some 46,.iaddr 14 (.t 43) (.t 45),none⟩,
⟨some 47,.load 14 true (.t 46),none⟩,
⟨some 48,.callv false (.t 38) [(.t 42),(.t 47)],none⟩,
⟨some 49,.un .not (.t 48),none⟩] (some []))
(.cond (.t 49)
(.seq (.region [
⟨some 50,.cp (.t 0),none⟩,
⟨some 51,.cp (.t 5),none⟩,
⟨some 52,.cp (.t 6),none⟩,
⟨some 53,.cp (.t 7),none⟩,
⟨some 54,.iaddr 14 (.t 52) (.t 53),none⟩,
⟨some 55,.load 14 true (.t 54),none⟩,
⟨some 56,.iaddr 14 (.t 50) (.t 51),none⟩,
⟨none,.store 14 (.t 56) (.t 55),none⟩] (none))
(.region [
⟨some 57,.cp (.t 5),none⟩,
⟨some 58,.bin .add (.t 57) (.c (.s (.int .i64 1))),none⟩,
⟨some 5,.cp (.t 58),none⟩] (none)))
.skip)))
(.region [
⟨some 36,.cp (.t 7),none⟩,
⟨some 37,.bin .add (.t 36) (.c (.s (.int .i64 1))),none⟩,
⟨some 7,.cp (.t 37),none⟩] (none))))
def zsp_:XC :=
(.seq (.seq (.region [
⟨some 12,.cp (.t 5),none⟩,
⟨some 13,.cp (.t 0),none⟩,
⟨some 14,.len false (.t 13),none⟩,
⟨some 15,.bin .lss (.t 12) (.t 14),none⟩] (none))
(.cond (.t 15)
.skip
(.exit 0)))
(.seq (.block 1
(.seq (.region [
⟨some 18,.cp (.t 1),none⟩,
⟨some 19,.cp (.t 0),none⟩,
⟨some 20,.cp (.t 5),none⟩,
⟨some 21,.iaddr 14 (.t 19) (.t 20),none⟩,
⟨some 22,.load 14 true (.t 21),none⟩,
⟨some 23,.cp (.t 0),none⟩,
⟨some 24,.cp (.t 5),none⟩,
⟨some 25,.bin .sub (.t 24) (.c (.s (.int .i64 1))),none⟩,
⟨some 26,.iaddr 14 (.t 23) (.t 25),none⟩,
⟨some 27,.load 14 true (.t 26),none⟩,
⟨some 28,.callv false (.t 18) [(.t 22),(.t 27)],none⟩] (some []))
(.cond (.t 28)
(.seq (.region [
⟨some 29,.cp (.t 0),none⟩,
⟨some 30,.cp (.t 5),none⟩,
⟨some 31,.slLst 14 (.t 29) (some (.t 30)) none,none⟩,
⟨some 6,.cp (.t 31),none⟩] (none))
(.seq (.seq (.region [
⟨some 7,.cp (.c (.s (.int .i64 1))),none⟩] (none))
(.block 2
(.loop zso_)))
(.seq (.region [
⟨some 59,.cp (.t 0),none⟩,
⟨some 60,.cp (.t 5),none⟩,
⟨some 61,.slLst 14 (.t 59) (some (.t 60)) none,none⟩,
⟨none,.clear 14 (.agg [.s (.int .i64 0),.s (.int .i64 0),.s (.int .i64 0),.s (.int .i64 0),.s (.int .i64 0),.s (.int .i64 0),.s (.string ⟨#[]⟩),.s (.string ⟨#[]⟩),.s (.string ⟨#[]⟩),.s (.int .i64 0),.s (.int .i64 0),.s (.bool false),.s (.slice none 0 0),.s (.slice none 0 0)]) (.t 61),none⟩] (none))
(.seq (.region [
⟨some 62,.cp (.t 0),none⟩,
⟨some 63,.cp (.t 5),none⟩,
⟨some 64,.slFrz 14 (.t 62) none (some (.t 63)),none⟩,
⟨some 4,.cp (.t 64),none⟩] (none))
.ret))))
.skip)))
(.region [
⟨some 16,.cp (.t 5),none⟩,
⟨some 17,.bin .add (.t 16) (.c (.s (.int .i64 1))),none⟩,
⟨some 5,.cp (.t 17),none⟩] (none))))
def zfu_:XF:={ np:=2,results:=[(.inl 4,.v)],body :=
(.seq (.region [
⟨some 4,.cp (.c (.s (.slice none 0 0))),none⟩] (none))
(.seq (.seq (.region [
⟨some 8,.cp (.t 0),none⟩,
⟨some 9,.len false (.t 8),none⟩,
⟨some 10,.bin .lss (.t 9) (.c (.s (.int .i64 2))),none⟩] (none))
(.cond (.t 10)
(.seq (.region [
⟨some 11,.cp (.t 0),none⟩,
⟨some 4,.cp (.t 11),none⟩] (none))
.ret)
.skip))
(.seq (.seq (.region [
⟨some 5,.cp (.c (.s (.int .i64 1))),none⟩] (none))
(.block 0
(.loop zsp_)))
(.seq (.region [
⟨some 65,.cp (.t 0),none⟩,
⟨some 4,.cp (.t 65),none⟩] (none))
.ret)))) }
def zir_:XF:={ np:=2,results:=[(.inl 4,.v)],body :=
(.seq (.region [
⟨some 4,.cp (.c (.s (.slice none 0 0))),none⟩] (none))
(.seq (.region [
⟨some 6,.cp (.t 0),none⟩,
⟨some 7,.call true zwr_ [(.t 6)],none⟩,
⟨some 5,.cp (.t 7),none⟩] (none))
(.seq (.region [
⟨some 8,.cp (.t 5),none⟩,
⟨some 9,.cp (.t 1),none⟩,
⟨some 10,.call false zrn_ [(.t 8),(.t 9)],none⟩] (none))
(.seq (.region [
⟨some 11,.cp (.t 5),none⟩,
⟨some 4,.cp (.t 11),none⟩] (none))
.ret)))) }
def zis_:XF:={ np:=1,results:=[(.inl 2,.c)],body :=
(.seq (.region [
⟨some 1,.box true (.t 0),none⟩,
⟨some 2,.cp (.c (.s .nilFunc)),none⟩] (none))
(.seq (.region [
⟨some 3,.mkfn false zck_ [] [(.t 1)],none⟩,
⟨some 2,.cp (.t 3),none⟩] (none))
.ret)) }
def zmy_:XF:={ np:=2,results:=[(.inl 4,.v)],body :=
(.seq (.region [
⟨some 2,.box false (.t 0),none⟩,
⟨some 3,.box false (.t 1),none⟩,
⟨some 4,.cp (.c (.s (.int .i64 0))),none⟩] (none))
(.seq (.region [
⟨some 7,.faddr (.t 2) 0,none⟩,
⟨some 8,.load 1 false (.t 7),none⟩,
⟨some 9,.faddr (.t 2) 1,none⟩,
⟨some 10,.load 1 false (.t 9),none⟩,
⟨some 11,.faddr (.t 2) 3,none⟩,
⟨some 12,.load 1 false (.t 11),none⟩,
⟨some 13,.faddr (.t 2) 2,none⟩,
⟨some 14,.load 1 false (.t 13),none⟩,
⟨some 15,.faddr (.t 2) 4,none⟩,
⟨some 16,.load 1 false (.t 15),none⟩,
⟨some 17,.faddr (.t 2) 5,none⟩,
⟨some 18,.load 1 false (.t 17),none⟩,
⟨some 19,.build false [.s (.int .i64 0),.s (.int .i64 0),.s (.int .i64 0),.s (.int .i64 0),.s (.int .i64 0),.s (.int .i64 0)] [(0,1,(.t 8)),(1,1,(.t 10)),(2,1,(.t 12)),(3,1,(.t 14)),(4,1,(.t 16)),(5,1,(.t 18))],none⟩,
⟨some 5,.alloc [.s (.int .i64 0),.s (.int .i64 0),.s (.int .i64 0),.s (.int .i64 0),.s (.int .i64 0),.s (.int .i64 0)],none⟩,
⟨none,.store 6 (.t 5) (.t 19),none⟩] (none))
(.seq (.region [
⟨some 20,.faddr (.t 3) 0,none⟩,
⟨some 21,.load 1 false (.t 20),none⟩,
⟨some 22,.faddr (.t 3) 1,none⟩,
⟨some 23,.load 1 false (.t 22),none⟩,
⟨some 24,.faddr (.t 3) 3,none⟩,
⟨some 25,.load 1 false (.t 24),none⟩,
⟨some 26,.faddr (.t 3) 2,none⟩,
⟨some 27,.load 1 false (.t 26),none⟩,
⟨some 28,.faddr (.t 3) 4,none⟩,
⟨some 29,.load 1 false (.t 28),none⟩,
⟨some 30,.faddr (.t 3) 5,none⟩,
⟨some 31,.load 1 false (.t 30),none⟩,
⟨some 32,.build false [.s (.int .i64 0),.s (.int .i64 0),.s (.int .i64 0),.s (.int .i64 0),.s (.int .i64 0),.s (.int .i64 0)] [(0,1,(.t 21)),(1,1,(.t 23)),(2,1,(.t 25)),(3,1,(.t 27)),(4,1,(.t 29)),(5,1,(.t 31))],none⟩,
⟨some 6,.alloc [.s (.int .i64 0),.s (.int .i64 0),.s (.int .i64 0),.s (.int .i64 0),.s (.int .i64 0),.s (.int .i64 0)],none⟩,
⟨none,.store 6 (.t 6) (.t 32),none⟩] (none))
(.seq (.region [
⟨some 33,.slBox 6 (.t 5),none⟩,
⟨some 34,.slBox 6 (.t 6),none⟩,
⟨some 35,.call false zrg_ [(.t 33),(.t 34)],none⟩,
⟨some 36,.faddr (.t 2) 6,none⟩,
⟨some 37,.load 1 false (.t 36),none⟩,
⟨some 38,.faddr (.t 3) 6,none⟩,
⟨some 39,.load 1 false (.t 38),none⟩,
⟨some 40,.call false zfn_ [(.t 37),(.t 39)],none⟩,
⟨some 41,.faddr (.t 2) 7,none⟩,
⟨some 42,.load 1 false (.t 41),none⟩,
⟨some 43,.faddr (.t 3) 7,none⟩,
⟨some 44,.load 1 false (.t 43),none⟩,
⟨some 45,.call false zfn_ [(.t 42),(.t 44)],none⟩,
⟨some 46,.faddr (.t 2) 8,none⟩,
⟨some 47,.load 1 false (.t 46),none⟩,
⟨some 48,.faddr (.t 3) 8,none⟩,
⟨some 49,.load 1 false (.t 48),none⟩,
⟨some 50,.call false zfn_ [(.t 47),(.t 49)],none⟩,
⟨some 51,.faddr (.t 2) 9,none⟩,
⟨some 52,.load 1 false (.t 51),none⟩,
⟨some 53,.faddr (.t 3) 9,none⟩,
⟨some 54,.load 1 false (.t 53),none⟩,
⟨some 55,.call false zdq_ [(.t 52),(.t 54)],none⟩,
⟨some 56,.faddr (.t 2) 10,none⟩,
⟨some 57,.load 1 false (.t 56),none⟩,
⟨some 58,.faddr (.t 3) 10,none⟩,
⟨some 59,.load 1 false (.t 58),none⟩,
⟨some 60,.call false zdq_ [(.t 57),(.t 59)],none⟩,
⟨some 61,.faddr (.t 2) 11,none⟩,
⟨some 62,.load 1 false (.t 61),none⟩,
⟨some 63,.call false zrh_ [(.t 62)],none⟩,
⟨some 64,.faddr (.t 3) 11,none⟩,
⟨some 65,.load 1 false (.t 64),none⟩,
⟨some 66,.call false zrh_ [(.t 65)],none⟩,
⟨some 67,.bin .sub (.t 63) (.t 66),none⟩,
⟨some 68,.faddr (.t 2) 12,none⟩,
⟨some 69,.load 1 false (.t 68),none⟩,
⟨some 70,.faddr (.t 3) 12,none⟩,
⟨some 71,.load 1 false (.t 70),none⟩,
⟨some 72,.call false zwj_ [(.t 69),(.t 71)],none⟩,
⟨some 73,.faddr (.t 2) 13,none⟩,
⟨some 74,.load 1 false (.t 73),none⟩,
⟨some 75,.faddr (.t 3) 13,none⟩,
⟨some 76,.load 1 false (.t 75),none⟩,
⟨some 77,.call false zwk_ [(.t 74),(.t 76),(.c (.fn zhq_ [] []))],none⟩,
⟨some 78,.bslice false 1 [(.t 35),(.t 40),(.t 45),(.t 50),(.t 55),(.t 60),(.t 67),(.t 72),(.t 77)],none⟩,
⟨some 79,.call false zhu_ [(.t 78)],none⟩,
⟨some 4,.cp (.t 79),none⟩] (some [(2,none),(7,none),(12,none),(17,none),(22,none),(27,none),(30,none),(33,none),(39,some 41),(39,some 43)]))
.ret)))) }
def zfv_:XC :=
(.seq (.seq (.region [
⟨some 14,.cp (.t 5),none⟩,
⟨some 15,.faddr (.t 1) 0,none⟩,
⟨some 16,.load 1 false (.t 15),none⟩,
⟨some 17,.len false (.t 16),none⟩,
⟨some 18,.bin .lss (.t 14) (.t 17),none⟩] (none))
(.cond (.t 18)
.skip
(.exit 2)))
(.seq (.block 3
(.seq (.region [
⟨some 21,.faddr (.t 1) 0,none⟩,
⟨some 22,.load 1 false (.t 21),none⟩,
⟨some 23,.cp (.t 5),none⟩,
⟨some 24,.iaddr 3 (.t 22) (.t 23),none⟩,
⟨some 25,.faddr (.t 24) 2,none⟩,
⟨some 26,.load 1 false (.t 25),none⟩,
⟨some 27,.len false (.t 26),none⟩,
⟨some 28,.bin .gtr (.t 27) (.c (.s (.int .i64 0))),none⟩,
⟨some 29,.cp (.t 28),none⟩,
⟨some 30,.load 7 true (.t 1),some (29,true)⟩,
⟨some 31,.cp (.t 5),some (29,true)⟩,
⟨some 32,.call false zen_ [(.t 30),(.t 31)],some (29,true)⟩,
⟨some 33,.cp (.t 3),some (29,true)⟩,
⟨some 34,.cp (.t 4),some (29,true)⟩,
⟨some 35,.iaddr 14 (.t 33) (.t 34),some (29,true)⟩,
⟨some 36,.faddr (.t 35) 0,some (29,true)⟩,
⟨some 37,.load 1 false (.t 36),some (29,true)⟩,
⟨some 38,.bin .eql (.t 32) (.t 37),some (29,true)⟩,
⟨some 39,.pick (.t 29) (.t 38) (.c (.s (.bool false))),none⟩,
⟨some 40,.cp (.t 39),none⟩,
⟨some 41,.faddr (.t 1) 0,some (40,true)⟩,
⟨some 42,.load 1 false (.t 41),some (40,true)⟩,
⟨some 43,.cp (.t 5),some (40,true)⟩,
⟨some 44,.iaddr 3 (.t 42) (.t 43),some (40,true)⟩,
⟨some 45,.faddr (.t 44) 2,some (40,true)⟩,
⟨some 46,.load 1 false (.t 45),some (40,true)⟩,
⟨some 47,.cp (.t 3),some (40,true)⟩,
⟨some 48,.cp (.t 4),some (40,true)⟩,
⟨some 49,.iaddr 14 (.t 47) (.t 48),some (40,true)⟩,
⟨some 50,.faddr (.t 49) 1,some (40,true)⟩,
⟨some 51,.load 1 false (.t 50),some (40,true)⟩,
⟨some 52,.bin .sub (.t 51) (.c (.s (.int .i64 1))),some (40,true)⟩,
⟨some 53,.iaddr 11 (.t 46) (.t 52),some (40,true)⟩,
⟨some 54,.faddr (.t 53) 9,some (40,true)⟩,
⟨some 55,.load 1 false (.t 54),some (40,true)⟩,
⟨some 56,.bin .rem (.t 55) (.c (.s (.int .u8 2))),some (40,true)⟩,
⟨some 57,.bin .eql (.t 56) (.c (.s (.int .u8 1))),some (40,true)⟩,
⟨some 58,.pick (.t 40) (.t 57) (.c (.s (.bool false))),none⟩] (some [(11,some 14),(11,some 16)]))
(.cond (.t 58)
(.region [
⟨some 59,.cp (.t 3),none⟩,
⟨some 60,.cp (.t 4),none⟩,
⟨some 61,.iaddr 14 (.t 59) (.t 60),none⟩,
⟨some 62,.faddr (.t 61) 3,none⟩,
⟨none,.store 1 (.t 62) (.c (.s (.int .i64 1))),none⟩] (none))
.skip)))
(.region [
⟨some 19,.cp (.t 5),none⟩,
⟨some 20,.bin .add (.t 19) (.c (.s (.int .i64 1))),none⟩,
⟨some 5,.cp (.t 20),none⟩] (none))))
def zsq_:XC :=
(.seq (.seq (.region [
⟨some 8,.cp (.t 4),none⟩,
⟨some 9,.cp (.t 3),none⟩,
⟨some 10,.len false (.t 9),none⟩,
⟨some 11,.bin .lss (.t 8) (.t 10),none⟩] (none))
(.cond (.t 11)
.skip
(.exit 0)))
(.seq (.block 1
(.seq (.region [
⟨some 5,.cp (.c (.s (.int .i64 0))),none⟩] (none))
(.block 2
(.loop zfv_))))
(.region [
⟨some 12,.cp (.t 4),none⟩,
⟨some 13,.bin .add (.t 12) (.c (.s (.int .i64 1))),none⟩,
⟨some 4,.cp (.t 13),none⟩] (none))))
def zit_:XF:={ np:=1,results:=[(.inl 2,.v)],body :=
(.seq (.region [
⟨some 1,.box false (.t 0),none⟩,
⟨some 2,.cp (.c (.s (.slice none 0 0))),none⟩] (none))
(.seq (.region [
⟨some 6,.load 7 true (.t 1),none⟩,
⟨some 7,.call true zxj_ [(.t 6)],none⟩,
⟨some 3,.cp (.t 7),none⟩] (none))
(.seq (.seq (.region [
⟨some 4,.cp (.c (.s (.int .i64 0))),none⟩] (none))
(.block 0
(.loop zsq_)))
(.seq (.region [
⟨some 63,.cp (.t 3),none⟩,
⟨some 2,.cp (.t 63),none⟩] (none))
.ret)))) }
def zyt_:XC :=
(.seq (.seq (.region [
⟨some 9,.cp (.t 4),none⟩,
⟨some 10,.faddr (.t 1) 5,none⟩,
⟨some 11,.load 1 false (.t 10),none⟩,
⟨some 12,.len false (.t 11),none⟩,
⟨some 13,.bin .lss (.t 9) (.t 12),none⟩] (none))
(.cond (.t 13)
.skip
(.exit 0)))
(.seq (.block 1
(.seq (.region [
⟨some 16,.faddr (.t 1) 5,none⟩,
⟨some 17,.load 1 false (.t 16),none⟩,
⟨some 18,.cp (.t 4),none⟩,
⟨some 19,.iaddr 5 (.t 17) (.t 18),none⟩,
⟨some 20,.load 5 true (.t 19),none⟩,
⟨some 5,.alloc [.s (.int .u8 0),.s (.int .u8 0),.s (.int .u8 0),.s (.int .u8 0),.s (.int .u8 0)],none⟩,
⟨none,.store 5 (.t 5) (.t 20),none⟩] (none))
(.seq (.region [
⟨some 21,.faddr (.t 5) 0,none⟩,
⟨some 22,.load 1 false (.t 21),none⟩,
⟨some 23,.bin .rem (.t 22) (.c (.s (.int .u8 4))),none⟩,
⟨some 24,.conv .i64 (.t 23),none⟩,
⟨some 25,.bin .add (.c (.s (.int .i64 1))) (.t 24),none⟩,
⟨some 26,.faddr (.t 5) 1,none⟩,
⟨some 27,.load 1 false (.t 26),none⟩,
⟨some 28,.bin .rem (.t 27) (.c (.s (.int .u8 4))),none⟩,
⟨some 29,.conv .i64 (.t 28),none⟩,
⟨some 30,.bin .add (.c (.s (.int .i64 1))) (.t 29),none⟩,
⟨some 31,.build false [.s (.int .i64 0),.s (.int .i64 0),.s (.int .i64 0),.s (.int .i64 0),.s (.int .i64 0)] [(0,1,(.t 25)),(1,1,(.t 30))],none⟩,
⟨some 6,.alloc [.s (.int .i64 0),.s (.int .i64 0),.s (.int .i64 0),.s (.int .i64 0),.s (.int .i64 0)],none⟩,
⟨none,.store 5 (.t 6) (.t 31),none⟩] (none))
(.seq (.region [
⟨some 32,.faddr (.t 5) 2,none⟩,
⟨some 33,.load 1 false (.t 32),none⟩,
⟨some 34,.bin .rem (.t 33) (.c (.s (.int .u8 64))),none⟩,
⟨some 35,.conv .i64 (.t 34),none⟩,
⟨some 36,.bin .add (.c (.s (.int .i64 1000))) (.t 35),none⟩,
⟨some 37,.faddr (.t 5) 3,none⟩,
⟨some 38,.load 1 false (.t 37),none⟩,
⟨some 39,.bin .rem (.t 38) (.c (.s (.int .u8 16))),none⟩,
⟨some 40,.conv .i64 (.t 39),none⟩,
⟨some 7,.cp (.t 36),none⟩,
⟨some 8,.cp (.t 40),none⟩] (some []))
(.seq (.region [
⟨some 41,.cp (.t 7),none⟩,
⟨some 42,.load 7 true (.t 1),none⟩,
⟨some 43,.faddr (.t 6) 0,none⟩,
⟨some 44,.load 1 false (.t 43),none⟩,
⟨some 45,.call false zhy_ [(.t 42),(.t 44)],none⟩,
⟨some 46,.bin .add (.t 41) (.t 45),none⟩,
⟨some 47,.cp (.t 7),none⟩,
⟨some 48,.cp (.t 8),none⟩,
⟨some 49,.bin .add (.t 47) (.t 48),none⟩,
⟨some 50,.load 7 true (.t 1),none⟩,
⟨some 51,.faddr (.t 6) 1,none⟩,
⟨some 52,.load 1 false (.t 51),none⟩,
⟨some 53,.call false zhy_ [(.t 50),(.t 52)],none⟩,
⟨some 54,.bin .add (.t 49) (.t 53),none⟩,
⟨some 55,.cp (.t 8),none⟩,
⟨some 56,.faddr (.t 5) 4,none⟩,
⟨some 57,.load 1 false (.t 56),none⟩,
⟨some 58,.bin .rem (.t 57) (.c (.s (.int .u8 4))),none⟩,
⟨some 59,.conv .i64 (.t 58),none⟩,
⟨some 60,.bin .sub (.t 55) (.t 59),none⟩,
⟨some 61,.minmax true [(.c (.s (.int .i64 0))),(.t 60)],none⟩,
⟨some 62,.faddr (.t 6) 2,none⟩,
⟨none,.store 1 (.t 62) (.t 46),none⟩,
⟨some 63,.faddr (.t 6) 3,none⟩,
⟨none,.store 1 (.t 63) (.t 54),none⟩,
⟨some 64,.faddr (.t 6) 4,none⟩,
⟨none,.store 1 (.t 64) (.t 61),none⟩] (some [(4,none),(12,some 16),(22,some 16),(24,some 16)]))
(.region [
⟨some 65,.cp (.t 3),none⟩,
⟨some 66,.load 5 true (.t 6),none⟩,
⟨some 67,.bslice false 5 [(.t 66)],none⟩,
⟨some 68,.append 5 3518437208883 (.t 65) (.t 67),none⟩,
⟨some 3,.cp (.t 68),none⟩] (none)))))))
(.region [
⟨some 14,.cp (.t 4),none⟩,
⟨some 15,.bin .add (.t 14) (.c (.s (.int .i64 1))),none⟩,
⟨some 4,.cp (.t 15),none⟩] (none))))
def zmz_:XF:={ np:=1,results:=[(.inl 2,.v)],body :=
(.seq (.region [
⟨some 1,.box false (.t 0),none⟩,
⟨some 2,.cp (.c (.s (.slice none 0 0))),none⟩] (none))
(.seq (.region [
⟨some 3,.cp (.c (.s (.slice none 0 0))),none⟩] (none))
(.seq (.seq (.region [
⟨some 4,.cp (.c (.s (.int .i64 0))),none⟩] (none))
(.block 0
(.loop zyt_)))
(.seq (.region [
⟨some 69,.cp (.t 3),none⟩,
⟨some 2,.cp (.t 69),none⟩] (none))
.ret)))) }
def zfw_:XF:={ np:=1,results:=[(.inl 2,.v)],body :=
(.seq (.region [
⟨some 2,.cp (.c (.s (.bool false))),none⟩] (none))
(.seq (.region [
⟨some 3,.cp (.t 0),none⟩,
⟨some 4,.bin .lss (.t 3) (.c (.s (.int .i64 1))),none⟩,
⟨some 5,.cp (.t 4),none⟩,
⟨some 6,.cp (.t 0),some (5,false)⟩,
⟨some 7,.bin .gtr (.t 6) (.c (.s (.int .i64 1099511627776))),some (5,false)⟩,
⟨some 8,.pick (.t 5) (.c (.s (.bool true))) (.t 7),none⟩,
⟨some 2,.cp (.t 8),none⟩] (none))
.ret)) }
def zfx_:XF:={ np:=1,results:=[(.inl 2,.v)],body :=
(.seq (.region [
⟨some 2,.cp (.c (.s (.bool false))),none⟩] (none))
(.seq (.region [
⟨some 3,.cp (.t 0),none⟩,
⟨some 4,.bin .neq (.t 3) (.c (.s (.string ⟨#[]⟩))),none⟩,
⟨some 5,.cp (.t 4),none⟩,
⟨some 6,.cp (.t 0),some (5,true)⟩,
⟨some 7,.len true (.t 6),some (5,true)⟩,
⟨some 8,.bin .leq (.t 7) (.c (.s (.int .i64 64))),some (5,true)⟩,
⟨some 9,.pick (.t 5) (.t 8) (.c (.s (.bool false))),none⟩,
⟨some 10,.cp (.t 9),none⟩,
⟨some 11,.cp (.t 0),some (10,true)⟩,
⟨some 12,.call false zri_ [(.t 11),(.c (.s (.int .u8 33))),(.c (.s (.int .u8 126)))],some (10,true)⟩,
⟨some 13,.pick (.t 10) (.t 12) (.c (.s (.bool false))),none⟩,
⟨some 2,.cp (.t 13),none⟩] (none))
.ret)) }
def zsr_:XC :=
(.seq (.region [
⟨some 9,.bin .lss (.t 8) (.t 7),none⟩] (none))
(.seq (.cond (.t 9)
.skip
(.exit 0))
(.seq (.block 1
(.seq (.region [
⟨some 10,.iaddr 1 (.t 6) (.t 8),none⟩,
⟨some 11,.load 1 false (.t 10),none⟩,
⟨some 5,.cp (.t 11),none⟩] (none))
(.seq (.region [
⟨some 12,.cp (.t 5),none⟩,
⟨some 13,.cp (.t 3),none⟩,
⟨some 14,.bin .neq (.t 12) (.t 13),none⟩] (none))
(.cond (.t 14)
(.seq (.region [
⟨some 15,.cp (.t 5),none⟩,
⟨some 2,.cp (.t 15),none⟩] (none))
.ret)
.skip))))
(.region [
⟨some 16,.bin .add (.t 8) (.c (.s (.int .i64 1))),none⟩,
⟨some 8,.cp (.t 16),none⟩] (none)))))
def zna_:XF:={ np:=1,results:=[(.inl 2,.v)],body :=
(.seq (.region [
⟨some 2,.cp (.c (.s (.int .i64 0))),none⟩] (none))
(.seq (.region [
⟨some 3,.cp (.c (.s (.int .i64 0))),none⟩] (none))
(.seq (.seq (.region [
⟨some 6,.cp (.t 0),none⟩,
⟨some 7,.len false (.t 6),none⟩,
⟨some 8,.cp (.c (.s (.int .i64 0))),none⟩] (none))
(.block 0
(.loop zsr_)))
(.seq (.region [
⟨some 17,.cp (.t 3),none⟩,
⟨some 2,.cp (.t 17),none⟩] (none))
.ret)))) }
def zeq_:XC :=
(.seq (.region [
⟨some 12,.bin .lss (.t 11) (.t 10),none⟩] (none))
(.seq (.cond (.t 12)
.skip
(.exit 0))
(.seq (.block 1
(.seq (.region [
⟨some 13,.cp (.t 11),none⟩,
⟨some 14,.iaddr 4 (.t 9) (.t 11),none⟩,
⟨some 15,.load 4 true (.t 14),none⟩,
⟨some 4,.alloc [.s (.string ⟨#[]⟩),.s (.int .i64 0),.s (.string ⟨#[]⟩),.s (.int .i64 0)],none⟩,
⟨some 3,.cp (.t 13),none⟩,
⟨none,.store 4 (.t 4) (.t 15),none⟩] (none))
(.seq (.block 2
(.seq (.region [
⟨some 17,.faddr (.t 4) 0,none⟩,
⟨some 18,.load 1 false (.t 17),none⟩,
⟨some 19,.call false zht_ [(.t 18)],none⟩,
⟨some 20,.un .not (.t 19),none⟩,
⟨some 16,.cp (.t 20),none⟩] (none))
(.cond (.t 16)
(.seq (.region [
⟨some 2,.cp (.c (.s (.int .i64 11))),none⟩] (none))
.ret)
(.seq (.region [
⟨some 22,.cp (.t 3),none⟩,
⟨some 23,.bin .gtr (.t 22) (.c (.s (.int .i64 0))),none⟩,
⟨some 24,.cp (.t 23),none⟩,
⟨some 25,.faddr (.t 4) 0,some (24,true)⟩,
⟨some 26,.load 1 false (.t 25),some (24,true)⟩,
⟨some 27,.cp (.t 0),some (24,true)⟩,
⟨some 28,.cp (.t 3),some (24,true)⟩,
⟨some 29,.bin .sub (.t 28) (.c (.s (.int .i64 1))),some (24,true)⟩,
⟨some 30,.iaddr 4 (.t 27) (.t 29),some (24,true)⟩,
⟨some 31,.faddr (.t 30) 0,some (24,true)⟩,
⟨some 32,.load 1 false (.t 31),some (24,true)⟩,
⟨some 33,.bin .leq (.t 26) (.t 32),some (24,true)⟩,
⟨some 34,.pick (.t 24) (.t 33) (.c (.s (.bool false))),none⟩,
⟨some 21,.cp (.t 34),none⟩] (some []))
(.cond (.t 21)
(.seq (.region [
⟨some 2,.cp (.c (.s (.int .i64 8))),none⟩] (none))
.ret)
.skip)))))
(.seq (.region [
⟨some 35,.faddr (.t 4) 1,none⟩,
⟨some 36,.load 3 true (.t 35),none⟩,
⟨some 37,.call false zwf_ [(.t 36)],none⟩,
⟨some 5,.cp (.t 37),none⟩] (none))
(.seq (.region [
⟨some 38,.cp (.t 5),none⟩,
⟨some 39,.bin .neq (.t 38) (.c (.s (.int .i64 0))),none⟩] (none))
(.cond (.t 39)
(.seq (.region [
⟨some 40,.cp (.t 5),none⟩,
⟨some 2,.cp (.t 40),none⟩] (none))
.ret)
.skip))))))
(.region [
⟨some 41,.bin .add (.t 11) (.c (.s (.int .i64 1))),none⟩,
⟨some 11,.cp (.t 41),none⟩] (none)))))
def ziu_:XF:={ np:=1,results:=[(.inl 2,.v)],body :=
(.seq (.region [
⟨some 2,.cp (.c (.s (.int .i64 0))),none⟩] (none))
(.seq (.seq (.region [
⟨some 6,.cp (.t 0),none⟩,
⟨some 7,.len false (.t 6),none⟩,
⟨some 8,.bin .gtr (.t 7) (.c (.s (.int .i64 32))),none⟩] (none))
(.cond (.t 8)
(.seq (.region [
⟨some 2,.cp (.c (.s (.int .i64 6))),none⟩] (none))
.ret)
.skip))
(.seq (.seq (.region [
⟨some 9,.cp (.t 0),none⟩,
⟨some 10,.len false (.t 9),none⟩,
⟨some 11,.cp (.c (.s (.int .i64 0))),none⟩] (none))
(.block 0
(.loop zeq_)))
(.seq (.region [
⟨some 2,.cp (.c (.s (.int .i64 0))),none⟩] (none))
.ret)))) }
def zfy_:XC :=
(.seq (.region [
⟨some 11,.bin .lss (.t 10) (.t 9),none⟩] (none))
(.seq (.cond (.t 11)
.skip
(.exit 0))
(.seq (.block 1
(.seq (.region [
⟨some 12,.cp (.t 10),none⟩,
⟨some 13,.iaddr 2 (.t 8) (.t 10),none⟩,
⟨some 14,.load 2 true (.t 13),none⟩,
⟨some 4,.alloc [.s (.int .i64 0),.s (.int .i64 0)],none⟩,
⟨some 3,.cp (.t 12),none⟩,
⟨none,.store 2 (.t 4) (.t 14),none⟩] (none))
(.block 2
(.seq (.region [
⟨some 16,.faddr (.t 4) 0,none⟩,
⟨some 17,.load 1 false (.t 16),none⟩,
⟨some 18,.call false zhs_ [(.t 17)],none⟩,
⟨some 19,.cp (.t 18),none⟩,
⟨some 20,.faddr (.t 4) 1,some (19,false)⟩,
⟨some 21,.load 1 false (.t 20),some (19,false)⟩,
⟨some 22,.call false zhs_ [(.t 21)],some (19,false)⟩,
⟨some 23,.pick (.t 19) (.c (.s (.bool true))) (.t 22),none⟩,
⟨some 15,.cp (.t 23),none⟩] (none))
(.cond (.t 15)
(.seq (.region [
⟨some 2,.cp (.c (.s (.int .i64 2))),none⟩] (none))
.ret)
(.seq (.region [
⟨some 25,.cp (.t 3),none⟩,
⟨some 26,.bin .gtr (.t 25) (.c (.s (.int .i64 0))),none⟩,
⟨some 27,.cp (.t 26),none⟩,
⟨some 28,.cp (.t 0),some (27,true)⟩,
⟨some 29,.cp (.t 3),some (27,true)⟩,
⟨some 30,.bin .sub (.t 29) (.c (.s (.int .i64 1))),some (27,true)⟩,
⟨some 31,.iaddr 2 (.t 28) (.t 30),some (27,true)⟩,
⟨some 32,.load 2 true (.t 31),some (27,true)⟩,
⟨some 33,.load 2 true (.t 4),some (27,true)⟩,
⟨some 34,.call false zhq_ [(.t 32),(.t 33)],some (27,true)⟩,
⟨some 35,.bin .geq (.t 34) (.c (.s (.int .i64 0))),some (27,true)⟩,
⟨some 36,.pick (.t 27) (.t 35) (.c (.s (.bool false))),none⟩,
⟨some 24,.cp (.t 36),none⟩] (some []))
(.cond (.t 24)
(.seq (.region [
⟨some 2,.cp (.c (.s (.int .i64 8))),none⟩] (none))
.ret)
.skip)))))))
(.region [
⟨some 37,.bin .add (.t 10) (.c (.s (.int .i64 1))),none⟩,
⟨some 10,.cp (.t 37),none⟩] (none)))))
def ziv_:XF:={ np:=1,results:=[(.inl 2,.v)],body :=
(.seq (.region [
⟨some 2,.cp (.c (.s (.int .i64 0))),none⟩] (none))
(.seq (.seq (.region [
⟨some 5,.cp (.t 0),none⟩,
⟨some 6,.len false (.t 5),none⟩,
⟨some 7,.bin .gtr (.t 6) (.c (.s (.int .i64 16))),none⟩] (none))
(.cond (.t 7)
(.seq (.region [
⟨some 2,.cp (.c (.s (.int .i64 6))),none⟩] (none))
.ret)
.skip))
(.seq (.seq (.region [
⟨some 8,.cp (.t 0),none⟩,
⟨some 9,.len false (.t 8),none⟩,
⟨some 10,.cp (.c (.s (.int .i64 0))),none⟩] (none))
(.block 0
(.loop zfy_)))
(.seq (.region [
⟨some 2,.cp (.c (.s (.int .i64 0))),none⟩] (none))
.ret)))) }
def zss_:XC :=
(.seq (.region [
⟨some 9,.bin .lss (.t 8) (.t 7),none⟩] (none))
(.seq (.cond (.t 9)
.skip
(.exit 0))
(.seq (.block 1
(.seq (.region [
⟨some 10,.cp (.t 8),none⟩,
⟨some 5,.cp (.t 10),none⟩] (none))
(.seq (.region [
⟨some 11,.cp (.t 1),none⟩,
⟨some 12,.cp (.t 0),none⟩,
⟨some 13,.cp (.t 5),none⟩,
⟨some 14,.iaddr 4 (.t 12) (.t 13),none⟩,
⟨some 15,.load 4 true (.t 14),none⟩,
⟨some 16,.callv false (.t 11) [(.t 15)],none⟩] (none))
(.cond (.t 16)
(.seq (.region [
⟨some 17,.cp (.t 5),none⟩,
⟨some 4,.cp (.t 17),none⟩] (none))
.ret)
.skip))))
(.region [
⟨some 18,.bin .add (.t 8) (.c (.s (.int .i64 1))),none⟩,
⟨some 8,.cp (.t 18),none⟩] (none)))))
def znb_:XF:={ np:=2,results:=[(.inl 4,.v)],body :=
(.seq (.region [
⟨some 4,.cp (.c (.s (.int .i64 0))),none⟩] (none))
(.seq (.seq (.region [
⟨some 6,.cp (.t 0),none⟩,
⟨some 7,.len false (.t 6),none⟩,
⟨some 8,.cp (.c (.s (.int .i64 0))),none⟩] (none))
(.block 0
(.loop zss_)))
(.seq (.region [
⟨some 4,.cp (.c (.s (.int .i64 (-1)))),none⟩] (none))
.ret))) }
def znc_:XF:={ np:=1,results:=[(.inl 2,.v)],body :=
(.seq (.region [
⟨some 1,.box false (.t 0),none⟩,
⟨some 2,.cp (.c (.s (.int .i64 0))),none⟩] (none))
(.seq (.region [
⟨some 3,.faddr (.t 1) 0,none⟩,
⟨some 4,.load 1 false (.t 3),none⟩,
⟨some 2,.cp (.t 4),none⟩] (none))
.ret)) }
def znd_:XF:={ np:=1,results:=[(.inl 2,.v)],body :=
(.seq (.region [
⟨some 1,.box false (.t 0),none⟩,
⟨some 2,.cp (.c (.s (.int .i64 0))),none⟩] (none))
(.seq (.region [
⟨some 3,.faddr (.t 1) 1,none⟩,
⟨some 4,.load 1 false (.t 3),none⟩,
⟨some 2,.cp (.t 4),none⟩] (none))
.ret)) }
def zne_:XF:={ np:=1,results:=[(.inl 2,.v)],body :=
(.seq (.region [
⟨some 1,.box false (.t 0),none⟩,
⟨some 2,.cp (.c (.s (.int .i64 0))),none⟩] (none))
(.seq (.region [
⟨some 3,.faddr (.t 1) 2,none⟩,
⟨some 4,.load 1 false (.t 3),none⟩,
⟨some 2,.cp (.t 4),none⟩] (none))
.ret)) }
def znf_:XF:={ np:=1,results:=[(.inl 2,.v)],body :=
(.seq (.region [
⟨some 1,.box false (.t 0),none⟩,
⟨some 2,.cp (.c (.s (.int .i64 0))),none⟩] (none))
(.seq (.region [
⟨some 3,.faddr (.t 1) 3,none⟩,
⟨some 4,.load 1 false (.t 3),none⟩,
⟨some 2,.cp (.t 4),none⟩] (none))
.ret)) }
def zng_:XF:={ np:=1,results:=[(.inl 2,.v)],body :=
(.seq (.region [
⟨some 1,.box false (.t 0),none⟩,
⟨some 2,.cp (.c (.s (.int .i64 0))),none⟩] (none))
(.seq (.region [
⟨some 3,.faddr (.t 1) 4,none⟩,
⟨some 4,.load 1 false (.t 3),none⟩,
⟨some 2,.cp (.t 4),none⟩] (none))
.ret)) }
def znh_:XF:={ np:=1,results:=[(.inl 2,.v)],body :=
(.seq (.region [
⟨some 1,.box false (.t 0),none⟩,
⟨some 2,.cp (.c (.s (.int .i64 0))),none⟩] (none))
(.seq (.region [
⟨some 3,.faddr (.t 1) 5,none⟩,
⟨some 4,.load 1 false (.t 3),none⟩,
⟨some 2,.cp (.t 4),none⟩] (none))
.ret)) }
def zni_:XF:={ np:=1,results:=[(.inl 2,.v)],body :=
(.seq (.region [
⟨some 1,.box false (.t 0),none⟩,
⟨some 2,.cp (.c (.s (.int .i64 0))),none⟩] (none))
(.seq (.region [
⟨some 3,.faddr (.t 1) 9,none⟩,
⟨some 4,.load 1 false (.t 3),none⟩,
⟨some 2,.cp (.t 4),none⟩] (none))
.ret)) }
def znj_:XF:={ np:=1,results:=[(.inl 2,.v)],body :=
(.seq (.region [
⟨some 1,.box false (.t 0),none⟩,
⟨some 2,.cp (.c (.s (.int .i64 0))),none⟩] (none))
(.seq (.region [
⟨some 3,.faddr (.t 1) 10,none⟩,
⟨some 4,.load 1 false (.t 3),none⟩,
⟨some 5,.faddr (.t 1) 9,none⟩,
⟨some 6,.load 1 false (.t 5),none⟩,
⟨some 7,.bin .sub (.t 4) (.t 6),none⟩,
⟨some 2,.cp (.t 7),none⟩] (none))
.ret)) }
def znk_:XF:={ np:=1,results:=[(.inl 2,.v)],body :=
(.seq (.region [
⟨some 1,.box false (.t 0),none⟩,
⟨some 2,.cp (.c (.s (.int .i64 0))),none⟩] (none))
(.seq (.region [
⟨some 3,.faddr (.t 1) 11,none⟩,
⟨some 4,.load 1 false (.t 3),none⟩,
⟨some 5,.call false zxk_ [(.t 4)],none⟩,
⟨some 2,.cp (.t 5),none⟩] (none))
.ret)) }
def znl_:XF:={ np:=1,results:=[(.inl 2,.v)],body :=
(.seq (.region [
⟨some 2,.cp (.c (.s (.int .i64 0))),none⟩] (none))
(.seq (.seq (.region [
⟨some 3,.cp (.t 0),none⟩] (none))
(.cond (.t 3)
(.seq (.region [
⟨some 2,.cp (.c (.s (.int .i64 1))),none⟩] (none))
.ret)
.skip))
(.seq (.region [
⟨some 2,.cp (.c (.s (.int .i64 0))),none⟩] (none))
.ret))) }
def znm_:XF:={ np:=1,results:=[(.inl 2,.v)],body :=
(.seq (.region [
⟨some 1,.box false (.t 0),none⟩,
⟨some 2,.cp (.c (.s (.string ⟨#[]⟩))),none⟩] (none))
(.seq (.region [
⟨some 3,.faddr (.t 1) 6,none⟩,
⟨some 4,.load 1 false (.t 3),none⟩,
⟨some 2,.cp (.t 4),none⟩] (none))
.ret)) }
def znn_:XF:={ np:=1,results:=[(.inl 2,.v)],body :=
(.seq (.region [
⟨some 1,.box false (.t 0),none⟩,
⟨some 2,.cp (.c (.s (.string ⟨#[]⟩))),none⟩] (none))
(.seq (.region [
⟨some 3,.faddr (.t 1) 7,none⟩,
⟨some 4,.load 1 false (.t 3),none⟩,
⟨some 2,.cp (.t 4),none⟩] (none))
.ret)) }
def zno_:XF:={ np:=1,results:=[(.inl 2,.v)],body :=
(.seq (.region [
⟨some 1,.box false (.t 0),none⟩,
⟨some 2,.cp (.c (.s (.string ⟨#[]⟩))),none⟩] (none))
(.seq (.region [
⟨some 3,.faddr (.t 1) 8,none⟩,
⟨some 4,.load 1 false (.t 3),none⟩,
⟨some 2,.cp (.t 4),none⟩] (none))
.ret)) }
def znp_:XF:={ np:=1,results:=[(.inl 2,.v)],body :=
(.seq (.region [
⟨some 2,.cp (.c (.s (.int .i64 0))),none⟩] (none))
(.seq (.cond (.c (.s (.bool false)))
(.seq (.region [
⟨some 3,.cp (.t 0),none⟩,
⟨some 4,.conv .u32 (.t 3),none⟩,
⟨some 5,.call false zcer_ [(.t 4)],none⟩,
⟨some 2,.cp (.t 5),none⟩] (none))
.ret)
.skip)
(.seq (.region [
⟨some 6,.cp (.t 0),none⟩,
⟨some 7,.call false zwe_ [(.t 6)],none⟩,
⟨some 2,.cp (.t 7),none⟩] (none))
.ret))) }
def znq_:XF:={ np:=1,results:=[(.inl 2,.v)],body :=
(.seq (.region [
⟨some 2,.cp (.c (.s (.bool false))),none⟩] (none))
(.seq (.region [
⟨some 3,.cp (.t 0),none⟩,
⟨some 4,.bin .geq (.t 3) (.c (.s (.int .i64 0))),none⟩,
⟨some 5,.cp (.t 4),none⟩,
⟨some 6,.cp (.t 0),some (5,true)⟩,
⟨some 7,.bin .lss (.t 6) (.c (.s (.int .i64 1048576))),some (5,true)⟩,
⟨some 8,.pick (.t 5) (.t 7) (.c (.s (.bool false))),none⟩,
⟨some 2,.cp (.t 8),none⟩] (none))
.ret)) }
def zdj_:XF:={ np:=1,results:=[(.inl 2,.v)],body :=
(.seq (.region [
⟨some 2,.cp (.c (.s (.slice none 0 0))),none⟩] (none))
(.seq (.seq (.region [
⟨some 3,.cp (.t 0),none⟩,
⟨some 4,.eqv .s false (.t 3) (.c (.s (.slice none 0 0))),none⟩] (none))
(.cond (.t 4)
(.seq (.region [
⟨some 2,.cp (.c (.s (.slice none 0 0))),none⟩] (none))
.ret)
.skip))
(.seq (.region [
⟨some 5,.bslice true 1 [],none⟩,
⟨some 6,.cp (.t 0),none⟩,
⟨some 7,.append 1 17592186044416 (.t 5) (.t 6),none⟩,
⟨some 2,.cp (.t 7),none⟩] (none))
.ret))) }
def zyu_:XF:={ np:=1,results:=[],body:=.skip,nat:=some (.srt false) }
def zfz_:XF:={ np:=2,nat:=some .keep,results:=[],body :=
(.seq (.region [
⟨some 3,.box false (.t 1),none⟩] (none))
(.seq (.region [
⟨some 5,.cp (.t 0),none⟩,
⟨some 6,.nilchk (.t 5),none⟩,
⟨some 7,.faddr (.t 6) 0,none⟩,
⟨some 8,.load 1 false (.t 7),none⟩,
⟨some 9,.len false (.t 8),none⟩,
⟨some 10,.bin .sub (.t 9) (.c (.s (.int .i64 1))),none⟩,
⟨some 4,.cp (.t 10),none⟩] (none))
(.seq (.seq (.region [
⟨some 11,.cp (.t 4),none⟩,
⟨some 12,.bin .geq (.t 11) (.c (.s (.int .i64 0))),none⟩,
⟨some 13,.cp (.t 12),none⟩,
⟨some 14,.faddr (.t 3) 0,some (13,true)⟩,
⟨some 15,.load 1 false (.t 14),some (13,true)⟩,
⟨some 16,.cp (.t 0),some (13,true)⟩,
⟨some 17,.nilchk (.t 16),some (13,true)⟩,
⟨some 18,.faddr (.t 17) 0,some (13,true)⟩,
⟨some 19,.load 1 false (.t 18),some (13,true)⟩,
⟨some 20,.cp (.t 4),some (13,true)⟩,
⟨some 21,.iaddr 2 (.t 19) (.t 20),some (13,true)⟩,
⟨some 22,.faddr (.t 21) 1,some (13,true)⟩,
⟨some 23,.load 1 false (.t 22),some (13,true)⟩,
⟨some 24,.bin .add (.t 23) (.c (.s (.int .i64 1))),some (13,true)⟩,
⟨some 25,.bin .leq (.t 15) (.t 24),some (13,true)⟩,
⟨some 26,.pick (.t 13) (.t 25) (.c (.s (.bool false))),none⟩] (some []))
(.cond (.t 26)
(.seq (.region [
⟨some 27,.cp (.t 0),none⟩,
⟨some 28,.nilchk (.t 27),none⟩,
⟨some 29,.faddr (.t 28) 0,none⟩,
⟨some 30,.load 1 false (.t 29),none⟩,
⟨some 31,.cp (.t 4),none⟩,
⟨some 32,.cp (.t 0),none⟩,
⟨some 33,.nilchk (.t 32),none⟩,
⟨some 34,.faddr (.t 33) 0,none⟩,
⟨some 35,.load 1 false (.t 34),none⟩,
⟨some 36,.cp (.t 4),none⟩,
⟨some 37,.iaddr 2 (.t 35) (.t 36),none⟩,
⟨some 38,.faddr (.t 37) 1,none⟩,
⟨some 39,.load 1 false (.t 38),none⟩,
⟨some 40,.faddr (.t 3) 1,none⟩,
⟨some 41,.load 1 false (.t 40),none⟩,
⟨some 42,.minmax true [(.t 39),(.t 41)],none⟩,
⟨some 43,.iaddr 2 (.t 30) (.t 31),none⟩,
⟨some 44,.faddr (.t 43) 1,none⟩,
⟨none,.store 1 (.t 44) (.t 42),none⟩] (some []))
.ret)
.skip))
(.region [
⟨some 45,.cp (.t 0),none⟩,
⟨some 46,.cp (.t 0),none⟩,
⟨some 47,.nilchk (.t 46),none⟩,
⟨some 48,.faddr (.t 47) 0,none⟩,
⟨some 49,.load 1 false (.t 48),none⟩,
⟨some 50,.load 2 true (.t 3),none⟩,
⟨some 51,.bslice false 2 [(.t 50)],none⟩,
⟨some 52,.append 2 8796093022208 (.t 49) (.t 51),none⟩,
⟨some 53,.nilchk (.t 45),none⟩,
⟨some 54,.faddr (.t 53) 0,none⟩,
⟨none,.storeR (.t 54) (.t 52),none⟩] (some []))))) }
def ziw_:XF:={ np:=1,results:=[(.inl 2,.v)],body :=
(.seq (.region [
⟨some 2,.cp (.c (.s (.slice none 0 0))),none⟩] (none))
(.seq (.seq (.region [
⟨some 3,.cp (.t 0),none⟩,
⟨some 4,.eqv .s false (.t 3) (.c (.s (.slice none 0 0))),none⟩] (none))
(.cond (.t 4)
(.seq (.region [
⟨some 2,.cp (.c (.s (.slice none 0 0))),none⟩] (none))
.ret)
.skip))
(.seq (.region [
⟨some 5,.bslice true 4 [],none⟩,
⟨some 6,.cp (.t 0),none⟩,
⟨some 7,.append 4 2932031007402 (.t 5) (.t 6),none⟩,
⟨some 2,.cp (.t 7),none⟩] (none))
.ret))) }
def zix_:XF:={ np:=1,results:=[(.inl 2,.v)],body :=
(.seq (.region [
⟨some 2,.cp (.c (.s (.slice none 0 0))),none⟩] (none))
(.seq (.seq (.region [
⟨some 3,.cp (.t 0),none⟩,
⟨some 4,.eqv .s false (.t 3) (.c (.s (.slice none 0 0))),none⟩] (none))
(.cond (.t 4)
(.seq (.region [
⟨some 2,.cp (.c (.s (.slice none 0 0))),none⟩] (none))
.ret)
.skip))
(.seq (.region [
⟨some 5,.bslice true 2 [],none⟩,
⟨some 6,.cp (.t 0),none⟩,
⟨some 7,.append 2 8796093022208 (.t 5) (.t 6),none⟩,
⟨some 2,.cp (.t 7),none⟩] (none))
.ret))) }
def ziy_:XF:={ np:=1,results:=[(.inl 2,.v)],body :=
(.seq (.region [
⟨some 2,.cp (.c (.s (.int .u64 0))),none⟩] (none))
(.seq (.seq (.region [
⟨some 3,.cp (.t 0),none⟩,
⟨some 4,.bin .lss (.t 3) (.c (.s (.int .i64 0))),none⟩] (none))
(.cond (.t 4)
(.seq (.region [
⟨some 5,.cp (.t 0),none⟩,
⟨some 6,.bin .add (.t 5) (.c (.s (.int .i64 1))),none⟩,
⟨some 7,.bin .sub (.c (.s (.int .i64 0))) (.t 6),none⟩,
⟨some 8,.conv .u64 (.t 7),none⟩,
⟨some 9,.bin .add (.t 8) (.c (.s (.int .u64 1))),none⟩,
⟨some 2,.cp (.t 9),none⟩] (none))
.ret)
.skip))
(.seq (.region [
⟨some 10,.cp (.t 0),none⟩,
⟨some 11,.conv .u64 (.t 10),none⟩,
⟨some 2,.cp (.t 11),none⟩] (none))
.ret))) }
def ziz_:XF:={ np:=1,results:=[(.inl 2,.f),(.inl 3,.v)],body :=
(.seq (.region [
⟨some 2,.cp (.c (.s (.pointer none))),none⟩,
⟨some 3,.cp (.c (.s (.int .i64 0))),none⟩] (none))
(.seq (.seq (.region [
⟨some 5,.cp (.t 0),none⟩,
⟨some 6,.call false zvv_ [(.t 5)],none⟩,
⟨some 4,.cp (.t 6),none⟩] (none))
(.seq (.region [
⟨some 7,.cp (.t 4),none⟩,
⟨some 8,.bin .neq (.t 7) (.c (.s (.int .i64 0))),none⟩] (none))
(.cond (.t 8)
(.seq (.region [
⟨some 9,.cp (.t 4),none⟩,
⟨some 2,.cp (.c (.s (.pointer none))),none⟩,
⟨some 3,.cp (.t 9),none⟩] (none))
.ret)
.skip)))
(.seq (.region [
⟨some 10,.cp (.t 0),none⟩,
⟨some 11,.call false zhk_ [(.t 10)],none⟩,
⟨some 12,.call false zvw_ [(.t 11)],none⟩,
⟨some 2,.cp (.t 12),none⟩,
⟨some 3,.cp (.c (.s (.int .i64 0))),none⟩] (none))
.ret))) }
def znr_:XF:={ np:=1,results:=[(.inl 2,.v)],body :=
(.seq (.region [
⟨some 2,.cp (.c (.s (.string ⟨#[]⟩))),none⟩] (none))
(.seq (.seq (.region [
⟨some 3,.cp (.t 0),none⟩,
⟨some 4,.eqv .p false (.t 3) (.c (.s (.pointer none))),none⟩] (none))
(.cond (.t 4)
(.seq (.region [
⟨some 2,.cp (.c (.s (.string ⟨#[]⟩))),none⟩] (none))
.ret)
.skip))
(.seq (.region [
⟨some 5,.cp (.t 0),none⟩,
⟨some 6,.nilchk (.t 5),none⟩,
⟨some 7,.faddr (.t 6) 1,none⟩,
⟨some 8,.load 1 false (.t 7),none⟩,
⟨some 2,.cp (.t 8),none⟩] (none))
.ret))) }
def zbgr_:XC :=
(.seq (.region [
⟨some 14,.bin .lss (.t 13) (.t 12),none⟩] (none))
(.seq (.cond (.t 14)
.skip
(.exit 0))
(.seq (.block 1
(.seq (.region [
⟨some 15,.iaddr 1 (.t 11) (.t 13),none⟩,
⟨some 16,.load 1 false (.t 15),none⟩,
⟨some 8,.cp (.t 16),none⟩] (none))
(.seq (.region [
⟨some 18,.cp (.t 0),none⟩,
⟨some 19,.cp (.t 8),none⟩,
⟨some 20,.call false zbgg_ [(.t 18),(.t 19)],none⟩,
⟨some 17,.cp (.t 20),none⟩,
⟨some 21,.extract (.t 17) 0,none⟩,
⟨some 22,.extract (.t 17) 1,none⟩,
⟨some 9,.cp (.t 21),none⟩,
⟨some 10,.cp (.t 22),none⟩] (none))
(.seq (.seq (.region [
⟨some 23,.cp (.t 10),none⟩,
⟨some 24,.un .not (.t 23),none⟩] (none))
(.cond (.t 24)
(.seq (.region [
⟨some 4,.cp (.c (.s (.slice none 0 0))),none⟩,
⟨some 5,.cp (.c (.s (.int .i64 10))),none⟩] (none))
.ret)
.skip))
(.region [
⟨some 25,.cp (.t 6),none⟩,
⟨some 26,.cp (.t 9),none⟩,
⟨some 27,.bslice false 1 [(.t 26)],none⟩,
⟨some 28,.append 1 17592186044416 (.t 25) (.t 27),none⟩,
⟨some 6,.cp (.t 28),none⟩] (none))))))
(.region [
⟨some 29,.bin .add (.t 13) (.c (.s (.int .i64 1))),none⟩,
⟨some 13,.cp (.t 29),none⟩] (none)))))
def zns_:XF:={ np:=2,results:=[(.inl 4,.v),(.inl 5,.v)],body :=
(.seq (.region [
⟨some 4,.cp (.c (.s (.slice none 0 0))),none⟩,
⟨some 5,.cp (.c (.s (.int .i64 0))),none⟩] (none))
(.seq (.region [
⟨some 6,.cp (.c (.s (.slice none 0 0))),none⟩] (none))
(.seq (.seq (.region [
⟨some 11,.cp (.t 1),none⟩,
⟨some 12,.len false (.t 11),none⟩,
⟨some 13,.cp (.c (.s (.int .i64 0))),none⟩] (none))
(.block 0
(.loop zbgr_)))
(.seq (.region [
⟨some 30,.cp (.t 6),none⟩,
⟨some 4,.cp (.t 30),none⟩,
⟨some 5,.cp (.c (.s (.int .i64 0))),none⟩] (none))
.ret)))) }
def zja_:XF:={ np:=1,results:=[(.inl 2,.v)],body :=
(.seq (.region [
⟨some 2,.cp (.c (.s (.int .u64 0))),none⟩] (none))
(.seq (.seq (.region [
⟨some 3,.cp (.t 0),none⟩,
⟨some 4,.bin .lss (.t 3) (.c (.s (.int .i64 0))),none⟩] (none))
(.cond (.t 4)
(.seq (.region [
⟨some 5,.cp (.t 0),none⟩,
⟨some 6,.conv .u64 (.t 5),none⟩,
⟨some 7,.un .neg (.t 6),none⟩,
⟨some 2,.cp (.t 7),none⟩] (none))
.ret)
.skip))
(.seq (.region [
⟨some 8,.cp (.t 0),none⟩,
⟨some 9,.conv .u64 (.t 8),none⟩,
⟨some 2,.cp (.t 9),none⟩] (none))
.ret))) }
def zbgs_:XC :=
(.seq (.region [
⟨some 11,.bin .lss (.t 10) (.t 9),none⟩] (none))
(.seq (.cond (.t 11)
.skip
(.exit 0))
(.seq (.block 1
(.seq (.region [
⟨some 12,.cp (.t 10),none⟩,
⟨some 13,.iaddr 1 (.t 8) (.t 10),none⟩,
⟨some 14,.load 1 false (.t 13),none⟩,
⟨some 3,.cp (.t 12),none⟩,
⟨some 4,.cp (.t 14),none⟩] (none))
(.block 2
(.seq (.region [
⟨some 16,.cp (.t 4),none⟩,
⟨some 17,.len true (.t 16),none⟩,
⟨some 18,.bin .gtr (.t 17) (.c (.s (.int .i64 255))),none⟩,
⟨some 15,.cp (.t 18),none⟩] (none))
(.cond (.t 15)
(.seq (.region [
⟨some 2,.cp (.c (.s (.int .i64 5))),none⟩] (none))
.ret)
(.seq (.region [
⟨some 20,.cp (.t 3),none⟩,
⟨some 21,.bin .gtr (.t 20) (.c (.s (.int .i64 0))),none⟩,
⟨some 22,.cp (.t 21),none⟩,
⟨some 23,.cp (.t 4),some (22,true)⟩,
⟨some 24,.cp (.t 0),some (22,true)⟩,
⟨some 25,.cp (.t 3),some (22,true)⟩,
⟨some 26,.bin .sub (.t 25) (.c (.s (.int .i64 1))),some (22,true)⟩,
⟨some 27,.iaddr 1 (.t 24) (.t 26),some (22,true)⟩,
⟨some 28,.load 1 false (.t 27),some (22,true)⟩,
⟨some 29,.bin .leq (.t 23) (.t 28),some (22,true)⟩,
⟨some 30,.pick (.t 22) (.t 29) (.c (.s (.bool false))),none⟩,
⟨some 19,.cp (.t 30),none⟩] (none))
(.cond (.t 19)
(.seq (.region [
⟨some 2,.cp (.c (.s (.int .i64 8))),none⟩] (none))
.ret)
.skip)))))))
(.region [
⟨some 31,.bin .add (.t 10) (.c (.s (.int .i64 1))),none⟩,
⟨some 10,.cp (.t 31),none⟩] (none)))))
def znt_:XF:={ np:=1,results:=[(.inl 2,.v)],body :=
(.seq (.region [
⟨some 2,.cp (.c (.s (.int .i64 0))),none⟩] (none))
(.seq (.seq (.region [
⟨some 5,.cp (.t 0),none⟩,
⟨some 6,.len false (.t 5),none⟩,
⟨some 7,.bin .gtr (.t 6) (.c (.s (.int .i64 4096))),none⟩] (none))
(.cond (.t 7)
(.seq (.region [
⟨some 2,.cp (.c (.s (.int .i64 6))),none⟩] (none))
.ret)
.skip))
(.seq (.seq (.region [
⟨some 8,.cp (.t 0),none⟩,
⟨some 9,.len false (.t 8),none⟩,
⟨some 10,.cp (.c (.s (.int .i64 0))),none⟩] (none))
(.block 0
(.loop zbgs_)))
(.seq (.region [
⟨some 2,.cp (.c (.s (.int .i64 0))),none⟩] (none))
.ret)))) }
def zbgt_:XC :=
(.seq (.region [
⟨some 9,.bin .lss (.t 8) (.t 7),none⟩] (none))
(.seq (.cond (.t 9)
.skip
(.exit 0))
(.seq (.block 1
(.seq (.region [
⟨some 10,.cp (.t 8),none⟩,
⟨some 11,.iaddr 1 (.t 6) (.t 8),none⟩,
⟨some 12,.load 1 false (.t 11),none⟩,
⟨some 4,.cp (.t 10),none⟩,
⟨some 5,.cp (.t 12),none⟩] (none))
(.seq (.region [
⟨some 13,.cp (.t 3),none⟩,
⟨some 14,.cp (.t 5),none⟩,
⟨some 15,.len true (.t 14),none⟩,
⟨some 16,.bin .add (.c (.s (.int .i64 1))) (.t 15),none⟩,
⟨some 17,.bin .add (.t 13) (.t 16),none⟩,
⟨some 3,.cp (.t 17),none⟩] (none))
(.seq (.region [
⟨some 18,.cp (.t 4),none⟩,
⟨some 19,.bin .rem (.t 18) (.c (.s (.int .i64 16))),none⟩,
⟨some 20,.bin .neq (.t 19) (.c (.s (.int .i64 0))),none⟩] (none))
(.cond (.t 20)
(.region [
⟨some 21,.cp (.t 3),none⟩,
⟨some 22,.cp (.t 0),none⟩,
⟨some 23,.cp (.t 4),none⟩,
⟨some 24,.bin .sub (.t 23) (.c (.s (.int .i64 1))),none⟩,
⟨some 25,.iaddr 1 (.t 22) (.t 24),none⟩,
⟨some 26,.load 1 false (.t 25),none⟩,
⟨some 27,.cp (.t 5),none⟩,
⟨some 28,.call false zbgh_ [(.t 26),(.t 27)],none⟩,
⟨some 29,.bin .sub (.c (.s (.int .i64 1))) (.t 28),none⟩,
⟨some 30,.bin .add (.t 21) (.t 29),none⟩,
⟨some 3,.cp (.t 30),none⟩] (none))
.skip)))))
(.region [
⟨some 31,.bin .add (.t 8) (.c (.s (.int .i64 1))),none⟩,
⟨some 8,.cp (.t 31),none⟩] (none)))))
def znu_:XF:={ np:=1,results:=[(.inl 2,.v)],body :=
(.seq (.region [
⟨some 2,.cp (.c (.s (.int .i64 0))),none⟩] (none))
(.seq (.region [
⟨some 3,.cp (.c (.s (.int .i64 2))),none⟩] (none))
(.seq (.seq (.region [
⟨some 6,.cp (.t 0),none⟩,
⟨some 7,.len false (.t 6),none⟩,
⟨some 8,.cp (.c (.s (.int .i64 0))),none⟩] (none))
(.block 0
(.loop zbgt_)))
(.seq (.region [
⟨some 32,.cp (.t 3),none⟩,
⟨some 2,.cp (.t 32),none⟩] (none))
.ret)))) }
def zcfe_:XC :=
(.seq (.seq (.region [
⟨some 6,.cp (.t 5),none⟩,
⟨some 7,.cp (.t 0),none⟩,
⟨some 8,.len true (.t 7),none⟩,
⟨some 9,.bin .lss (.t 6) (.t 8),none⟩,
⟨some 10,.cp (.t 9),none⟩,
⟨some 11,.cp (.t 5),some (10,true)⟩,
⟨some 12,.cp (.t 1),some (10,true)⟩,
⟨some 13,.len true (.t 12),some (10,true)⟩,
⟨some 14,.bin .lss (.t 11) (.t 13),some (10,true)⟩,
⟨some 15,.pick (.t 10) (.t 14) (.c (.s (.bool false))),none⟩,
⟨some 16,.cp (.t 15),none⟩,
⟨some 17,.cp (.t 0),some (16,true)⟩,
⟨some 18,.cp (.t 5),some (16,true)⟩,
⟨some 19,.idxS (.t 17) (.t 18),some (16,true)⟩,
⟨some 20,.cp (.t 1),some (16,true)⟩,
⟨some 21,.cp (.t 5),some (16,true)⟩,
⟨some 22,.idxS (.t 20) (.t 21),some (16,true)⟩,
⟨some 23,.bin .eql (.t 19) (.t 22),some (16,true)⟩,
⟨some 24,.pick (.t 16) (.t 23) (.c (.s (.bool false))),none⟩] (some []))
(.cond (.t 24)
.skip
(.exit 0)))
(.block 1
(.region [
⟨some 25,.cp (.t 5),none⟩,
⟨some 26,.bin .add (.t 25) (.c (.s (.int .i64 1))),none⟩,
⟨some 5,.cp (.t 26),none⟩] (none))))
def zyv_:XF:={ np:=2,results:=[(.inl 4,.v)],body :=
(.seq (.region [
⟨some 4,.cp (.c (.s (.int .i64 0))),none⟩] (none))
(.seq (.region [
⟨some 5,.cp (.c (.s (.int .i64 0))),none⟩] (none))
(.seq (.block 0
(.loop zcfe_))
(.seq (.region [
⟨some 27,.cp (.t 5),none⟩,
⟨some 4,.cp (.t 27),none⟩] (none))
.ret)))) }
def zcff_:XC :=
(.seq (.seq (.region [
⟨some 13,.cp (.t 7),none⟩,
⟨some 14,.cp (.t 8),none⟩,
⟨some 15,.bin .lss (.t 13) (.t 14),none⟩] (none))
(.cond (.t 15)
.skip
(.exit 0)))
(.block 1
(.seq (.region [
⟨some 16,.cp (.t 7),none⟩,
⟨some 17,.cp (.t 8),none⟩,
⟨some 18,.bin .add (.t 16) (.t 17),none⟩,
⟨some 19,.conv .u64 (.t 18),none⟩,
⟨some 20,.bin .shr (.t 19) (.c (.s (.int .u64 1))),none⟩,
⟨some 21,.conv .i64 (.t 20),none⟩,
⟨some 9,.cp (.t 21),none⟩] (none))
(.seq (.region [
⟨some 22,.cp (.t 0),none⟩,
⟨some 23,.cp (.t 9),none⟩,
⟨some 24,.iaddr 1 (.t 22) (.t 23),none⟩,
⟨some 25,.load 1 false (.t 24),none⟩,
⟨some 26,.cp (.t 1),none⟩,
⟨some 27,.call false zcfa_ [(.t 25),(.t 26)],none⟩] (none))
(.cond (.t 27)
(.region [
⟨some 28,.cp (.t 9),none⟩,
⟨some 29,.bin .add (.t 28) (.c (.s (.int .i64 1))),none⟩,
⟨some 7,.cp (.t 29),none⟩] (none))
(.region [
⟨some 30,.cp (.t 9),none⟩,
⟨some 8,.cp (.t 30),none⟩] (none)))))))
def zyw_:XF:={ np:=2,results:=[(.inl 4,.v),(.inl 5,.v)],body :=
(.seq (.region [
⟨some 4,.cp (.c (.s (.int .i64 0))),none⟩,
⟨some 5,.cp (.c (.s (.bool false))),none⟩] (none))
(.seq (.region [
⟨some 10,.cp (.t 0),none⟩,
⟨some 11,.len false (.t 10),none⟩,
⟨some 6,.cp (.t 11),none⟩] (none))
(.seq (.region [
⟨some 12,.cp (.t 6),none⟩,
⟨some 7,.cp (.c (.s (.int .i64 0))),none⟩,
⟨some 8,.cp (.t 12),none⟩] (none))
(.seq (.block 0
(.loop zcff_))
(.seq (.region [
⟨some 31,.cp (.t 7),none⟩,
⟨some 32,.cp (.t 7),none⟩,
⟨some 33,.cp (.t 6),none⟩,
⟨some 34,.bin .lss (.t 32) (.t 33),none⟩,
⟨some 35,.cp (.t 34),none⟩,
⟨some 36,.cp (.t 0),some (35,true)⟩,
⟨some 37,.cp (.t 7),some (35,true)⟩,
⟨some 38,.iaddr 1 (.t 36) (.t 37),some (35,true)⟩,
⟨some 39,.load 1 false (.t 38),some (35,true)⟩,
⟨some 40,.cp (.t 1),some (35,true)⟩,
⟨some 41,.bin .eql (.t 39) (.t 40),some (35,true)⟩,
⟨some 42,.cp (.t 41),some (35,true)⟩,
⟨some 43,.cp (.t 0),some (42,false)⟩,
⟨some 44,.cp (.t 7),some (42,false)⟩,
⟨some 45,.iaddr 1 (.t 43) (.t 44),some (42,false)⟩,
⟨some 46,.load 1 false (.t 45),some (42,false)⟩,
⟨some 47,.call false zbgi_ [(.t 46)],some (42,false)⟩,
⟨some 48,.cp (.t 47),some (42,false)⟩,
⟨some 49,.cp (.t 1),some (48,true)⟩,
⟨some 50,.call false zbgi_ [(.t 49)],some (48,true)⟩,
⟨some 51,.pick (.t 48) (.t 50) (.c (.s (.bool false))),some (42,false)⟩,
⟨some 52,.pick (.t 42) (.c (.s (.bool true))) (.t 51),some (35,true)⟩,
⟨some 53,.pick (.t 35) (.t 52) (.c (.s (.bool false))),none⟩,
⟨some 4,.cp (.t 31),none⟩,
⟨some 5,.cp (.t 53),none⟩] (none))
.ret))))) }
def zjb_:XF:={ np:=1,results:=[(.inl 2,.v)],body :=
(.seq (.region [
⟨some 2,.cp (.c (.s (.slice none 0 0))),none⟩] (none))
(.seq (.region [
⟨some 3,.cp (.t 0),none⟩,
⟨some 4,.call true zws_ [(.c (.s (.slice none 0 0))),(.t 3)],none⟩,
⟨some 2,.cp (.t 4),none⟩] (none))
.ret)) }
def zyx_:XF:={ np:=2,results:=[],body:=.skip,nat:=some (.sort 14) }
def zcfg_:XC :=
(.seq (.region [
⟨some 8,.bin .lss (.t 7) (.t 6),none⟩] (none))
(.seq (.cond (.t 8)
.skip
(.exit 0))
(.seq (.block 1
(.seq (.region [
⟨some 9,.iaddr 14 (.t 5) (.t 7),none⟩,
⟨some 10,.load 14 true (.t 9),none⟩,
⟨some 4,.alloc [.s (.int .i64 0),.s (.int .i64 0),.s (.int .i64 0),.s (.int .i64 0),.s (.int .i64 0),.s (.int .i64 0),.s (.string ⟨#[]⟩),.s (.string ⟨#[]⟩),.s (.string ⟨#[]⟩),.s (.int .i64 0),.s (.int .i64 0),.s (.bool false),.s (.slice none 0 0),.s (.slice none 0 0)],none⟩,
⟨none,.store 14 (.t 4) (.t 10),none⟩] (none))
(.seq (.region [
⟨some 11,.cp (.t 0),none⟩,
⟨some 12,.load 14 true (.t 4),none⟩,
⟨some 13,.callv false (.t 11) [(.t 12)],none⟩,
⟨some 14,.un .not (.t 13),none⟩] (none))
(.cond (.t 14)
.ret
.skip))))
(.region [
⟨some 15,.bin .add (.t 7) (.c (.s (.int .i64 1))),none⟩,
⟨some 7,.cp (.t 15),none⟩] (none)))))
def zyy_:XF:={ np:=2,results:=[],body :=
(.seq (.region [
⟨some 5,.load 1 false (.t 1),none⟩,
⟨some 6,.len false (.t 5),none⟩,
⟨some 7,.cp (.c (.s (.int .i64 0))),none⟩] (none))
(.block 0
(.loop zcfg_))) }
def zst_:XC :=
(.seq (.region [
⟨some 9,.bin .lss (.t 8) (.t 7),none⟩] (none))
(.seq (.cond (.t 9)
.skip
(.exit 0))
(.seq (.block 1
(.seq (.region [
⟨some 10,.iaddr 1 (.t 6) (.t 8),none⟩,
⟨some 11,.load 1 false (.t 10),none⟩,
⟨some 5,.cp (.t 11),none⟩] (none))
(.seq (.region [
⟨some 12,.cp (.t 5),none⟩,
⟨some 13,.cp (.t 3),none⟩,
⟨some 14,.bin .neq (.t 12) (.t 13),none⟩] (none))
(.cond (.t 14)
(.seq (.region [
⟨some 15,.cp (.t 5),none⟩,
⟨some 2,.cp (.t 15),none⟩] (none))
.ret)
.skip))))
(.region [
⟨some 16,.bin .add (.t 8) (.c (.s (.int .i64 1))),none⟩,
⟨some 8,.cp (.t 16),none⟩] (none)))))
def znv_:XF:={ np:=1,results:=[(.inl 2,.v)],body :=
(.seq (.region [
⟨some 2,.cp (.c (.s (.int .i64 0))),none⟩] (none))
(.seq (.region [
⟨some 3,.cp (.c (.s (.int .i64 0))),none⟩] (none))
(.seq (.seq (.region [
⟨some 6,.cp (.t 0),none⟩,
⟨some 7,.len false (.t 6),none⟩,
⟨some 8,.cp (.c (.s (.int .i64 0))),none⟩] (none))
(.block 0
(.loop zst_)))
(.seq (.region [
⟨some 17,.cp (.t 3),none⟩,
⟨some 2,.cp (.t 17),none⟩] (none))
.ret)))) }
def zsu_:XC :=
(.seq (.region [
⟨some 12,.bin .lss (.t 11) (.t 10),none⟩] (none))
(.seq (.cond (.t 12)
.skip
(.exit 0))
(.seq (.block 1
(.seq (.region [
⟨some 13,.cp (.t 11),none⟩,
⟨some 14,.iaddr 1 (.t 9) (.t 11),none⟩,
⟨some 15,.load 1 false (.t 14),none⟩,
⟨some 5,.cp (.t 13),none⟩,
⟨some 6,.cp (.t 15),none⟩] (none))
(.seq (.seq (.region [
⟨some 16,.cp (.t 5),none⟩,
⟨some 17,.cp (.t 1),none⟩,
⟨some 18,.len false (.t 17),none⟩,
⟨some 19,.bin .geq (.t 16) (.t 18),none⟩] (none))
(.cond (.t 19)
(.seq (.region [
⟨some 4,.cp (.c (.s (.int .i64 1))),none⟩] (none))
.ret)
.skip))
(.seq (.region [
⟨some 20,.cp (.t 1),none⟩,
⟨some 21,.cp (.t 5),none⟩,
⟨some 22,.iaddr 1 (.t 20) (.t 21),none⟩,
⟨some 23,.load 1 false (.t 22),none⟩,
⟨some 7,.cp (.t 23),none⟩] (none))
(.seq (.region [
⟨some 24,.cp (.t 6),none⟩,
⟨some 25,.cp (.t 7),none⟩,
⟨some 26,.call false zdq_ [(.t 24),(.t 25)],none⟩,
⟨some 8,.cp (.t 26),none⟩] (none))
(.seq (.region [
⟨some 27,.cp (.t 8),none⟩,
⟨some 28,.bin .neq (.t 27) (.c (.s (.int .i64 0))),none⟩] (none))
(.cond (.t 28)
(.seq (.region [
⟨some 29,.cp (.t 8),none⟩,
⟨some 4,.cp (.t 29),none⟩] (none))
.ret)
.skip)))))))
(.region [
⟨some 30,.bin .add (.t 11) (.c (.s (.int .i64 1))),none⟩,
⟨some 11,.cp (.t 30),none⟩] (none)))))
def znw_:XF:={ np:=2,results:=[(.inl 4,.v)],body :=
(.seq (.region [
⟨some 4,.cp (.c (.s (.int .i64 0))),none⟩] (none))
(.seq (.seq (.region [
⟨some 9,.cp (.t 0),none⟩,
⟨some 10,.len false (.t 9),none⟩,
⟨some 11,.cp (.c (.s (.int .i64 0))),none⟩] (none))
(.block 0
(.loop zsu_)))
(.seq (.seq (.region [
⟨some 31,.cp (.t 0),none⟩,
⟨some 32,.len false (.t 31),none⟩,
⟨some 33,.cp (.t 1),none⟩,
⟨some 34,.len false (.t 33),none⟩,
⟨some 35,.bin .lss (.t 32) (.t 34),none⟩] (none))
(.cond (.t 35)
(.seq (.region [
⟨some 4,.cp (.c (.s (.int .i64 (-1)))),none⟩] (none))
.ret)
.skip))
(.seq (.region [
⟨some 4,.cp (.c (.s (.int .i64 0))),none⟩] (none))
.ret)))) }
def zga_:XF:={ np:=2,results:=[(.inl 4,.v)],body :=
(.seq (.region [
⟨some 4,.cp (.c (.s (.int .i64 0))),none⟩] (none))
(.seq (.region [
⟨some 7,.cp (.t 0),none⟩,
⟨some 8,.call false zhv_ [(.t 7)],none⟩,
⟨some 5,.cp (.t 8),none⟩] (none))
(.seq (.region [
⟨some 9,.cp (.t 1),none⟩,
⟨some 10,.call false zhv_ [(.t 9)],none⟩,
⟨some 6,.cp (.t 10),none⟩] (none))
(.seq (.seq (.region [
⟨some 11,.cp (.t 5),none⟩] (none))
(.cond (.t 11)
(.seq (.seq (.region [
⟨some 12,.cp (.t 6),none⟩] (none))
(.cond (.t 12)
(.seq (.region [
⟨some 4,.cp (.c (.s (.int .i64 0))),none⟩] (none))
.ret)
.skip))
(.seq (.region [
⟨some 4,.cp (.c (.s (.int .i64 (-1)))),none⟩] (none))
.ret))
.skip))
(.seq (.seq (.region [
⟨some 13,.cp (.t 6),none⟩] (none))
(.cond (.t 13)
(.seq (.region [
⟨some 4,.cp (.c (.s (.int .i64 1))),none⟩] (none))
.ret)
.skip))
(.seq (.seq (.region [
⟨some 14,.cp (.t 0),none⟩,
⟨some 15,.cp (.t 1),none⟩,
⟨some 16,.bin .lss (.t 14) (.t 15),none⟩] (none))
(.cond (.t 16)
(.seq (.region [
⟨some 4,.cp (.c (.s (.int .i64 (-1)))),none⟩] (none))
.ret)
.skip))
(.seq (.seq (.region [
⟨some 17,.cp (.t 0),none⟩,
⟨some 18,.cp (.t 1),none⟩,
⟨some 19,.bin .gtr (.t 17) (.t 18),none⟩] (none))
(.cond (.t 19)
(.seq (.region [
⟨some 4,.cp (.c (.s (.int .i64 1))),none⟩] (none))
.ret)
.skip))
(.seq (.region [
⟨some 4,.cp (.c (.s (.int .i64 0))),none⟩] (none))
.ret)))))))) }
def zjc_:XF:={ np:=2,results:=[(.inl 4,.v)],body :=
(.seq (.region [
⟨some 4,.cp (.c (.s (.int .i64 0))),none⟩] (none))
(.seq (.region [
⟨some 7,.cp (.t 0),none⟩,
⟨some 8,.call false zrk_ [(.t 7)],none⟩,
⟨some 5,.cp (.t 8),none⟩] (none))
(.seq (.region [
⟨some 9,.cp (.t 1),none⟩,
⟨some 10,.call false zrk_ [(.t 9)],none⟩,
⟨some 6,.cp (.t 10),none⟩] (none))
(.seq (.seq (.region [
⟨some 11,.cp (.t 5),none⟩] (none))
(.cond (.t 11)
(.seq (.seq (.region [
⟨some 12,.cp (.t 6),none⟩] (none))
(.cond (.t 12)
(.seq (.region [
⟨some 4,.cp (.c (.s (.int .i64 0))),none⟩] (none))
.ret)
.skip))
(.seq (.region [
⟨some 4,.cp (.c (.s (.int .i64 (-1)))),none⟩] (none))
.ret))
.skip))
(.seq (.seq (.region [
⟨some 13,.cp (.t 6),none⟩] (none))
(.cond (.t 13)
(.seq (.region [
⟨some 4,.cp (.c (.s (.int .i64 1))),none⟩] (none))
.ret)
.skip))
(.seq (.seq (.region [
⟨some 14,.cp (.t 0),none⟩,
⟨some 15,.cp (.t 1),none⟩,
⟨some 16,.bin .lss (.t 14) (.t 15),none⟩] (none))
(.cond (.t 16)
(.seq (.region [
⟨some 4,.cp (.c (.s (.int .i64 (-1)))),none⟩] (none))
.ret)
.skip))
(.seq (.seq (.region [
⟨some 17,.cp (.t 0),none⟩,
⟨some 18,.cp (.t 1),none⟩,
⟨some 19,.bin .gtr (.t 17) (.t 18),none⟩] (none))
(.cond (.t 19)
(.seq (.region [
⟨some 4,.cp (.c (.s (.int .i64 1))),none⟩] (none))
.ret)
.skip))
(.seq (.region [
⟨some 4,.cp (.c (.s (.int .i64 0))),none⟩] (none))
.ret)))))))) }
def znx_:XF:={ np:=2,results:=[(.inl 4,.v)],body :=
(.seq (.region [
⟨some 4,.cp (.c (.s (.int .i64 0))),none⟩] (none))
(.seq (.region [
⟨some 5,.cp (.t 0),none⟩,
⟨some 6,.cp (.t 1),none⟩,
⟨some 7,.call false zwn_ [(.t 5),(.t 6),(.c (.fn zke_ [] []))],none⟩,
⟨some 4,.cp (.t 7),none⟩] (none))
.ret)) }
def zjd_:XC :=
(.seq (.region [
⟨some 14,.bin .lss (.t 13) (.t 12),none⟩] (none))
(.seq (.cond (.t 14)
.skip
(.exit 0))
(.seq (.block 1
(.seq (.region [
⟨some 15,.cp (.t 13),none⟩,
⟨some 16,.iaddr 2 (.t 11) (.t 13),none⟩,
⟨some 17,.load 2 true (.t 16),none⟩,
⟨some 8,.alloc [.s (.int .i64 0),.s (.int .i64 0)],none⟩,
⟨some 7,.cp (.t 15),none⟩,
⟨none,.store 2 (.t 8) (.t 17),none⟩] (none))
(.seq (.seq (.region [
⟨some 18,.cp (.t 7),none⟩,
⟨some 19,.cp (.t 1),none⟩,
⟨some 20,.len false (.t 19),none⟩,
⟨some 21,.bin .geq (.t 18) (.t 20),none⟩] (none))
(.cond (.t 21)
(.seq (.region [
⟨some 6,.cp (.c (.s (.int .i64 1))),none⟩] (none))
.ret)
.skip))
(.seq (.region [
⟨some 22,.cp (.t 1),none⟩,
⟨some 23,.cp (.t 7),none⟩,
⟨some 24,.iaddr 2 (.t 22) (.t 23),none⟩,
⟨some 25,.load 2 true (.t 24),none⟩,
⟨some 9,.alloc [.s (.int .i64 0),.s (.int .i64 0)],none⟩,
⟨none,.store 2 (.t 9) (.t 25),none⟩] (none))
(.seq (.region [
⟨some 26,.cp (.t 2),none⟩,
⟨some 27,.load 2 true (.t 8),none⟩,
⟨some 28,.load 2 true (.t 9),none⟩,
⟨some 29,.callv false (.t 26) [(.t 27),(.t 28)],none⟩,
⟨some 10,.cp (.t 29),none⟩] (none))
(.seq (.region [
⟨some 30,.cp (.t 10),none⟩,
⟨some 31,.bin .neq (.t 30) (.c (.s (.int .i64 0))),none⟩] (none))
(.cond (.t 31)
(.seq (.region [
⟨some 32,.cp (.t 10),none⟩,
⟨some 6,.cp (.t 32),none⟩] (none))
.ret)
.skip)))))))
(.region [
⟨some 33,.bin .add (.t 13) (.c (.s (.int .i64 1))),none⟩,
⟨some 13,.cp (.t 33),none⟩] (none)))))
def zny_:XF:={ np:=3,results:=[(.inl 6,.v)],body :=
(.seq (.region [
⟨some 6,.cp (.c (.s (.int .i64 0))),none⟩] (none))
(.seq (.seq (.region [
⟨some 11,.cp (.t 0),none⟩,
⟨some 12,.len false (.t 11),none⟩,
⟨some 13,.cp (.c (.s (.int .i64 0))),none⟩] (none))
(.block 0
(.loop zjd_)))
(.seq (.seq (.region [
⟨some 34,.cp (.t 0),none⟩,
⟨some 35,.len false (.t 34),none⟩,
⟨some 36,.cp (.t 1),none⟩,
⟨some 37,.len false (.t 36),none⟩,
⟨some 38,.bin .lss (.t 35) (.t 37),none⟩] (none))
(.cond (.t 38)
(.seq (.region [
⟨some 6,.cp (.c (.s (.int .i64 (-1)))),none⟩] (none))
.ret)
.skip))
(.seq (.region [
⟨some 6,.cp (.c (.s (.int .i64 0))),none⟩] (none))
.ret)))) }
def znz_:XF:={ np:=2,results:=[(.inl 4,.v)],body :=
(.seq (.region [
⟨some 2,.box false (.t 0),none⟩,
⟨some 3,.box false (.t 1),none⟩,
⟨some 4,.cp (.c (.s (.int .i64 0))),none⟩] (none))
(.seq (.region [
⟨some 5,.faddr (.t 2) 0,none⟩,
⟨some 6,.load 1 false (.t 5),none⟩,
⟨some 7,.faddr (.t 3) 0,none⟩,
⟨some 8,.load 1 false (.t 7),none⟩,
⟨some 9,.call false zdq_ [(.t 6),(.t 8)],none⟩,
⟨some 10,.faddr (.t 2) 1,none⟩,
⟨some 11,.load 1 false (.t 10),none⟩,
⟨some 12,.faddr (.t 3) 1,none⟩,
⟨some 13,.load 1 false (.t 12),none⟩,
⟨some 14,.call false zdq_ [(.t 11),(.t 13)],none⟩,
⟨some 15,.bslice false 1 [(.t 9),(.t 14)],none⟩,
⟨some 16,.call false zhu_ [(.t 15)],none⟩,
⟨some 4,.cp (.t 16),none⟩] (some [(4,some 6),(4,some 8)]))
.ret)) }
def zyz_:XC :=
(.seq (.seq (.region [
⟨some 8,.cp (.t 5),none⟩,
⟨some 9,.cp (.t 4),none⟩,
⟨some 10,.len false (.t 9),none⟩,
⟨some 11,.bin .lss (.t 8) (.t 10),none⟩] (none))
(.cond (.t 11)
.skip
(.exit 0)))
(.seq (.block 1
(.region [
⟨some 14,.cp (.t 3),none⟩,
⟨some 15,.cp (.t 4),none⟩,
⟨some 16,.cp (.t 5),none⟩,
⟨some 17,.iaddr 3 (.t 15) (.t 16),none⟩,
⟨some 18,.faddr (.t 17) 2,none⟩,
⟨some 19,.load 1 false (.t 18),none⟩,
⟨some 20,.append 14 837723144972 (.t 14) (.t 19),none⟩,
⟨some 3,.cp (.t 20),none⟩] (none)))
(.region [
⟨some 12,.cp (.t 5),none⟩,
⟨some 13,.bin .add (.t 12) (.c (.s (.int .i64 1))),none⟩,
⟨some 5,.cp (.t 13),none⟩] (none))))
def zoa_:XF:={ np:=1,results:=[(.inl 2,.v)],body :=
(.seq (.region [
⟨some 1,.box false (.t 0),none⟩,
⟨some 2,.cp (.c (.s (.slice none 0 0))),none⟩] (none))
(.seq (.region [
⟨some 3,.cp (.c (.s (.slice none 0 0))),none⟩] (none))
(.seq (.region [
⟨some 6,.load 7 true (.t 1),none⟩,
⟨some 7,.call false zxl_ [(.t 6)],none⟩,
⟨some 4,.cp (.t 7),none⟩] (none))
(.seq (.seq (.region [
⟨some 5,.cp (.c (.s (.int .i64 0))),none⟩] (none))
(.block 0
(.loop zyz_)))
(.seq (.region [
⟨some 21,.cp (.t 3),none⟩,
⟨some 2,.cp (.t 21),none⟩] (none))
.ret))))) }
def zob_:XF:={ np:=2,results:=[(.inl 4,.v)],body :=
(.seq (.region [
⟨some 2,.box false (.t 0),none⟩,
⟨some 4,.cp (.c (.s (.int .i64 0))),none⟩] (none))
(.seq (.region [
⟨some 5,.faddr (.t 2) 0,none⟩,
⟨some 6,.load 1 false (.t 5),none⟩,
⟨some 7,.cp (.t 1),none⟩,
⟨some 8,.iaddr 3 (.t 6) (.t 7),none⟩,
⟨some 9,.faddr (.t 8) 0,none⟩,
⟨some 10,.load 1 false (.t 9),none⟩,
⟨some 11,.bin .rem (.t 10) (.c (.s (.int .u8 64))),none⟩,
⟨some 12,.conv .i64 (.t 11),none⟩,
⟨some 13,.bin .shl (.t 12) (.c (.s (.int .u64 20))),none⟩,
⟨some 14,.bin .add (.t 13) (.c (.s (.int .i64 1))),none⟩,
⟨some 15,.cp (.t 1),none⟩,
⟨some 16,.bin .add (.t 14) (.t 15),none⟩,
⟨some 4,.cp (.t 16),none⟩] (none))
.ret)) }
def zoc_:XF:={ np:=2,results:=[(.inl 4,.v)],body :=
(.seq (.region [
⟨some 2,.box false (.t 0),none⟩,
⟨some 4,.cp (.c (.s (.int .i64 0))),none⟩] (none))
(.seq (.region [
⟨some 5,.cp (.t 1),none⟩,
⟨some 6,.conv .u64 (.t 5),none⟩,
⟨some 7,.bin .add (.t 6) (.c (.s (.int .u64 3))),none⟩,
⟨some 8,.bin .rem (.t 7) (.c (.s (.int .u64 4))),none⟩,
⟨some 9,.faddr (.t 2) 1,none⟩,
⟨some 10,.iaddrA 4 1 (.t 9) (.t 8),none⟩,
⟨some 11,.load 1 false (.t 10),none⟩,
⟨some 12,.conv .i64 (.t 11),none⟩,
⟨some 13,.bin .rem (.t 12) (.c (.s (.int .i64 21))),none⟩,
⟨some 4,.cp (.t 13),none⟩] (none))
.ret)) }
def zod_:XC :=
(.seq (.region [
⟨some 11,.bin .lss (.t 10) (.t 9),none⟩] (none))
(.seq (.cond (.t 11)
.skip
(.exit 0))
(.seq (.block 1
(.seq (.region [
⟨some 12,.cp (.t 10),none⟩,
⟨some 7,.cp (.t 12),none⟩] (none))
(.seq (.region [
⟨some 13,.cp (.t 0),none⟩,
⟨some 14,.cp (.t 7),none⟩,
⟨some 15,.idxS (.t 13) (.t 14),none⟩,
⟨some 16,.cp (.t 1),none⟩,
⟨some 17,.bin .lss (.t 15) (.t 16),none⟩,
⟨some 18,.cp (.t 17),none⟩,
⟨some 19,.cp (.t 0),some (18,false)⟩,
⟨some 20,.cp (.t 7),some (18,false)⟩,
⟨some 21,.idxS (.t 19) (.t 20),some (18,false)⟩,
⟨some 22,.cp (.t 2),some (18,false)⟩,
⟨some 23,.bin .gtr (.t 21) (.t 22),some (18,false)⟩,
⟨some 24,.pick (.t 18) (.c (.s (.bool true))) (.t 23),none⟩] (none))
(.cond (.t 24)
(.seq (.region [
⟨some 6,.cp (.c (.s (.bool false))),none⟩] (none))
.ret)
.skip))))
(.region [
⟨some 25,.bin .add (.t 10) (.c (.s (.int .i64 1))),none⟩,
⟨some 10,.cp (.t 25),none⟩] (none)))))
def zoe_:XF:={ np:=3,results:=[(.inl 6,.v)],body :=
(.seq (.region [
⟨some 6,.cp (.c (.s (.bool false))),none⟩] (none))
(.seq (.seq (.region [
⟨some 8,.cp (.t 0),none⟩,
⟨some 9,.len true (.t 8),none⟩,
⟨some 10,.cp (.c (.s (.int .i64 0))),none⟩] (none))
(.block 0
(.loop zod_)))
(.seq (.region [
⟨some 6,.cp (.c (.s (.bool true))),none⟩] (none))
.ret))) }
def zax_:XF:={ np:=1,results:=[(.inl 2,.v)],body :=
(.seq (.region [
⟨some 1,.box false (.t 0),none⟩,
⟨some 2,.cp (.c (.s (.int .i64 0))),none⟩] (none))
(.seq (.region [
⟨some 3,.cp (.c (.s (.bool false))),none⟩] (none))
(.seq (.seq (.region [
⟨some 4,.faddr (.t 1) 0,none⟩,
⟨some 5,.load 1 false (.t 4),none⟩] (none))
(.block 0
(.seq (.region [
⟨some 7,.bin .eql (.t 5) (.c (.s (.int .i64 1))),none⟩,
⟨some 6,.cp (.t 7),none⟩] (none))
(.cond (.t 6)
(.region [
⟨some 8,.faddr (.t 1) 1,none⟩,
⟨some 9,.load 1 false (.t 8),none⟩,
⟨some 10,.call false zri_ [(.t 9),(.c (.s (.int .u8 32))),(.c (.s (.int .u8 126)))],none⟩,
⟨some 11,.cp (.t 10),none⟩,
⟨some 12,.faddr (.t 1) 2,some (11,true)⟩,
⟨some 13,.load 1 false (.t 12),some (11,true)⟩,
⟨some 14,.bin .eql (.t 13) (.c (.s (.int .i64 0))),some (11,true)⟩,
⟨some 15,.pick (.t 11) (.t 14) (.c (.s (.bool false))),none⟩,
⟨some 3,.cp (.t 15),none⟩] (none))
(.seq (.region [
⟨some 17,.bin .eql (.t 5) (.c (.s (.int .i64 2))),none⟩,
⟨some 16,.cp (.t 17),none⟩] (none))
(.cond (.t 16)
(.region [
⟨some 18,.faddr (.t 1) 1,none⟩,
⟨some 19,.load 1 false (.t 18),none⟩,
⟨some 20,.bin .eql (.t 19) (.c (.s (.string ⟨#[]⟩))),none⟩,
⟨some 21,.cp (.t 20),none⟩,
⟨some 22,.faddr (.t 1) 2,some (21,true)⟩,
⟨some 23,.load 1 false (.t 22),some (21,true)⟩,
⟨some 24,.bin .geq (.t 23) (.c (.s (.int .i64 (-1099511627776)))),some (21,true)⟩,
⟨some 25,.pick (.t 21) (.t 24) (.c (.s (.bool false))),none⟩,
⟨some 26,.cp (.t 25),none⟩,
⟨some 27,.faddr (.t 1) 2,some (26,true)⟩,
⟨some 28,.load 1 false (.t 27),some (26,true)⟩,
⟨some 29,.bin .leq (.t 28) (.c (.s (.int .i64 1099511627776))),some (26,true)⟩,
⟨some 30,.pick (.t 26) (.t 29) (.c (.s (.bool false))),none⟩,
⟨some 3,.cp (.t 30),none⟩] (none))
(.seq (.region [
⟨some 32,.bin .eql (.t 5) (.c (.s (.int .i64 3))),none⟩,
⟨some 31,.cp (.t 32),none⟩] (none))
(.cond (.t 31)
(.region [
⟨some 33,.faddr (.t 1) 1,none⟩,
⟨some 34,.load 1 false (.t 33),none⟩,
⟨some 35,.bin .eql (.t 34) (.c (.s (.string ⟨#[]⟩))),none⟩,
⟨some 36,.cp (.t 35),none⟩,
⟨some 37,.faddr (.t 1) 2,some (36,true)⟩,
⟨some 38,.load 1 false (.t 37),some (36,true)⟩,
⟨some 39,.bin .eql (.t 38) (.c (.s (.int .i64 0))),some (36,true)⟩,
⟨some 40,.cp (.t 39),some (36,true)⟩,
⟨some 41,.faddr (.t 1) 2,some (40,false)⟩,
⟨some 42,.load 1 false (.t 41),some (40,false)⟩,
⟨some 43,.bin .eql (.t 42) (.c (.s (.int .i64 1))),some (40,false)⟩,
⟨some 44,.pick (.t 40) (.c (.s (.bool true))) (.t 43),some (36,true)⟩,
⟨some 45,.pick (.t 36) (.t 44) (.c (.s (.bool false))),none⟩,
⟨some 3,.cp (.t 45),none⟩] (none))
(.seq (.region [
⟨some 2,.cp (.c (.s (.int .i64 12))),none⟩] (none))
.ret)))))))))
(.seq (.block 1
(.seq (.region [
⟨some 47,.faddr (.t 1) 1,none⟩,
⟨some 48,.load 1 false (.t 47),none⟩,
⟨some 49,.len true (.t 48),none⟩,
⟨some 50,.bin .gtr (.t 49) (.c (.s (.int .i64 4096))),none⟩,
⟨some 46,.cp (.t 50),none⟩] (none))
(.cond (.t 46)
(.seq (.region [
⟨some 2,.cp (.c (.s (.int .i64 5))),none⟩] (none))
.ret)
(.seq (.region [
⟨some 52,.cp (.t 3),none⟩,
⟨some 53,.un .not (.t 52),none⟩,
⟨some 51,.cp (.t 53),none⟩] (none))
(.cond (.t 51)
(.seq (.region [
⟨some 2,.cp (.c (.s (.int .i64 3))),none⟩] (none))
.ret)
.skip)))))
(.seq (.region [
⟨some 2,.cp (.c (.s (.int .i64 0))),none⟩] (none))
.ret))))) }
def zza_:XF:={ np:=2,results:=[(.inl 4,.v)],body :=
(.seq (.region [
⟨some 4,.cp (.c (.s (.bool false))),none⟩] (none))
(.seq (.region [
⟨some 5,.cp (.t 0),none⟩,
⟨some 6,.call false zhv_ [(.t 5)],none⟩,
⟨some 7,.cp (.t 6),none⟩,
⟨some 8,.cp (.t 1),some (7,true)⟩,
⟨some 9,.call false zhv_ [(.t 8)],some (7,true)⟩,
⟨some 10,.un .not (.t 9),some (7,true)⟩,
⟨some 11,.pick (.t 7) (.t 10) (.c (.s (.bool false))),none⟩,
⟨some 12,.cp (.t 11),none⟩,
⟨some 13,.cp (.t 0),some (12,false)⟩,
⟨some 14,.cp (.t 1),some (12,false)⟩,
⟨some 15,.bin .lss (.t 13) (.t 14),some (12,false)⟩,
⟨some 16,.pick (.t 12) (.c (.s (.bool true))) (.t 15),none⟩,
⟨some 4,.cp (.t 16),none⟩] (none))
.ret)) }
def zcfh_:ByteArray :=
⟨#[0,1,2,2,3,3,3,3,4,4,4,4,4,4,4,4,5,5,5,5,5,5,5,5,5,5,5,5,5,5,5,5,6,6,6,6,6,6,6,6,6,6,6,6,6,6,6,6,6,6,6,6,6,6,6,6,6,6,6,6,6,6,6,6,7,7,7,7,7,7,7,7,7,7,7,7,7,7,7,7,7,7,7,7,7,7,7,7,7,7,7,7,7,7,7,7,7,7,7,7,7,7,7,7,7,7,7,7,7,7,7,7,7,7,7,7,7,7,7,7,7,7,7,7,7,7,7,7,8,8,8,8,8,8,8,8,8,8,8,8,8,8,8,8,8,8,8,8,8,8,8,8,8,8,8,8,8,8,8,8,8,8,8,8,8,8,8,8,8,8,8,8,8,8,8,8,8,8,8,8,8,8,8,8,8,8,8,8,8,8,8,8,8,8,8,8,8,8,8,8,8,8,8,8,8,8,8,8,8,8,8,8,8,8,8,8,8,8,8,8,8,8,8,8,8,8,8,8,8,8,8,8,8,8,8,8,8,8,8,8,8,8,8,8,8,8,8,8,8,8,8,8,8,8,8,8]⟩
def zzb_:XF:={ np:=1,results:=[(.inl 2,.v)],body :=
(.seq (.region [
⟨some 2,.cp (.c (.s (.int .i64 0))),none⟩] (none))
(.seq (.seq (.region [
⟨some 3,.cp (.t 0),none⟩,
⟨some 4,.bin .geq (.t 3) (.c (.s (.int .u32 65536))),none⟩] (none))
(.cond (.t 4)
(.seq (.region [
⟨some 5,.cp (.t 0),none⟩,
⟨some 6,.bin .shr (.t 5) (.c (.s (.int .u64 16))),none⟩,
⟨some 0,.cp (.t 6),none⟩] (none))
(.region [
⟨some 2,.cp (.c (.s (.int .i64 16))),none⟩] (none)))
.skip))
(.seq (.seq (.region [
⟨some 7,.cp (.t 0),none⟩,
⟨some 8,.bin .geq (.t 7) (.c (.s (.int .u32 256))),none⟩] (none))
(.cond (.t 8)
(.seq (.region [
⟨some 9,.cp (.t 0),none⟩,
⟨some 10,.bin .shr (.t 9) (.c (.s (.int .u64 8))),none⟩,
⟨some 0,.cp (.t 10),none⟩] (none))
(.region [
⟨some 11,.cp (.t 2),none⟩,
⟨some 12,.bin .add (.t 11) (.c (.s (.int .i64 8))),none⟩,
⟨some 2,.cp (.t 12),none⟩] (none)))
.skip))
(.seq (.region [
⟨some 13,.cp (.t 2),none⟩,
⟨some 14,.cp (.t 0),none⟩,
⟨some 15,.conv .u8 (.t 14),none⟩,
⟨some 16,.idxS (.c (.s (.string zcfh_))) (.t 15),none⟩,
⟨some 17,.conv .i64 (.t 16),none⟩,
⟨some 18,.bin .add (.t 13) (.t 17),none⟩,
⟨some 2,.cp (.t 18),none⟩] (none))
.ret)))) }
def zzc_:ByteArray :=
⟨#[0,1,2,2,3,3,3,3,4,4,4,4,4,4,4,4,5,5,5,5,5,5,5,5,5,5,5,5,5,5,5,5,6,6,6,6,6,6,6,6,6,6,6,6,6,6,6,6,6,6,6,6,6,6,6,6,6,6,6,6,6,6,6,6,7,7,7,7,7,7,7,7,7,7,7,7,7,7,7,7,7,7,7,7,7,7,7,7,7,7,7,7,7,7,7,7,7,7,7,7,7,7,7,7,7,7,7,7,7,7,7,7,7,7,7,7,7,7,7,7,7,7,7,7,7,7,7,7,8,8,8,8,8,8,8,8,8,8,8,8,8,8,8,8,8,8,8,8,8,8,8,8,8,8,8,8,8,8,8,8,8,8,8,8,8,8,8,8,8,8,8,8,8,8,8,8,8,8,8,8,8,8,8,8,8,8,8,8,8,8,8,8,8,8,8,8,8,8,8,8,8,8,8,8,8,8,8,8,8,8,8,8,8,8,8,8,8,8,8,8,8,8,8,8,8,8,8,8,8,8,8,8,8,8,8,8,8,8,8,8,8,8,8,8,8,8,8,8,8,8,8,8,8,8,8,8]⟩
def zof_:XF:={ np:=1,results:=[(.inl 2,.v)],body :=
(.seq (.region [
⟨some 2,.cp (.c (.s (.int .i64 0))),none⟩] (none))
(.seq (.seq (.region [
⟨some 3,.cp (.t 0),none⟩,
⟨some 4,.bin .geq (.t 3) (.c (.s (.int .u64 4294967296))),none⟩] (none))
(.cond (.t 4)
(.seq (.region [
⟨some 5,.cp (.t 0),none⟩,
⟨some 6,.bin .shr (.t 5) (.c (.s (.int .u64 32))),none⟩,
⟨some 0,.cp (.t 6),none⟩] (none))
(.region [
⟨some 2,.cp (.c (.s (.int .i64 32))),none⟩] (none)))
.skip))
(.seq (.seq (.region [
⟨some 7,.cp (.t 0),none⟩,
⟨some 8,.bin .geq (.t 7) (.c (.s (.int .u64 65536))),none⟩] (none))
(.cond (.t 8)
(.seq (.region [
⟨some 9,.cp (.t 0),none⟩,
⟨some 10,.bin .shr (.t 9) (.c (.s (.int .u64 16))),none⟩,
⟨some 0,.cp (.t 10),none⟩] (none))
(.region [
⟨some 11,.cp (.t 2),none⟩,
⟨some 12,.bin .add (.t 11) (.c (.s (.int .i64 16))),none⟩,
⟨some 2,.cp (.t 12),none⟩] (none)))
.skip))
(.seq (.seq (.region [
⟨some 13,.cp (.t 0),none⟩,
⟨some 14,.bin .geq (.t 13) (.c (.s (.int .u64 256))),none⟩] (none))
(.cond (.t 14)
(.seq (.region [
⟨some 15,.cp (.t 0),none⟩,
⟨some 16,.bin .shr (.t 15) (.c (.s (.int .u64 8))),none⟩,
⟨some 0,.cp (.t 16),none⟩] (none))
(.region [
⟨some 17,.cp (.t 2),none⟩,
⟨some 18,.bin .add (.t 17) (.c (.s (.int .i64 8))),none⟩,
⟨some 2,.cp (.t 18),none⟩] (none)))
.skip))
(.seq (.region [
⟨some 19,.cp (.t 2),none⟩,
⟨some 20,.cp (.t 0),none⟩,
⟨some 21,.conv .u8 (.t 20),none⟩,
⟨some 22,.idxS (.c (.s (.string zzc_))) (.t 21),none⟩,
⟨some 23,.conv .i64 (.t 22),none⟩,
⟨some 24,.bin .add (.t 19) (.t 23),none⟩,
⟨some 2,.cp (.t 24),none⟩] (none))
.ret))))) }
def zog_:XF:={ np:=2,results:=[(.inl 4,.v)],body :=
(.seq (.region [
⟨some 2,.box false (.t 0),none⟩,
⟨some 3,.box false (.t 1),none⟩,
⟨some 4,.cp (.c (.s (.int .i64 0))),none⟩] (none))
(.seq (.region [
⟨some 5,.faddr (.t 2) 0,none⟩,
⟨some 6,.load 1 false (.t 5),none⟩,
⟨some 7,.faddr (.t 3) 0,none⟩,
⟨some 8,.load 1 false (.t 7),none⟩,
⟨some 9,.call false zdq_ [(.t 6),(.t 8)],none⟩,
⟨some 10,.faddr (.t 2) 1,none⟩,
⟨some 11,.load 1 false (.t 10),none⟩,
⟨some 12,.faddr (.t 3) 1,none⟩,
⟨some 13,.load 1 false (.t 12),none⟩,
⟨some 14,.call false zfn_ [(.t 11),(.t 13)],none⟩,
⟨some 15,.faddr (.t 2) 2,none⟩,
⟨some 16,.load 1 false (.t 15),none⟩,
⟨some 17,.faddr (.t 3) 2,none⟩,
⟨some 18,.load 1 false (.t 17),none⟩,
⟨some 19,.call false zdq_ [(.t 16),(.t 18)],none⟩,
⟨some 20,.bslice false 1 [(.t 9),(.t 14),(.t 19)],none⟩,
⟨some 21,.call false zhu_ [(.t 20)],none⟩,
⟨some 4,.cp (.t 21),none⟩] (some [(4,none),(9,some 11),(9,some 13)]))
.ret)) }
def zje_:XF:={ np:=1,results:=[(.inl 2,.v)],body :=
(.seq (.region [
⟨some 2,.cp (.c (.s (.int .i64 0))),none⟩] (none))
(.seq (.seq (.region [
⟨some 3,.cp (.t 0),none⟩,
⟨some 4,.len false (.t 3),none⟩,
⟨some 5,.bin .gtr (.t 4) (.c (.s (.int .i64 4096))),none⟩] (none))
(.cond (.t 5)
(.seq (.region [
⟨some 2,.cp (.c (.s (.int .i64 6))),none⟩] (none))
.ret)
.skip))
(.seq (.seq (.region [
⟨some 6,.cp (.t 0),none⟩,
⟨some 7,.call false zvz_ [(.t 6),(.c (.fn zhl_ [] []))],none⟩] (none))
(.cond (.t 7)
(.seq (.region [
⟨some 2,.cp (.c (.s (.int .i64 2))),none⟩] (none))
.ret)
.skip))
(.seq (.region [
⟨some 2,.cp (.c (.s (.int .i64 0))),none⟩] (none))
.ret)))) }
def zoh_:XC :=
(.seq (.seq (.region [
⟨some 9,.cp (.t 4),none⟩,
⟨some 10,.bin .leq (.t 9) (.c (.s (.int .i64 4))),none⟩] (none))
(.cond (.t 10)
.skip
(.exit 0)))
(.seq (.block 1
(.seq (.region [
⟨some 13,.cp (.t 4),none⟩,
⟨some 14,.cp (.t 0),none⟩,
⟨some 15,.call false zvx_ [(.t 13),(.t 14)],none⟩,
⟨some 5,.cp (.t 15),none⟩] (none))
(.seq (.region [
⟨some 16,.cp (.t 3),none⟩,
⟨some 17,.nilchk (.t 16),none⟩,
⟨some 18,.faddr (.t 17) 2,none⟩,
⟨some 19,.load 1 false (.t 18),none⟩,
⟨some 20,.bin .eql (.t 19) (.c (.s (.int .i64 0))),none⟩,
⟨some 21,.cp (.t 20),none⟩,
⟨some 22,.cp (.t 5),some (21,false)⟩,
⟨some 23,.len true (.t 22),some (21,false)⟩,
⟨some 24,.cp (.t 3),some (21,false)⟩,
⟨some 25,.nilchk (.t 24),some (21,false)⟩,
⟨some 26,.faddr (.t 25) 1,some (21,false)⟩,
⟨some 27,.load 1 false (.t 26),some (21,false)⟩,
⟨some 28,.len true (.t 27),some (21,false)⟩,
⟨some 29,.bin .lss (.t 23) (.t 28),some (21,false)⟩,
⟨some 30,.pick (.t 21) (.c (.s (.bool true))) (.t 29),none⟩] (none))
(.cond (.t 30)
(.region [
⟨some 31,.cp (.t 3),none⟩,
⟨some 32,.cp (.t 3),none⟩,
⟨some 33,.cp (.t 4),none⟩,
⟨some 34,.cp (.t 5),none⟩,
⟨some 35,.nilchk (.t 31),none⟩,
⟨some 36,.faddr (.t 35) 2,none⟩,
⟨none,.store 1 (.t 36) (.t 33),none⟩,
⟨some 37,.nilchk (.t 32),none⟩,
⟨some 38,.faddr (.t 37) 1,none⟩,
⟨none,.store 1 (.t 38) (.t 34),none⟩] (none))
.skip))))
(.region [
⟨some 11,.cp (.t 4),none⟩,
⟨some 12,.bin .add (.t 11) (.c (.s (.int .i64 1))),none⟩,
⟨some 4,.cp (.t 12),none⟩] (none))))
def zoi_:XF:={ np:=1,results:=[(.inl 2,.f)],body :=
(.seq (.region [
⟨some 2,.cp (.c (.s (.pointer none))),none⟩] (none))
(.seq (.region [
⟨some 6,.cp (.t 0),none⟩,
⟨some 7,.build false [.s (.slice none 0 0),.s (.string ⟨#[]⟩),.s (.int .i64 0)] [(0,1,(.t 6))],none⟩,
⟨some 8,.box false (.t 7),none⟩,
⟨some 3,.cp (.t 8),none⟩] (none))
(.seq (.seq (.region [
⟨some 4,.cp (.c (.s (.int .i64 1))),none⟩] (none))
(.block 0
(.loop zoh_)))
(.seq (.region [
⟨some 39,.cp (.t 3),none⟩,
⟨some 2,.cp (.t 39),none⟩] (none))
.ret)))) }
def zzd_:XF:={ np:=1,results:=[(.inl 2,.v)],body :=
(.seq (.region [
⟨some 2,.cp (.c (.s (.bool false))),none⟩] (none))
(.seq (.region [
⟨some 3,.cp (.t 0),none⟩,
⟨some 4,.cp (.t 0),none⟩,
⟨some 5,.bin .neq (.t 3) (.t 4),none⟩,
⟨some 2,.cp (.t 5),none⟩] (none))
.ret)) }
def zze_:XF:={ np:=2,results:=[],body:=.skip,nat:=some (.seq zck_ 14 837723144972) }
def zoj_:XF:={ np:=1,results:=[(.inl 2,.v)],body :=
(.seq (.region [
⟨some 2,.cp (.c (.s (.bool false))),none⟩] (none))
(.seq (.region [
⟨some 3,.cp (.t 0),none⟩,
⟨some 4,.cp (.t 0),none⟩,
⟨some 5,.bin .neq (.t 3) (.t 4),none⟩,
⟨some 2,.cp (.t 5),none⟩] (none))
.ret)) }
def zok_:XF:={ np:=1,results:=[(.inl 2,.v)],body :=
(.seq (.region [
⟨some 2,.cp (.c (.s (.bool false))),none⟩] (none))
(.seq (.region [
⟨some 3,.cp (.t 0),none⟩,
⟨some 4,.cp (.t 0),none⟩,
⟨some 5,.bin .neq (.t 3) (.t 4),none⟩,
⟨some 2,.cp (.t 5),none⟩] (none))
.ret)) }
def zjf_:XC :=
(.seq (.region [
⟨some 14,.bin .lss (.t 13) (.t 12),none⟩] (none))
(.seq (.cond (.t 14)
.skip
(.exit 0))
(.seq (.block 1
(.seq (.region [
⟨some 15,.cp (.t 13),none⟩,
⟨some 16,.iaddr 4 (.t 11) (.t 13),none⟩,
⟨some 17,.load 4 true (.t 16),none⟩,
⟨some 8,.alloc [.s (.string ⟨#[]⟩),.s (.int .i64 0),.s (.string ⟨#[]⟩),.s (.int .i64 0)],none⟩,
⟨some 7,.cp (.t 15),none⟩,
⟨none,.store 4 (.t 8) (.t 17),none⟩] (none))
(.seq (.seq (.region [
⟨some 18,.cp (.t 7),none⟩,
⟨some 19,.cp (.t 1),none⟩,
⟨some 20,.len false (.t 19),none⟩,
⟨some 21,.bin .geq (.t 18) (.t 20),none⟩] (none))
(.cond (.t 21)
(.seq (.region [
⟨some 6,.cp (.c (.s (.int .i64 1))),none⟩] (none))
.ret)
.skip))
(.seq (.region [
⟨some 22,.cp (.t 1),none⟩,
⟨some 23,.cp (.t 7),none⟩,
⟨some 24,.iaddr 4 (.t 22) (.t 23),none⟩,
⟨some 25,.load 4 true (.t 24),none⟩,
⟨some 9,.alloc [.s (.string ⟨#[]⟩),.s (.int .i64 0),.s (.string ⟨#[]⟩),.s (.int .i64 0)],none⟩,
⟨none,.store 4 (.t 9) (.t 25),none⟩] (none))
(.seq (.region [
⟨some 26,.cp (.t 2),none⟩,
⟨some 27,.load 4 true (.t 8),none⟩,
⟨some 28,.load 4 true (.t 9),none⟩,
⟨some 29,.callv false (.t 26) [(.t 27),(.t 28)],none⟩,
⟨some 10,.cp (.t 29),none⟩] (none))
(.seq (.region [
⟨some 30,.cp (.t 10),none⟩,
⟨some 31,.bin .neq (.t 30) (.c (.s (.int .i64 0))),none⟩] (none))
(.cond (.t 31)
(.seq (.region [
⟨some 32,.cp (.t 10),none⟩,
⟨some 6,.cp (.t 32),none⟩] (none))
.ret)
.skip)))))))
(.region [
⟨some 33,.bin .add (.t 13) (.c (.s (.int .i64 1))),none⟩,
⟨some 13,.cp (.t 33),none⟩] (none)))))
def zol_:XF:={ np:=3,results:=[(.inl 6,.v)],body :=
(.seq (.region [
⟨some 6,.cp (.c (.s (.int .i64 0))),none⟩] (none))
(.seq (.seq (.region [
⟨some 11,.cp (.t 0),none⟩,
⟨some 12,.len false (.t 11),none⟩,
⟨some 13,.cp (.c (.s (.int .i64 0))),none⟩] (none))
(.block 0
(.loop zjf_)))
(.seq (.seq (.region [
⟨some 34,.cp (.t 0),none⟩,
⟨some 35,.len false (.t 34),none⟩,
⟨some 36,.cp (.t 1),none⟩,
⟨some 37,.len false (.t 36),none⟩,
⟨some 38,.bin .lss (.t 35) (.t 37),none⟩] (none))
(.cond (.t 38)
(.seq (.region [
⟨some 6,.cp (.c (.s (.int .i64 (-1)))),none⟩] (none))
.ret)
.skip))
(.seq (.region [
⟨some 6,.cp (.c (.s (.int .i64 0))),none⟩] (none))
.ret)))) }
def zom_:XF:={ np:=2,results:=[(.inl 4,.v)],body :=
(.seq (.region [
⟨some 2,.box false (.t 0),none⟩,
⟨some 3,.box false (.t 1),none⟩,
⟨some 4,.cp (.c (.s (.int .i64 0))),none⟩] (none))
(.seq (.region [
⟨some 5,.faddr (.t 2) 0,none⟩,
⟨some 6,.load 1 false (.t 5),none⟩,
⟨some 7,.faddr (.t 3) 0,none⟩,
⟨some 8,.load 1 false (.t 7),none⟩,
⟨some 9,.call false zfn_ [(.t 6),(.t 8)],none⟩,
⟨some 10,.faddr (.t 2) 1,none⟩,
⟨some 11,.load 3 true (.t 10),none⟩,
⟨some 12,.faddr (.t 3) 1,none⟩,
⟨some 13,.load 3 true (.t 12),none⟩,
⟨some 14,.call false zwo_ [(.t 11),(.t 13)],none⟩,
⟨some 15,.bslice false 1 [(.t 9),(.t 14)],none⟩,
⟨some 16,.call false zhu_ [(.t 15)],none⟩,
⟨some 4,.cp (.t 16),none⟩] (some [(4,some 6),(4,some 8)]))
.ret)) }
def zon_:XC :=
(.seq (.seq (.region [
⟨some 31,.cp (.t 6),none⟩,
⟨some 32,.bin .gtr (.t 31) (.c (.s (.int .i64 0))),none⟩,
⟨some 33,.cp (.t 32),none⟩,
⟨some 34,.cp (.t 3),some (33,true)⟩,
⟨some 35,.cp (.t 6),some (33,true)⟩,
⟨some 36,.bin .sub (.t 35) (.c (.s (.int .i64 1))),some (33,true)⟩,
⟨some 37,.iaddr 3 (.t 34) (.t 36),some (33,true)⟩,
⟨some 38,.faddr (.t 37) 0,some (33,true)⟩,
⟨some 39,.load 1 false (.t 38),some (33,true)⟩,
⟨some 40,.faddr (.t 5) 0,some (33,true)⟩,
⟨some 41,.load 1 false (.t 40),some (33,true)⟩,
⟨some 42,.bin .gtr (.t 39) (.t 41),some (33,true)⟩,
⟨some 43,.pick (.t 33) (.t 42) (.c (.s (.bool false))),none⟩] (some []))
(.cond (.t 43)
.skip
(.exit 2)))
(.block 3
(.region [
⟨some 44,.cp (.t 6),none⟩,
⟨some 45,.bin .sub (.t 44) (.c (.s (.int .i64 1))),none⟩,
⟨some 6,.cp (.t 45),none⟩] (none))))
def zsv_:XC :=
(.seq (.seq (.region [
⟨some 7,.cp (.t 4),none⟩,
⟨some 8,.faddr (.t 1) 0,none⟩,
⟨some 9,.load 1 false (.t 8),none⟩,
⟨some 10,.len false (.t 9),none⟩,
⟨some 11,.bin .lss (.t 7) (.t 10),none⟩] (none))
(.cond (.t 11)
.skip
(.exit 0)))
(.seq (.block 1
(.seq (.seq (.region [
⟨some 14,.faddr (.t 1) 0,none⟩,
⟨some 15,.load 1 false (.t 14),none⟩,
⟨some 16,.cp (.t 4),none⟩,
⟨some 17,.iaddr 3 (.t 15) (.t 16),none⟩,
⟨some 18,.faddr (.t 17) 2,none⟩,
⟨some 19,.load 1 false (.t 18),none⟩,
⟨some 20,.len false (.t 19),none⟩,
⟨some 21,.bin .eql (.t 20) (.c (.s (.int .i64 0))),none⟩] (none))
(.cond (.t 21)
(.exit 1)
.skip))
(.seq (.region [
⟨some 22,.load 7 true (.t 1),none⟩,
⟨some 23,.cp (.t 4),none⟩,
⟨some 24,.call false zen_ [(.t 22),(.t 23)],none⟩,
⟨some 25,.load 7 true (.t 1),none⟩,
⟨some 26,.cp (.t 4),none⟩,
⟨some 27,.call false zrx_ [(.t 25),(.t 26),(.c (.s (.bool false)))],none⟩,
⟨some 28,.build false [.s (.int .i64 0),.s (.int .i64 0),.s (.slice none 0 0)] [(0,1,(.t 24)),(1,1,(.c (.s (.int .i64 1)))),(2,1,(.t 27))],none⟩,
⟨some 5,.alloc [.s (.int .i64 0),.s (.int .i64 0),.s (.slice none 0 0)],none⟩,
⟨none,.store 3 (.t 5) (.t 28),none⟩] (some [(2,some 3),(7,some 0),(7,some 3)]))
(.seq (.region [
⟨some 29,.cp (.t 3),none⟩,
⟨some 30,.len false (.t 29),none⟩,
⟨some 6,.cp (.t 30),none⟩] (none))
(.seq (.block 2
(.loop zon_))
(.region [
⟨some 46,.bslice true 3 [],none⟩,
⟨some 47,.cp (.t 3),none⟩,
⟨some 48,.cp (.t 6),none⟩,
⟨some 49,.slLst 3 (.t 47) none (some (.t 48)),none⟩,
⟨some 50,.append 3 3518437208883 (.t 46) (.t 49),none⟩,
⟨some 51,.load 3 true (.t 5),none⟩,
⟨some 52,.bslice false 3 [(.t 51)],none⟩,
⟨some 53,.append 3 3518437208883 (.t 50) (.t 52),none⟩,
⟨some 54,.cp (.t 3),none⟩,
⟨some 55,.cp (.t 6),none⟩,
⟨some 56,.slLst 3 (.t 54) (some (.t 55)) none,none⟩,
⟨some 57,.append 3 3518437208883 (.t 53) (.t 56),none⟩,
⟨some 3,.cp (.t 57),none⟩] (some [(0,some 3),(0,some 5),(0,some 10),(4,some 5),(4,some 10),(7,some 10)])))))))
(.region [
⟨some 12,.cp (.t 4),none⟩,
⟨some 13,.bin .add (.t 12) (.c (.s (.int .i64 1))),none⟩,
⟨some 4,.cp (.t 13),none⟩] (none))))
def zoo_:XF:={ np:=1,results:=[(.inl 2,.v)],body :=
(.seq (.region [
⟨some 1,.box false (.t 0),none⟩,
⟨some 2,.cp (.c (.s (.slice none 0 0))),none⟩] (none))
(.seq (.region [
⟨some 3,.cp (.c (.s (.slice none 0 0))),none⟩] (none))
(.seq (.seq (.region [
⟨some 4,.cp (.c (.s (.int .i64 0))),none⟩] (none))
(.block 0
(.loop zsv_)))
(.seq (.region [
⟨some 58,.cp (.t 3),none⟩,
⟨some 2,.cp (.t 58),none⟩] (none))
.ret)))) }
def zop_:XF:={ np:=2,results:=[(.inl 4,.v)],body :=
(.seq (.region [
⟨some 4,.cp (.c (.s (.bool false))),none⟩] (none))
(.seq (.region [
⟨some 5,.cp (.t 0),none⟩,
⟨some 6,.cp (.t 1),none⟩,
⟨some 7,.call false zwc_ [(.t 5),(.t 6)],none⟩,
⟨some 8,.bin .geq (.t 7) (.c (.s (.int .i64 0))),none⟩,
⟨some 4,.cp (.t 8),none⟩] (none))
.ret)) }
def zjg_:XF:={ np:=1,results:=[(.inl 2,.v)],body :=
(.seq (.region [
⟨some 2,.cp (.c (.s (.bool false))),none⟩] (none))
(.seq (.region [
⟨some 3,.cp (.t 0),none⟩,
⟨some 4,.bin .lss (.t 3) (.c (.s (.int .i64 (-1152921504606846976)))),none⟩,
⟨some 5,.cp (.t 4),none⟩,
⟨some 6,.cp (.t 0),some (5,false)⟩,
⟨some 7,.bin .gtr (.t 6) (.c (.s (.int .i64 1152921504606846976))),some (5,false)⟩,
⟨some 8,.pick (.t 5) (.c (.s (.bool true))) (.t 7),none⟩,
⟨some 2,.cp (.t 8),none⟩] (none))
.ret)) }
def zer_:XF:={ np:=2,results:=[(.inl 4,.v)],body :=
(.seq (.region [
⟨some 4,.cp (.c (.s (.string ⟨#[]⟩))),none⟩] (none))
(.seq (.region [
⟨some 7,.build false [.s .nilFunc,.s .nilFunc,.s .nilFunc,.s .nilFunc] [(0,1,(.c (.fn zhm_ [] []))),(1,1,(.c (.fn zhn_ [] []))),(2,1,(.c (.fn zho_ [] []))),(3,1,(.c (.fn zhp_ [] [])))],none⟩,
⟨some 5,.alloc [.s .nilFunc,.s .nilFunc,.s .nilFunc,.s .nilFunc],none⟩,
⟨none,.store 4 (.t 5) (.t 7),none⟩] (none))
(.seq (.region [
⟨some 6,.alloc [.s (.slice none 0 0)],none⟩] (none))
(.seq (.region [
⟨some 8,.cp (.t 0),none⟩,
⟨some 9,.call false zbn_ [(.t 6),(.t 8)],none⟩] (none))
(.seq (.region [
⟨some 10,.cp (.t 0),none⟩,
⟨some 11,.bin .sub (.t 10) (.c (.s (.int .i64 1))),none⟩,
⟨some 12,.iaddrA 4 1 (.t 5) (.t 11),none⟩,
⟨some 13,.load 1 false (.t 12),none⟩,
⟨some 14,.cp (.t 1),none⟩,
⟨some 15,.callv false (.t 13) [(.t 6),(.t 14)],none⟩] (none))
(.seq (.region [
⟨some 16,.call false zhi_ [(.t 6)],none⟩,
⟨some 4,.cp (.t 16),none⟩] (none))
.ret)))))) }
def zjh_:XC :=
(.seq (.seq (.region [
⟨some 22,.cp (.t 10),none⟩,
⟨some 23,.faddr (.t 3) 0,none⟩,
⟨some 24,.load 1 false (.t 23),none⟩,
⟨some 25,.cp (.t 1),none⟩,
⟨some 26,.iaddr 3 (.t 24) (.t 25),none⟩,
⟨some 27,.faddr (.t 26) 2,none⟩,
⟨some 28,.load 1 false (.t 27),none⟩,
⟨some 29,.len false (.t 28),none⟩,
⟨some 30,.bin .lss (.t 22) (.t 29),none⟩] (none))
(.cond (.t 30)
.skip
(.exit 0)))
(.seq (.block 1
(.seq (.region [
⟨some 33,.load 7 true (.t 3),none⟩,
⟨some 34,.cp (.t 1),none⟩,
⟨some 35,.cp (.t 10),none⟩,
⟨some 36,.cp (.t 8),none⟩,
⟨some 37,.cp (.t 9),none⟩,
⟨some 38,.call false zxn_ [(.t 33),(.t 34),(.t 35),(.t 36),(.t 37)],none⟩,
⟨some 11,.alloc [.s (.int .i64 0),.s (.int .i64 0),.s (.int .i64 0),.s (.int .i64 0),.s (.int .i64 0),.s (.int .i64 0),.s (.string ⟨#[]⟩),.s (.string ⟨#[]⟩),.s (.string ⟨#[]⟩),.s (.int .i64 0),.s (.int .i64 0),.s (.bool false),.s (.slice none 0 0),.s (.slice none 0 0)],none⟩,
⟨none,.store 14 (.t 11) (.t 38),none⟩] (none))
(.seq (.seq (.region [
⟨some 39,.cp (.t 2),none⟩,
⟨some 40,.un .not (.t 39),none⟩] (none))
(.cond (.t 40)
(.seq (.region [
⟨some 41,.load 7 true (.t 3),none⟩,
⟨some 42,.faddr (.t 11) 4,none⟩,
⟨some 43,.load 1 false (.t 42),none⟩,
⟨some 44,.call false zhy_ [(.t 41),(.t 43)],none⟩,
⟨some 12,.cp (.t 44),none⟩] (none))
(.seq (.seq (.region [
⟨some 45,.faddr (.t 3) 6,none⟩,
⟨some 46,.load 1 false (.t 45),none⟩,
⟨some 47,.bin .gtr (.t 46) (.c (.s (.int .u8 0))),none⟩,
⟨some 48,.cp (.t 47),none⟩,
⟨some 49,.faddr (.t 3) 6,some (48,true)⟩,
⟨some 50,.load 1 false (.t 49),some (48,true)⟩,
⟨some 51,.conv .i64 (.t 50),some (48,true)⟩,
⟨some 52,.bin .rem (.t 51) (.c (.s (.int .i64 8))),some (48,true)⟩,
⟨some 53,.cp (.t 10),some (48,true)⟩,
⟨some 54,.bin .eql (.t 52) (.t 53),some (48,true)⟩,
⟨some 55,.pick (.t 48) (.t 54) (.c (.s (.bool false))),none⟩,
⟨some 56,.cp (.t 55),none⟩,
⟨some 57,.faddr (.t 3) 6,some (56,true)⟩,
⟨some 58,.load 1 false (.t 57),some (56,true)⟩,
⟨some 59,.conv .i64 (.t 58),some (56,true)⟩,
⟨some 60,.bin .quo (.t 59) (.c (.s (.int .i64 8))),some (56,true)⟩,
⟨some 61,.bin .rem (.t 60) (.c (.s (.int .i64 3))),some (56,true)⟩,
⟨some 62,.cp (.t 1),some (56,true)⟩,
⟨some 63,.bin .eql (.t 61) (.t 62),some (56,true)⟩,
⟨some 64,.pick (.t 56) (.t 63) (.c (.s (.bool false))),none⟩] (none))
(.cond (.t 64)
(.region [
⟨some 65,.cp (.t 12),none⟩,
⟨some 66,.bin .add (.t 65) (.c (.s (.int .i64 500))),none⟩,
⟨some 12,.cp (.t 66),none⟩] (none))
.skip))
(.region [
⟨some 67,.faddr (.t 11) 9,none⟩,
⟨some 68,.load 1 false (.t 67),none⟩,
⟨some 69,.cp (.t 12),none⟩,
⟨some 70,.bin .add (.t 68) (.t 69),none⟩,
⟨some 71,.faddr (.t 11) 10,none⟩,
⟨some 72,.load 1 false (.t 71),none⟩,
⟨some 73,.cp (.t 12),none⟩,
⟨some 74,.bin .add (.t 72) (.t 73),none⟩,
⟨some 75,.faddr (.t 11) 9,none⟩,
⟨none,.store 1 (.t 75) (.t 70),none⟩,
⟨some 76,.faddr (.t 11) 10,none⟩,
⟨none,.store 1 (.t 76) (.t 74),none⟩] (none))))
.skip))
(.region [
⟨some 77,.cp (.t 7),none⟩,
⟨some 78,.load 14 true (.t 11),none⟩,
⟨some 79,.bslice false 14 [(.t 78)],none⟩,
⟨some 80,.append 14 837723144972 (.t 77) (.t 79),none⟩,
⟨some 7,.cp (.t 80),none⟩] (none)))))
(.region [
⟨some 31,.cp (.t 10),none⟩,
⟨some 32,.bin .add (.t 31) (.c (.s (.int .i64 1))),none⟩,
⟨some 10,.cp (.t 32),none⟩] (none))))
def zoq_:XF:={ np:=3,results:=[(.inl 6,.v)],body :=
(.seq (.region [
⟨some 3,.box false (.t 0),none⟩,
⟨some 6,.cp (.c (.s (.slice none 0 0))),none⟩] (none))
(.seq (.region [
⟨some 7,.cp (.c (.s (.slice none 0 0))),none⟩] (none))
(.seq (.region [
⟨some 14,.faddr (.t 3) 0,none⟩,
⟨some 15,.load 1 false (.t 14),none⟩,
⟨some 16,.cp (.t 1),none⟩,
⟨some 17,.iaddr 3 (.t 15) (.t 16),none⟩,
⟨some 18,.load 3 true (.t 17),none⟩,
⟨some 19,.call false zxm_ [(.t 18)],none⟩,
⟨some 13,.cp (.t 19),none⟩,
⟨some 20,.extract (.t 13) 0,none⟩,
⟨some 21,.extract (.t 13) 1,none⟩,
⟨some 8,.cp (.t 20),none⟩,
⟨some 9,.cp (.t 21),none⟩] (none))
(.seq (.seq (.region [
⟨some 10,.cp (.c (.s (.int .i64 0))),none⟩] (none))
(.block 0
(.loop zjh_)))
(.seq (.region [
⟨some 81,.cp (.t 7),none⟩,
⟨some 6,.cp (.t 81),none⟩] (none))
.ret))))) }
def zsw_:XC :=
(.seq (.region [
⟨some 9,.bin .lss (.t 8) (.t 7),none⟩] (none))
(.seq (.cond (.t 9)
.skip
(.exit 0))
(.seq (.block 1
(.seq (.region [
⟨some 10,.cp (.t 8),none⟩,
⟨some 5,.cp (.t 10),none⟩] (none))
(.seq (.region [
⟨some 11,.cp (.t 1),none⟩,
⟨some 12,.cp (.t 0),none⟩,
⟨some 13,.cp (.t 5),none⟩,
⟨some 14,.iaddr 1 (.t 12) (.t 13),none⟩,
⟨some 15,.load 1 false (.t 14),none⟩,
⟨some 16,.callv false (.t 11) [(.t 15)],none⟩] (none))
(.cond (.t 16)
(.seq (.region [
⟨some 17,.cp (.t 5),none⟩,
⟨some 4,.cp (.t 17),none⟩] (none))
.ret)
.skip))))
(.region [
⟨some 18,.bin .add (.t 8) (.c (.s (.int .i64 1))),none⟩,
⟨some 8,.cp (.t 18),none⟩] (none)))))
def zor_:XF:={ np:=2,results:=[(.inl 4,.v)],body :=
(.seq (.region [
⟨some 4,.cp (.c (.s (.int .i64 0))),none⟩] (none))
(.seq (.seq (.region [
⟨some 6,.cp (.t 0),none⟩,
⟨some 7,.len false (.t 6),none⟩,
⟨some 8,.cp (.c (.s (.int .i64 0))),none⟩] (none))
(.block 0
(.loop zsw_)))
(.seq (.region [
⟨some 4,.cp (.c (.s (.int .i64 (-1)))),none⟩] (none))
.ret))) }
def zzf_:XC :=
(.seq (.region [
⟨some 13,.bin .lss (.t 12) (.t 11),none⟩] (none))
(.seq (.cond (.t 13)
.skip
(.exit 0))
(.seq (.block 1
(.seq (.region [
⟨some 14,.iaddr 1 (.t 10) (.t 12),none⟩,
⟨some 15,.load 1 false (.t 14),none⟩,
⟨some 5,.cp (.t 15),none⟩] (none))
(.region [
⟨some 16,.cp (.t 0),none⟩,
⟨some 17,.cp (.t 5),none⟩,
⟨some 18,.call false zbn_ [(.t 16),(.t 17)],none⟩] (none))))
(.region [
⟨some 19,.bin .add (.t 12) (.c (.s (.int .i64 1))),none⟩,
⟨some 12,.cp (.t 19),none⟩] (none)))))
def zos_:XF:={ np:=2,results:=[],body :=
(.seq (.region [
⟨some 6,.cp (.t 0),none⟩,
⟨some 7,.cp (.t 1),none⟩,
⟨some 8,.len false (.t 7),none⟩,
⟨some 9,.call false zbn_ [(.t 6),(.t 8)],none⟩] (none))
(.seq (.region [
⟨some 10,.cp (.t 1),none⟩,
⟨some 11,.len false (.t 10),none⟩,
⟨some 12,.cp (.c (.s (.int .i64 0))),none⟩] (none))
(.block 0
(.loop zzf_)))) }
def zzg_:XC :=
(.seq (.region [
⟨some 14,.bin .lss (.t 13) (.t 12),none⟩] (none))
(.seq (.cond (.t 14)
.skip
(.exit 0))
(.seq (.block 1
(.seq (.region [
⟨some 15,.iaddr 1 (.t 11) (.t 13),none⟩,
⟨some 16,.load 1 false (.t 15),none⟩,
⟨some 6,.cp (.t 16),none⟩] (none))
(.seq (.region [
⟨some 17,.cp (.t 0),none⟩,
⟨some 18,.cp (.t 6),none⟩,
⟨some 19,.cp (.t 4),none⟩,
⟨some 20,.bin .sub (.t 18) (.t 19),none⟩,
⟨some 21,.call false zbn_ [(.t 17),(.t 20)],none⟩] (none))
(.region [
⟨some 22,.cp (.t 6),none⟩,
⟨some 4,.cp (.t 22),none⟩] (none)))))
(.region [
⟨some 23,.bin .add (.t 13) (.c (.s (.int .i64 1))),none⟩,
⟨some 13,.cp (.t 23),none⟩] (none)))))
def zot_:XF:={ np:=2,results:=[],body :=
(.seq (.region [
⟨some 7,.cp (.t 0),none⟩,
⟨some 8,.cp (.t 1),none⟩,
⟨some 9,.len false (.t 8),none⟩,
⟨some 10,.call false zbn_ [(.t 7),(.t 9)],none⟩] (none))
(.seq (.region [
⟨some 4,.cp (.c (.s (.int .i64 0))),none⟩] (none))
(.seq (.region [
⟨some 11,.cp (.t 1),none⟩,
⟨some 12,.len false (.t 11),none⟩,
⟨some 13,.cp (.c (.s (.int .i64 0))),none⟩] (none))
(.block 0
(.loop zzg_))))) }
def zou_:XC :=
(.seq (.region [
⟨some 13,.bin .lss (.t 12) (.t 11),none⟩] (none))
(.seq (.cond (.t 13)
.skip
(.exit 0))
(.seq (.block 1
(.seq (.region [
⟨some 14,.cp (.t 12),none⟩,
⟨some 15,.iaddr 1 (.t 10) (.t 12),none⟩,
⟨some 16,.load 1 false (.t 15),none⟩,
⟨some 5,.cp (.t 14),none⟩,
⟨some 6,.cp (.t 16),none⟩] (none))
(.seq (.region [
⟨some 17,.cp (.t 5),none⟩,
⟨some 18,.bin .eql (.t 17) (.c (.s (.int .i64 0))),none⟩,
⟨some 19,.cp (.t 18),none⟩,
⟨some 20,.cp (.t 6),some (19,false)⟩,
⟨some 21,.cp (.t 1),some (19,false)⟩,
⟨some 22,.cp (.t 5),some (19,false)⟩,
⟨some 23,.bin .sub (.t 22) (.c (.s (.int .i64 1))),some (19,false)⟩,
⟨some 24,.iaddr 1 (.t 21) (.t 23),some (19,false)⟩,
⟨some 25,.load 1 false (.t 24),some (19,false)⟩,
⟨some 26,.bin .neq (.t 20) (.t 25),some (19,false)⟩,
⟨some 27,.pick (.t 19) (.c (.s (.bool true))) (.t 26),none⟩] (none))
(.cond (.t 27)
(.region [
⟨some 28,.cp (.t 4),none⟩,
⟨some 29,.cp (.t 5),none⟩,
⟨some 30,.bslice false 1 [(.t 29)],none⟩,
⟨some 31,.append 1 17592186044416 (.t 28) (.t 30),none⟩,
⟨some 4,.cp (.t 31),none⟩] (none))
.skip))))
(.region [
⟨some 32,.bin .add (.t 12) (.c (.s (.int .i64 1))),none⟩,
⟨some 12,.cp (.t 32),none⟩] (none)))))
def zsx_:XC :=
(.seq (.region [
⟨some 40,.bin .lss (.t 39) (.t 38),none⟩] (none))
(.seq (.cond (.t 40)
.skip
(.exit 2))
(.seq (.block 3
(.seq (.region [
⟨some 41,.cp (.t 39),none⟩,
⟨some 42,.iaddr 1 (.t 37) (.t 39),none⟩,
⟨some 43,.load 1 false (.t 42),none⟩,
⟨some 7,.cp (.t 41),none⟩,
⟨some 8,.cp (.t 43),none⟩] (none))
(.seq (.region [
⟨some 44,.cp (.t 1),none⟩,
⟨some 45,.len false (.t 44),none⟩,
⟨some 9,.cp (.t 45),none⟩] (none))
(.seq (.seq (.region [
⟨some 46,.cp (.t 7),none⟩,
⟨some 47,.bin .add (.t 46) (.c (.s (.int .i64 1))),none⟩,
⟨some 48,.cp (.t 4),none⟩,
⟨some 49,.len false (.t 48),none⟩,
⟨some 50,.bin .lss (.t 47) (.t 49),none⟩] (none))
(.cond (.t 50)
(.region [
⟨some 51,.cp (.t 4),none⟩,
⟨some 52,.cp (.t 7),none⟩,
⟨some 53,.bin .add (.t 52) (.c (.s (.int .i64 1))),none⟩,
⟨some 54,.iaddr 1 (.t 51) (.t 53),none⟩,
⟨some 55,.load 1 false (.t 54),none⟩,
⟨some 9,.cp (.t 55),none⟩] (none))
.skip))
(.seq (.region [
⟨some 56,.cp (.t 0),none⟩,
⟨some 57,.cp (.t 1),none⟩,
⟨some 58,.cp (.t 8),none⟩,
⟨some 59,.iaddr 1 (.t 57) (.t 58),none⟩,
⟨some 60,.load 1 false (.t 59),none⟩,
⟨some 61,.call false zbn_ [(.t 56),(.t 60)],none⟩] (none))
(.region [
⟨some 62,.cp (.t 0),none⟩,
⟨some 63,.cp (.t 9),none⟩,
⟨some 64,.cp (.t 8),none⟩,
⟨some 65,.bin .sub (.t 63) (.t 64),none⟩,
⟨some 66,.call false zbn_ [(.t 62),(.t 65)],none⟩] (none)))))))
(.region [
⟨some 67,.bin .add (.t 39) (.c (.s (.int .i64 1))),none⟩,
⟨some 39,.cp (.t 67),none⟩] (none)))))
def zov_:XF:={ np:=2,results:=[],body :=
(.seq (.region [
⟨some 4,.cp (.c (.s (.slice none 0 0))),none⟩] (none))
(.seq (.seq (.region [
⟨some 10,.cp (.t 1),none⟩,
⟨some 11,.len false (.t 10),none⟩,
⟨some 12,.cp (.c (.s (.int .i64 0))),none⟩] (none))
(.block 0
(.loop zou_)))
(.seq (.region [
⟨some 33,.cp (.t 0),none⟩,
⟨some 34,.cp (.t 4),none⟩,
⟨some 35,.len false (.t 34),none⟩,
⟨some 36,.call false zbn_ [(.t 33),(.t 35)],none⟩] (none))
(.seq (.region [
⟨some 37,.cp (.t 4),none⟩,
⟨some 38,.len false (.t 37),none⟩,
⟨some 39,.cp (.c (.s (.int .i64 0))),none⟩] (none))
(.block 2
(.loop zsx_)))))) }
def zzh_:XC :=
(.seq (.region [
⟨some 36,.bin .lss (.t 35) (.t 34),none⟩] (none))
(.seq (.cond (.t 36)
.skip
(.exit 2))
(.seq (.block 3
(.seq (.region [
⟨some 37,.cp (.t 35),none⟩,
⟨some 9,.cp (.t 37),none⟩] (none))
(.seq (.region [
⟨some 38,.cp (.t 7),none⟩,
⟨some 39,.cp (.t 5),none⟩,
⟨some 40,.bin .mul (.t 38) (.t 39),none⟩,
⟨some 41,.cp (.t 9),none⟩,
⟨some 42,.bin .add (.t 40) (.t 41),none⟩,
⟨some 10,.cp (.t 42),none⟩] (none))
(.region [
⟨some 43,.cp (.t 6),none⟩,
⟨some 44,.cp (.t 10),none⟩,
⟨some 45,.bin .quo (.t 44) (.c (.s (.int .i64 8))),none⟩,
⟨some 46,.iaddr 1 (.t 43) (.t 45),none⟩,
⟨some 47,.load 1 false (.t 46),none⟩,
⟨some 48,.cp (.t 8),none⟩,
⟨some 49,.faddr (.t 4) 0,none⟩,
⟨some 50,.load 1 false (.t 49),none⟩,
⟨some 51,.bin .sub (.t 48) (.t 50),none⟩,
⟨some 52,.cp (.t 9),none⟩,
⟨some 53,.bin .shr (.t 51) (.t 52),none⟩,
⟨some 54,.bin .and (.t 53) (.c (.s (.int .i64 1))),none⟩,
⟨some 55,.conv .u8 (.t 54),none⟩,
⟨some 56,.cp (.t 10),none⟩,
⟨some 57,.bin .rem (.t 56) (.c (.s (.int .i64 8))),none⟩,
⟨some 58,.bin .shl (.t 55) (.t 57),none⟩,
⟨some 59,.bin .or (.t 47) (.t 58),none⟩,
⟨some 60,.iaddr 1 (.t 43) (.t 45),none⟩,
⟨none,.store 1 (.t 60) (.t 59),none⟩] (some [])))))
(.region [
⟨some 61,.bin .add (.t 35) (.c (.s (.int .i64 1))),none⟩,
⟨some 35,.cp (.t 61),none⟩] (none)))))
def zzi_:XC :=
(.seq (.region [
⟨some 30,.bin .lss (.t 29) (.t 28),none⟩] (none))
(.seq (.cond (.t 30)
.skip
(.exit 0))
(.seq (.block 1
(.seq (.region [
⟨some 31,.cp (.t 29),none⟩,
⟨some 32,.iaddr 1 (.t 27) (.t 29),none⟩,
⟨some 33,.load 1 false (.t 32),none⟩,
⟨some 7,.cp (.t 31),none⟩,
⟨some 8,.cp (.t 33),none⟩] (none))
(.seq (.region [
⟨some 34,.cp (.t 5),none⟩,
⟨some 35,.cp (.c (.s (.int .i64 0))),none⟩] (none))
(.block 2
(.loop zzh_)))))
(.region [
⟨some 62,.bin .add (.t 29) (.c (.s (.int .i64 1))),none⟩,
⟨some 29,.cp (.t 62),none⟩] (none)))))
def zow_:XF:={ np:=2,results:=[],body :=
(.seq (.region [
⟨some 11,.cp (.t 1),none⟩,
⟨some 12,.call false zvy_ [(.t 11)],none⟩,
⟨some 4,.alloc [.s (.int .i64 0),.s (.int .i64 0)],none⟩,
⟨none,.store 2 (.t 4) (.t 12),none⟩] (none))
(.seq (.region [
⟨some 13,.faddr (.t 4) 1,none⟩,
⟨some 14,.load 1 false (.t 13),none⟩,
⟨some 15,.faddr (.t 4) 0,none⟩,
⟨some 16,.load 1 false (.t 15),none⟩,
⟨some 17,.bin .sub (.t 14) (.t 16),none⟩,
⟨some 18,.conv .u64 (.t 17),none⟩,
⟨some 19,.call false zwd_ [(.t 18)],none⟩,
⟨some 5,.cp (.t 19),none⟩] (none))
(.seq (.region [
⟨some 20,.cp (.t 1),none⟩,
⟨some 21,.len false (.t 20),none⟩,
⟨some 22,.cp (.t 5),none⟩,
⟨some 23,.bin .mul (.t 21) (.t 22),none⟩,
⟨some 24,.bin .add (.t 23) (.c (.s (.int .i64 7))),none⟩,
⟨some 25,.bin .quo (.t 24) (.c (.s (.int .i64 8))),none⟩,
⟨some 26,.mkslice 1 (.s (.int .u8 0)) 140737488355328 (.t 25) (.t 25),none⟩,
⟨some 6,.cp (.t 26),none⟩] (none))
(.seq (.seq (.region [
⟨some 27,.cp (.t 1),none⟩,
⟨some 28,.len false (.t 27),none⟩,
⟨some 29,.cp (.c (.s (.int .i64 0))),none⟩] (none))
(.block 0
(.loop zzi_)))
(.seq (.region [
⟨some 63,.cp (.t 0),none⟩,
⟨some 64,.cp (.t 1),none⟩,
⟨some 65,.len false (.t 64),none⟩,
⟨some 66,.call false zbn_ [(.t 63),(.t 65)],none⟩] (none))
(.seq (.region [
⟨some 67,.cp (.t 0),none⟩,
⟨some 68,.faddr (.t 4) 0,none⟩,
⟨some 69,.load 1 false (.t 68),none⟩,
⟨some 70,.call false zbn_ [(.t 67),(.t 69)],none⟩] (none))
(.seq (.region [
⟨some 71,.cp (.t 0),none⟩,
⟨some 72,.cp (.t 5),none⟩,
⟨some 73,.call false zbn_ [(.t 71),(.t 72)],none⟩] (none))
(.region [
⟨some 74,.cp (.t 0),none⟩,
⟨some 75,.cp (.t 6),none⟩,
⟨some 76,.toStr (.t 75),none⟩,
⟨some 77,.call false zek_ [(.t 74),(.t 76)],none⟩] (none))))))))) }
def zji_:XC :=
(.seq (.seq (.region [
⟨some 10,.cp (.t 4),none⟩,
⟨some 11,.faddr (.t 1) 2,none⟩,
⟨some 12,.load 1 false (.t 11),none⟩,
⟨some 13,.len false (.t 12),none⟩,
⟨some 14,.bin .lss (.t 10) (.t 13),none⟩] (none))
(.cond (.t 14)
.skip
(.exit 0)))
(.seq (.block 1
(.seq (.region [
⟨some 17,.faddr (.t 1) 2,none⟩,
⟨some 18,.load 1 false (.t 17),none⟩,
⟨some 19,.cp (.t 4),none⟩,
⟨some 20,.iaddr 11 (.t 18) (.t 19),none⟩,
⟨some 21,.load 11 true (.t 20),none⟩,
⟨some 5,.alloc [.s (.int .u8 0),.s (.int .u8 0),.s (.int .u8 0),.s (.int .u8 0),.s (.int .u8 0),.s (.int .u8 0),.s (.int .u8 0),.s (.int .u8 0),.s (.int .u8 0),.s (.int .u8 0),.s (.bool false)],none⟩,
⟨none,.store 11 (.t 5) (.t 21),none⟩] (none))
(.seq (.region [
⟨some 22,.faddr (.t 1) 1,none⟩,
⟨some 23,.load 1 false (.t 22),none⟩,
⟨some 24,.bin .rem (.t 23) (.c (.s (.int .u8 32))),none⟩,
⟨some 25,.conv .i64 (.t 24),none⟩,
⟨some 26,.bin .add (.c (.s (.int .i64 1000))) (.t 25),none⟩,
⟨some 6,.cp (.t 26),none⟩] (none))
(.seq (.seq (.region [
⟨some 27,.faddr (.t 5) 0,none⟩,
⟨some 28,.load 1 false (.t 27),none⟩,
⟨some 29,.conv .i64 (.t 28),none⟩,
⟨some 30,.cp (.t 4),none⟩,
⟨some 31,.bin .add (.t 30) (.c (.s (.int .i64 1))),none⟩,
⟨some 32,.bin .rem (.t 29) (.t 31),none⟩,
⟨some 7,.cp (.t 32),none⟩] (none))
(.seq (.region [
⟨some 33,.cp (.t 7),none⟩,
⟨some 34,.cp (.t 4),none⟩,
⟨some 35,.bin .lss (.t 33) (.t 34),none⟩] (none))
(.cond (.t 35)
(.region [
⟨some 36,.cp (.t 2),none⟩,
⟨some 37,.cp (.t 7),none⟩,
⟨some 38,.iaddr 1 (.t 36) (.t 37),none⟩,
⟨some 39,.load 1 false (.t 38),none⟩,
⟨some 6,.cp (.t 39),none⟩] (none))
.skip)))
(.seq (.seq (.region [
⟨some 40,.cp (.t 4),none⟩,
⟨some 41,.bin .gtr (.t 40) (.c (.s (.int .i64 0))),none⟩] (none))
(.cond (.t 41)
(.region [
⟨some 42,.cp (.t 6),none⟩,
⟨some 43,.faddr (.t 5) 6,none⟩,
⟨some 44,.load 1 false (.t 43),none⟩,
⟨some 45,.bin .rem (.t 44) (.c (.s (.int .u8 32))),none⟩,
⟨some 46,.conv .i64 (.t 45),none⟩,
⟨some 47,.bin .add (.t 42) (.t 46),none⟩,
⟨some 6,.cp (.t 47),none⟩] (none))
.skip))
(.region [
⟨some 48,.cp (.t 2),none⟩,
⟨some 49,.cp (.t 6),none⟩,
⟨some 50,.bslice false 1 [(.t 49)],none⟩,
⟨some 51,.append 1 17592186044416 (.t 48) (.t 50),none⟩,
⟨some 52,.cp (.t 3),none⟩,
⟨some 53,.cp (.t 6),none⟩,
⟨some 54,.faddr (.t 5) 7,none⟩,
⟨some 55,.load 1 false (.t 54),none⟩,
⟨some 56,.bin .rem (.t 55) (.c (.s (.int .u8 32))),none⟩,
⟨some 57,.conv .i64 (.t 56),none⟩,
⟨some 58,.bin .add (.t 53) (.t 57),none⟩,
⟨some 59,.bslice false 1 [(.t 58)],none⟩,
⟨some 60,.append 1 17592186044416 (.t 52) (.t 59),none⟩,
⟨some 2,.cp (.t 51),none⟩,
⟨some 3,.cp (.t 60),none⟩] (some [(3,some 7)])))))))
(.region [
⟨some 15,.cp (.t 4),none⟩,
⟨some 16,.bin .add (.t 15) (.c (.s (.int .i64 1))),none⟩,
⟨some 4,.cp (.t 16),none⟩] (none))))
def zdr_:XC :=
(.seq (.seq (.region [
⟨some 65,.cp (.t 8),none⟩,
⟨some 66,.bin .gtr (.t 65) (.c (.s (.int .i64 0))),none⟩] (none))
(.cond (.t 66)
.skip
(.exit 2)))
(.seq (.block 3
(.seq (.region [
⟨some 69,.faddr (.t 1) 2,none⟩,
⟨some 70,.load 1 false (.t 69),none⟩,
⟨some 71,.cp (.t 8),none⟩,
⟨some 72,.iaddr 11 (.t 70) (.t 71),none⟩,
⟨some 73,.faddr (.t 72) 0,none⟩,
⟨some 74,.load 1 false (.t 73),none⟩,
⟨some 75,.conv .i64 (.t 74),none⟩,
⟨some 76,.cp (.t 8),none⟩,
⟨some 77,.bin .add (.t 76) (.c (.s (.int .i64 1))),none⟩,
⟨some 78,.bin .rem (.t 75) (.t 77),none⟩,
⟨some 9,.cp (.t 78),none⟩] (none))
(.seq (.region [
⟨some 79,.cp (.t 9),none⟩,
⟨some 80,.cp (.t 8),none⟩,
⟨some 81,.bin .lss (.t 79) (.t 80),none⟩,
⟨some 82,.cp (.t 81),none⟩,
⟨some 83,.faddr (.t 1) 2,some (82,true)⟩,
⟨some 84,.load 1 false (.t 83),some (82,true)⟩,
⟨some 85,.cp (.t 8),some (82,true)⟩,
⟨some 86,.iaddr 11 (.t 84) (.t 85),some (82,true)⟩,
⟨some 87,.load 11 true (.t 86),some (82,true)⟩,
⟨some 88,.call false zkv_ [(.t 87)],some (82,true)⟩,
⟨some 89,.bin .eql (.t 88) (.c (.s (.int .i64 3))),some (82,true)⟩,
⟨some 90,.pick (.t 82) (.t 89) (.c (.s (.bool false))),none⟩,
⟨some 91,.cp (.t 90),none⟩,
⟨some 92,.faddr (.t 1) 2,some (91,true)⟩,
⟨some 93,.load 1 false (.t 92),some (91,true)⟩,
⟨some 94,.cp (.t 9),some (91,true)⟩,
⟨some 95,.iaddr 11 (.t 93) (.t 94),some (91,true)⟩,
⟨some 96,.load 11 true (.t 95),some (91,true)⟩,
⟨some 97,.call false zkv_ [(.t 96)],some (91,true)⟩,
⟨some 98,.bin .eql (.t 97) (.c (.s (.int .i64 2))),some (91,true)⟩,
⟨some 99,.pick (.t 91) (.t 98) (.c (.s (.bool false))),none⟩,
⟨some 100,.cp (.t 99),none⟩,
⟨some 101,.faddr (.t 1) 2,some (100,true)⟩,
⟨some 102,.load 1 false (.t 101),some (100,true)⟩,
⟨some 103,.cp (.t 9),some (100,true)⟩,
⟨some 104,.iaddr 11 (.t 102) (.t 103),some (100,true)⟩,
⟨some 105,.faddr (.t 104) 10,some (100,true)⟩,
⟨some 106,.load 1 false (.t 105),some (100,true)⟩,
⟨some 107,.un .not (.t 106),some (100,true)⟩,
⟨some 108,.pick (.t 100) (.t 107) (.c (.s (.bool false))),none⟩] (none))
(.cond (.t 108)
(.region [
⟨some 109,.cp (.t 3),none⟩,
⟨some 110,.cp (.t 9),none⟩,
⟨some 111,.cp (.t 3),none⟩,
⟨some 112,.cp (.t 9),none⟩,
⟨some 113,.iaddr 1 (.t 111) (.t 112),none⟩,
⟨some 114,.load 1 false (.t 113),none⟩,
⟨some 115,.cp (.t 3),none⟩,
⟨some 116,.cp (.t 8),none⟩,
⟨some 117,.iaddr 1 (.t 115) (.t 116),none⟩,
⟨some 118,.load 1 false (.t 117),none⟩,
⟨some 119,.minmax true [(.t 114),(.t 118)],none⟩,
⟨some 120,.iaddr 1 (.t 109) (.t 110),none⟩,
⟨none,.store 1 (.t 120) (.t 119),none⟩] (some []))
.skip))))
(.region [
⟨some 67,.cp (.t 8),none⟩,
⟨some 68,.bin .sub (.t 67) (.c (.s (.int .i64 1))),none⟩,
⟨some 8,.cp (.t 68),none⟩] (none))))
def zox_:XF:={ np:=1,results:=[(.inl 2,.v),(.inl 3,.v)],body :=
(.seq (.region [
⟨some 1,.box false (.t 0),none⟩,
⟨some 2,.cp (.c (.s (.slice none 0 0))),none⟩,
⟨some 3,.cp (.c (.s (.slice none 0 0))),none⟩] (none))
(.seq (.seq (.region [
⟨some 4,.cp (.c (.s (.int .i64 0))),none⟩] (none))
(.block 0
(.loop zji_)))
(.seq (.seq (.region [
⟨some 61,.faddr (.t 1) 2,none⟩,
⟨some 62,.load 1 false (.t 61),none⟩,
⟨some 63,.len false (.t 62),none⟩,
⟨some 64,.bin .sub (.t 63) (.c (.s (.int .i64 1))),none⟩,
⟨some 8,.cp (.t 64),none⟩] (none))
(.block 2
(.loop zdr_)))
(.seq (.region [
⟨some 121,.cp (.t 2),none⟩,
⟨some 122,.cp (.t 3),none⟩,
⟨some 2,.cp (.t 121),none⟩,
⟨some 3,.cp (.t 122),none⟩] (none))
.ret)))) }
def zcw_:XF:={ np:=5,results:=[(.inr (10,14,true),.v)],body :=
(.seq (.region [
⟨some 5,.box false (.t 0),none⟩,
⟨some 10,.alloc [.s (.int .i64 0),.s (.int .i64 0),.s (.int .i64 0),.s (.int .i64 0),.s (.int .i64 0),.s (.int .i64 0),.s (.string ⟨#[]⟩),.s (.string ⟨#[]⟩),.s (.string ⟨#[]⟩),.s (.int .i64 0),.s (.int .i64 0),.s (.bool false),.s (.slice none 0 0),.s (.slice none 0 0)],none⟩] (none))
(.seq (.region [
⟨some 15,.faddr (.t 5) 0,none⟩,
⟨some 16,.load 1 false (.t 15),none⟩,
⟨some 17,.cp (.t 1),none⟩,
⟨some 18,.iaddr 3 (.t 16) (.t 17),none⟩,
⟨some 19,.faddr (.t 18) 2,none⟩,
⟨some 20,.load 1 false (.t 19),none⟩,
⟨some 21,.cp (.t 2),none⟩,
⟨some 22,.iaddr 11 (.t 20) (.t 21),none⟩,
⟨some 23,.load 11 true (.t 22),none⟩,
⟨some 11,.alloc [.s (.int .u8 0),.s (.int .u8 0),.s (.int .u8 0),.s (.int .u8 0),.s (.int .u8 0),.s (.int .u8 0),.s (.int .u8 0),.s (.int .u8 0),.s (.int .u8 0),.s (.int .u8 0),.s (.bool false)],none⟩,
⟨none,.store 11 (.t 11) (.t 23),none⟩] (none))
(.seq (.region [
⟨some 24,.load 7 true (.t 5),none⟩,
⟨some 25,.cp (.t 1),none⟩,
⟨some 26,.call false zen_ [(.t 24),(.t 25)],none⟩,
⟨some 27,.cp (.t 2),none⟩,
⟨some 28,.bin .add (.t 27) (.c (.s (.int .i64 1))),none⟩,
⟨some 29,.faddr (.t 11) 1,none⟩,
⟨some 30,.load 1 false (.t 29),none⟩,
⟨some 31,.bin .rem (.t 30) (.c (.s (.int .u8 4))),none⟩,
⟨some 32,.conv .i64 (.t 31),none⟩,
⟨some 33,.bin .add (.c (.s (.int .i64 1))) (.t 32),none⟩,
⟨some 34,.load 11 true (.t 11),none⟩,
⟨some 35,.call false zkv_ [(.t 34)],none⟩,
⟨some 36,.faddr (.t 11) 10,none⟩,
⟨some 37,.load 1 false (.t 36),none⟩,
⟨some 38,.cp (.t 3),none⟩,
⟨some 39,.cp (.t 2),none⟩,
⟨some 40,.iaddr 1 (.t 38) (.t 39),none⟩,
⟨some 41,.load 1 false (.t 40),none⟩,
⟨some 42,.cp (.t 4),none⟩,
⟨some 43,.cp (.t 2),none⟩,
⟨some 44,.iaddr 1 (.t 42) (.t 43),none⟩,
⟨some 45,.load 1 false (.t 44),none⟩,
⟨some 46,.build false [.s (.int .i64 0),.s (.int .i64 0),.s (.int .i64 0),.s (.int .i64 0),.s (.int .i64 0),.s (.int .i64 0),.s (.string ⟨#[]⟩),.s (.string ⟨#[]⟩),.s (.string ⟨#[]⟩),.s (.int .i64 0),.s (.int .i64 0),.s (.bool false),.s (.slice none 0 0),.s (.slice none 0 0)] [(0,1,(.t 26)),(1,1,(.t 28)),(4,1,(.t 33)),(5,1,(.t 35)),(11,1,(.t 37)),(9,1,(.t 41)),(10,1,(.t 45))],none⟩,
⟨some 12,.alloc [.s (.int .i64 0),.s (.int .i64 0),.s (.int .i64 0),.s (.int .i64 0),.s (.int .i64 0),.s (.int .i64 0),.s (.string ⟨#[]⟩),.s (.string ⟨#[]⟩),.s (.string ⟨#[]⟩),.s (.int .i64 0),.s (.int .i64 0),.s (.bool false),.s (.slice none 0 0),.s (.slice none 0 0)],none⟩,
⟨none,.store 14 (.t 12) (.t 46),none⟩] (some [(2,none),(11,none),(23,some 0),(23,some 6),(23,some 10),(23,some 13),(23,some 16),(23,some 17),(23,some 20),(23,some 21)]))
(.seq (.region [
⟨some 47,.bslice false 1 [(.c (.s (.string ⟨#[97,112,105]⟩))),(.c (.s (.string ⟨#[100,98]⟩))),(.c (.s (.string ⟨#[119,101,98]⟩))),(.c (.s (.string ⟨#[99,97,99,104,101]⟩)))],none⟩,
⟨some 48,.faddr (.t 11) 3,none⟩,
⟨some 49,.load 1 false (.t 48),none⟩,
⟨some 50,.bin .rem (.t 49) (.c (.s (.int .u8 4))),none⟩,
⟨some 51,.iaddr 1 (.t 47) (.t 50),none⟩,
⟨some 52,.load 1 false (.t 51),none⟩,
⟨some 53,.faddr (.t 12) 6,none⟩,
⟨none,.store 1 (.t 53) (.t 52),none⟩] (none))
(.seq (.region [
⟨some 54,.bslice false 1 [(.c (.s (.string ⟨#[118,49]⟩))),(.c (.s (.string ⟨#[118,50]⟩))),(.c (.s (.string ⟨#[]⟩)))],none⟩,
⟨some 55,.faddr (.t 11) 4,none⟩,
⟨some 56,.load 1 false (.t 55),none⟩,
⟨some 57,.bin .rem (.t 56) (.c (.s (.int .u8 3))),none⟩,
⟨some 58,.iaddr 1 (.t 54) (.t 57),none⟩,
⟨some 59,.load 1 false (.t 58),none⟩,
⟨some 60,.faddr (.t 12) 7,none⟩,
⟨none,.store 1 (.t 60) (.t 59),none⟩] (none))
(.seq (.region [
⟨some 61,.bslice false 1 [(.c (.s (.string ⟨#[103,101,116]⟩))),(.c (.s (.string ⟨#[112,117,116]⟩))),(.c (.s (.string ⟨#[108,105,115,116]⟩)))],none⟩,
⟨some 62,.faddr (.t 11) 5,none⟩,
⟨some 63,.load 1 false (.t 62),none⟩,
⟨some 64,.bin .rem (.t 63) (.c (.s (.int .u8 3))),none⟩,
⟨some 65,.iaddr 1 (.t 61) (.t 64),none⟩,
⟨some 66,.load 1 false (.t 65),none⟩,
⟨some 67,.faddr (.t 12) 8,none⟩,
⟨none,.store 1 (.t 67) (.t 66),none⟩] (none))
(.seq (.seq (.region [
⟨some 68,.faddr (.t 11) 0,none⟩,
⟨some 69,.load 1 false (.t 68),none⟩,
⟨some 70,.conv .i64 (.t 69),none⟩,
⟨some 71,.cp (.t 2),none⟩,
⟨some 72,.bin .add (.t 71) (.c (.s (.int .i64 1))),none⟩,
⟨some 73,.bin .rem (.t 70) (.t 72),none⟩,
⟨some 13,.cp (.t 73),none⟩] (none))
(.seq (.region [
⟨some 74,.cp (.t 13),none⟩,
⟨some 75,.cp (.t 2),none⟩,
⟨some 76,.bin .lss (.t 74) (.t 75),none⟩] (none))
(.cond (.t 76)
(.region [
⟨some 77,.cp (.t 13),none⟩,
⟨some 78,.bin .add (.t 77) (.c (.s (.int .i64 1))),none⟩,
⟨some 79,.faddr (.t 12) 2,none⟩,
⟨none,.store 1 (.t 79) (.t 78),none⟩] (none))
(.seq (.region [
⟨some 80,.cp (.t 2),none⟩,
⟨some 81,.bin .gtr (.t 80) (.c (.s (.int .i64 0))),none⟩] (none))
(.cond (.t 81)
(.region [
⟨some 82,.faddr (.t 12) 2,none⟩,
⟨none,.store 1 (.t 82) (.c (.s (.int .i64 100))),none⟩] (none))
.skip)))))
(.seq (.seq (.region [
⟨some 83,.faddr (.t 11) 8,none⟩,
⟨some 84,.load 1 false (.t 83),none⟩,
⟨some 85,.bin .rem (.t 84) (.c (.s (.int .u8 16))),none⟩,
⟨some 86,.conv .i64 (.t 85),none⟩,
⟨some 14,.cp (.t 86),none⟩] (none))
(.seq (.region [
⟨some 87,.cp (.t 14),none⟩,
⟨some 88,.cp (.t 2),none⟩,
⟨some 89,.bin .lss (.t 87) (.t 88),none⟩,
⟨some 90,.cp (.t 89),none⟩,
⟨some 91,.cp (.t 3),some (90,true)⟩,
⟨some 92,.cp (.t 14),some (90,true)⟩,
⟨some 93,.iaddr 1 (.t 91) (.t 92),some (90,true)⟩,
⟨some 94,.load 1 false (.t 93),some (90,true)⟩,
⟨some 95,.cp (.t 3),some (90,true)⟩,
⟨some 96,.cp (.t 2),some (90,true)⟩,
⟨some 97,.iaddr 1 (.t 95) (.t 96),some (90,true)⟩,
⟨some 98,.load 1 false (.t 97),some (90,true)⟩,
⟨some 99,.bin .leq (.t 94) (.t 98),some (90,true)⟩,
⟨some 100,.pick (.t 90) (.t 99) (.c (.s (.bool false))),none⟩] (some []))
(.cond (.t 100)
(.region [
⟨some 101,.faddr (.t 12) 0,none⟩,
⟨some 102,.load 1 false (.t 101),none⟩,
⟨some 103,.cp (.t 14),none⟩,
⟨some 104,.bin .add (.t 103) (.c (.s (.int .i64 1))),none⟩,
⟨some 105,.build false [.s (.int .i64 0),.s (.int .i64 0)] [(0,1,(.t 102)),(1,1,(.t 104))],none⟩,
⟨some 106,.bslice false 2 [(.t 105)],none⟩,
⟨some 107,.faddr (.t 12) 13,none⟩,
⟨none,.store 1 (.t 107) (.t 106),none⟩] (none))
.skip)))
(.seq (.region [
⟨some 108,.load 11 true (.t 11),none⟩,
⟨some 109,.call false zxo_ [(.t 108)],none⟩,
⟨some 110,.faddr (.t 12) 12,none⟩,
⟨none,.store 1 (.t 110) (.t 109),none⟩] (none))
(.seq (.region [
⟨some 111,.load 14 true (.t 12),none⟩,
⟨none,.store 14 (.t 10) (.t 111),none⟩] (none))
.ret)))))))))) }
def zjj_:XF:={ np:=1,results:=[(.inr (2,2,true),.v)],body :=
(.seq (.region [
⟨some 2,.alloc [.s (.int .i64 0),.s (.int .i64 0)],none⟩] (none))
(.seq (.seq (.region [
⟨some 3,.cp (.t 0),none⟩,
⟨some 4,.len false (.t 3),none⟩,
⟨some 5,.bin .eql (.t 4) (.c (.s (.int .i64 0))),none⟩] (none))
(.cond (.t 5)
(.seq (.region [
⟨some 6,.build false [.s (.int .i64 0),.s (.int .i64 0)] [],none⟩,
⟨none,.store 2 (.t 2) (.t 6),none⟩] (none))
.ret)
.skip))
(.seq (.region [
⟨some 7,.cp (.t 0),none⟩,
⟨some 8,.call false zwa_ [(.t 7)],none⟩,
⟨some 9,.cp (.t 0),none⟩,
⟨some 10,.call false zwb_ [(.t 9)],none⟩,
⟨some 11,.build false [.s (.int .i64 0),.s (.int .i64 0)] [(0,1,(.t 8)),(1,1,(.t 10))],none⟩,
⟨none,.store 2 (.t 2) (.t 11),none⟩] (none))
.ret))) }
def zoy_:XF:={ np:=1,results:=[(.inl 2,.v)],body :=
(.seq (.region [
⟨some 1,.box false (.t 0),none⟩,
⟨some 2,.cp (.c (.s (.int .i64 0))),none⟩] (none))
(.seq (.region [
⟨some 3,.faddr (.t 1) 2,none⟩,
⟨some 4,.load 1 false (.t 3),none⟩,
⟨some 5,.bin .rem (.t 4) (.c (.s (.int .u8 5))),none⟩,
⟨some 6,.conv .i64 (.t 5),none⟩,
⟨some 7,.bin .add (.c (.s (.int .i64 1))) (.t 6),none⟩,
⟨some 2,.cp (.t 7),none⟩] (none))
.ret)) }
def zoz_:XF:={ np:=1,results:=[(.inl 2,.v)],body :=
(.seq (.region [
⟨some 1,.box false (.t 0),none⟩,
⟨some 2,.cp (.c (.s (.slice none 0 0))),none⟩] (none))
(.seq (.region [
⟨some 4,.faddr (.t 1) 9,none⟩,
⟨some 5,.load 1 false (.t 4),none⟩,
⟨some 6,.bin .quo (.t 5) (.c (.s (.int .u8 4))),none⟩,
⟨some 7,.bin .rem (.t 6) (.c (.s (.int .u8 2))),none⟩,
⟨some 8,.conv .i64 (.t 7),none⟩,
⟨some 9,.build false [.s (.int .i64 0),.s (.string ⟨#[]⟩),.s (.int .i64 0)] [(0,1,(.c (.s (.int .i64 3)))),(2,1,(.t 8))],none⟩,
⟨some 10,.build false [.s (.string ⟨#[]⟩),.s (.int .i64 0),.s (.string ⟨#[]⟩),.s (.int .i64 0)] [(0,1,(.c (.s (.string ⟨#[111,107]⟩)))),(1,3,(.t 9))],none⟩,
⟨some 11,.faddr (.t 1) 9,none⟩,
⟨some 12,.load 1 false (.t 11),none⟩,
⟨some 13,.conv .i64 (.t 12),none⟩,
⟨some 14,.bin .sub (.t 13) (.c (.s (.int .i64 100))),none⟩,
⟨some 15,.build false [.s (.int .i64 0),.s (.string ⟨#[]⟩),.s (.int .i64 0)] [(0,1,(.c (.s (.int .i64 2)))),(2,1,(.t 14))],none⟩,
⟨some 16,.build false [.s (.string ⟨#[]⟩),.s (.int .i64 0),.s (.string ⟨#[]⟩),.s (.int .i64 0)] [(0,1,(.c (.s (.string ⟨#[115,105,122,101]⟩)))),(1,3,(.t 15))],none⟩,
⟨some 17,.bslice false 1 [(.c (.s (.string ⟨#[97]⟩))),(.c (.s (.string ⟨#[98]⟩))),(.c (.s (.string ⟨#[119,101,115,116,32,49]⟩)))],none⟩,
⟨some 18,.faddr (.t 1) 9,none⟩,
⟨some 19,.load 1 false (.t 18),none⟩,
⟨some 20,.bin .quo (.t 19) (.c (.s (.int .u8 8))),none⟩,
⟨some 21,.bin .rem (.t 20) (.c (.s (.int .u8 3))),none⟩,
⟨some 22,.iaddr 1 (.t 17) (.t 21),none⟩,
⟨some 23,.load 1 false (.t 22),none⟩,
⟨some 24,.build false [.s (.int .i64 0),.s (.string ⟨#[]⟩),.s (.int .i64 0)] [(0,1,(.c (.s (.int .i64 1)))),(1,1,(.t 23))],none⟩,
⟨some 25,.build false [.s (.string ⟨#[]⟩),.s (.int .i64 0),.s (.string ⟨#[]⟩),.s (.int .i64 0)] [(0,1,(.c (.s (.string ⟨#[122,111,110,101]⟩)))),(1,3,(.t 24))],none⟩,
⟨some 26,.bslice false 4 [(.t 10),(.t 16),(.t 25)],none⟩,
⟨some 3,.cp (.t 26),none⟩] (some []))
(.seq (.region [
⟨some 27,.cp (.t 3),none⟩,
⟨some 28,.faddr (.t 1) 9,none⟩,
⟨some 29,.load 1 false (.t 28),none⟩,
⟨some 30,.bin .rem (.t 29) (.c (.s (.int .u8 4))),none⟩,
⟨some 31,.slLst 4 (.t 27) none (some (.t 30)),none⟩,
⟨some 2,.cp (.t 31),none⟩] (none))
.ret))) }
def zzj_:XC :=
(.seq (.seq (.region [
⟨some 12,.cp (.t 4),none⟩,
⟨some 13,.cp (.t 0),none⟩,
⟨some 14,.len false (.t 13),none⟩,
⟨some 15,.bin .lss (.t 12) (.t 14),none⟩] (none))
(.cond (.t 15)
.skip
(.exit 0)))
(.seq (.block 1
(.region [
⟨some 18,.cp (.t 3),none⟩,
⟨some 19,.cp (.t 0),none⟩,
⟨some 20,.cp (.t 4),none⟩,
⟨some 21,.iaddr 1 (.t 19) (.t 20),none⟩,
⟨some 22,.load 1 false (.t 21),none⟩,
⟨some 23,.minmax false [(.t 18),(.t 22)],none⟩,
⟨some 3,.cp (.t 23),none⟩] (none)))
(.region [
⟨some 16,.cp (.t 4),none⟩,
⟨some 17,.bin .add (.t 16) (.c (.s (.int .i64 1))),none⟩,
⟨some 4,.cp (.t 17),none⟩] (none))))
def zpa_:XF:={ np:=1,results:=[(.inl 2,.v)],body :=
(.seq (.region [
⟨some 2,.cp (.c (.s (.int .i64 0))),none⟩] (none))
(.seq (.seq (.region [
⟨some 5,.cp (.t 0),none⟩,
⟨some 6,.len false (.t 5),none⟩,
⟨some 7,.bin .lss (.t 6) (.c (.s (.int .i64 1))),none⟩] (none))
(.cond (.t 7)
(.region [
⟨some 8,.slArr 0 (.c (.s (.slice none 0 0))),none⟩,
⟨none,.slArr 0 (.c (.s (.slice none 0 0))),none⟩] (none))
.skip))
(.seq (.region [
⟨some 9,.cp (.t 0),none⟩,
⟨some 10,.iaddr 1 (.t 9) (.c (.s (.int .i64 0))),none⟩,
⟨some 11,.load 1 false (.t 10),none⟩,
⟨some 3,.cp (.t 11),none⟩] (none))
(.seq (.seq (.region [
⟨some 4,.cp (.c (.s (.int .i64 1))),none⟩] (none))
(.block 0
(.loop zzj_)))
(.seq (.region [
⟨some 24,.cp (.t 3),none⟩,
⟨some 2,.cp (.t 24),none⟩] (none))
.ret))))) }
def zzk_:XC :=
(.seq (.seq (.region [
⟨some 12,.cp (.t 4),none⟩,
⟨some 13,.cp (.t 0),none⟩,
⟨some 14,.len false (.t 13),none⟩,
⟨some 15,.bin .lss (.t 12) (.t 14),none⟩] (none))
(.cond (.t 15)
.skip
(.exit 0)))
(.seq (.block 1
(.region [
⟨some 18,.cp (.t 3),none⟩,
⟨some 19,.cp (.t 0),none⟩,
⟨some 20,.cp (.t 4),none⟩,
⟨some 21,.iaddr 1 (.t 19) (.t 20),none⟩,
⟨some 22,.load 1 false (.t 21),none⟩,
⟨some 23,.minmax true [(.t 18),(.t 22)],none⟩,
⟨some 3,.cp (.t 23),none⟩] (none)))
(.region [
⟨some 16,.cp (.t 4),none⟩,
⟨some 17,.bin .add (.t 16) (.c (.s (.int .i64 1))),none⟩,
⟨some 4,.cp (.t 17),none⟩] (none))))
def zpb_:XF:={ np:=1,results:=[(.inl 2,.v)],body :=
(.seq (.region [
⟨some 2,.cp (.c (.s (.int .i64 0))),none⟩] (none))
(.seq (.seq (.region [
⟨some 5,.cp (.t 0),none⟩,
⟨some 6,.len false (.t 5),none⟩,
⟨some 7,.bin .lss (.t 6) (.c (.s (.int .i64 1))),none⟩] (none))
(.cond (.t 7)
(.region [
⟨some 8,.slArr 0 (.c (.s (.slice none 0 0))),none⟩,
⟨none,.slArr 0 (.c (.s (.slice none 0 0))),none⟩] (none))
.skip))
(.seq (.region [
⟨some 9,.cp (.t 0),none⟩,
⟨some 10,.iaddr 1 (.t 9) (.c (.s (.int .i64 0))),none⟩,
⟨some 11,.load 1 false (.t 10),none⟩,
⟨some 3,.cp (.t 11),none⟩] (none))
(.seq (.seq (.region [
⟨some 4,.cp (.c (.s (.int .i64 1))),none⟩] (none))
(.block 0
(.loop zzk_)))
(.seq (.region [
⟨some 24,.cp (.t 3),none⟩,
⟨some 2,.cp (.t 24),none⟩] (none))
.ret))))) }
def XPL:List (Option XF):=[none,none,none,none,none,none,none,none,none,some zmq_,some zip_,none,none,some zmh_,none,none,none,none,none,none,none,none,none,none,none,none,none,none,none,none,none,none,none,none,some zio_,none,none,none,none,none,none,none,none,none,none,none,none,some zja_,none,some ziy_,none,none,none,none,some zmi_,none,none,none,none,none,none,none,none,none,none,none,none,none,none,none,none,none,none,none,none,none,none,none,none,none,none,none,none,none,none,none,none,none,none,none,none,none,none,none,none,none,none,none,some ziz_,none,none,some znr_,none,none,none,none,none,none,none,none,none,none,none,none,none,some zje_,some zoi_,some zdj_,some zer_,none,none,none,none,some zjj_,none,none,none,none,none,none,none,none,none,none,some zop_,some zjg_,some zos_,some zot_,some zov_,some zow_,none,some zpa_,some zpb_,none,some zor_,some znp_,some zzb_,some zof_,none,none,none,none,none,none,none,none,none,some zaz_,none,none,some zmy_,none,some zma_,some zmw_,some znz_,none,none,none,none,none,none,some zax_,none,none,none,none,none,some znj_,none,none,none,none,none,none,some zie_,none,none,none,none,some zfw_,some zfx_,some zna_,some ziu_,some ziv_,none,some znv_,some znw_,some zga_,some zjc_,some zmd_,some znx_,some zny_,none,none,none,none,none,none,some zoe_,none,none,none,some zlo_,some zfp_,some zlp_,none,none,some zoj_,some zok_,some zol_,some zom_,some zog_,none,none,some zmx_,some zfu_,some zir_,some zis_,none,some ziw_,some zix_,some zjb_,some zyx_,some zyy_,some zze_,none,none,none,none,none,none,none,none,none,none,none,none,none,none,none,none,none,none,none,none,none,none,none,none,none,some zlq_,none,none,none,none,none,none,none,none,none,none,none,none,none,none,none,none,none,none,none,none,none,none,none,none,none,none,none,none,none,none,none,none,none,none,none,some zig_,some zlk_,none,some zlr_,none,none,none,none,none,none,none,none,none,none,none,none,none,none,none,none,none,none,none,none,none,none,none,none,none,some zll_,some zls_,some zlt_,some zlv_,some zmn_,some zbw_,some zmr_,some zmo_,some zeo_,some zms_,some zmc_,some zlx_,some zyk_,some zmb_,some zyl_,some zmt_,some zym_,some zlg_,some zmu_,some zyn_,some zyo_,some zyp_,some zmv_,some zyr_,some zys_,none,none,some zit_,some zmz_,none,none,none,none,none,none,none,none,none,none,some zyu_,none,none,none,some znb_,some zmg_,some zlw_,some zly_,some zlz_,some zns_,some zim_,some zyi_,some zfq_,some znt_,some znu_,some zyv_,some zyw_,none,none,none,none,some zoa_,some zob_,some zoc_,none,none,none,none,none,none,none,none,none,none,none,none,none,none,some znc_,some znd_,some zne_,some znf_,some zng_,some znh_,some zni_,some znk_,some znl_,some znm_,some znn_,some zno_,none,some zza_,some zzd_,none,none,some zoo_,none,none,none,none,none,none,none,none,none,none,none,none,none,none,none,none,none,none,none,none,none,none,none,some zoq_,none,none,none,none,none,none,none,some zox_,some zcw_,none,none,some zoy_,some zoz_,some zid_,none,none,none,none,none,none,none,none,some zla_,some zif_,some zld_,some zle_,some zlf_,some zih_,some zlh_,some zli_,none,none,none,none,none,none,none,none,none,none,none,none,none,none,none,none,none,some zlj_,none,none,some zlm_,some zln_,some zcc_,some zfr_,none,none,some zmf_,none,none,none,some zmj_,none,none,none,none,none,some zmk_,some zml_,some zmm_,none,some ziq_,some znq_,some zfz_,none,none,none,none,none,none,none,none,none,none]
def XP:Nat→Option XF:=fun n=>XPL.getD n none
theorem zcfi_:XP zbn_=some zmq_:=rfl
theorem zcfj_:XP zhi_=some zip_:=rfl
theorem zcfk_:XP zhj_=some zmh_:=rfl
theorem zcfl_:XP zek_=some zio_:=rfl
theorem zcfm_:XP zvt_=some zja_:=rfl
theorem zcfn_:XP zvu_=some ziy_:=rfl
theorem zcfo_:XP zrb_=some zmi_:=rfl
theorem zcfp_:XP zrc_=some ziz_:=rfl
theorem zcfq_:XP zrd_=some znr_:=rfl
theorem zcfr_:XP zvv_=some zje_:=rfl
theorem zcfs_:XP zvw_=some zoi_:=rfl
theorem zzl_:XP zhk_=some zdj_:=rfl
theorem zcft_:XP zvx_=some zer_:=rfl
theorem zbgu_:XP zvy_=some zjj_:=rfl
theorem zcfu_:XP zvz_=some zop_:=rfl
theorem zcfv_:XP zhl_=some zjg_:=rfl
theorem zcfw_:XP zhm_=some zos_:=rfl
theorem zcfx_:XP zhn_=some zot_:=rfl
theorem zcfy_:XP zho_=some zov_:=rfl
theorem zcfz_:XP zhp_=some zow_:=rfl
theorem zcga_:XP zwa_=some zpa_:=rfl
theorem zcgb_:XP zwb_=some zpb_:=rfl
theorem zcgc_:XP zwc_=some zor_:=rfl
theorem zcgd_:XP zwd_=some znp_:=rfl
theorem zcge_:XP zwe_=some zof_:=rfl
theorem zbh_:XP zre_=some zaz_:=rfl
theorem zcgf_:XP zfm_=some zmy_:=rfl
theorem zcgg_:XP zel_=some zma_:=rfl
theorem zcgh_:XP zrf_=some zmw_:=rfl
theorem zcgi_:XP zhq_=some znz_:=rfl
theorem zcgj_:XP zwf_=some zax_:=rfl
theorem zcgk_:XP zhr_=some znj_:=rfl
theorem zcgl_:XP zkd_=some zie_:=rfl
theorem zcgm_:XP zhs_=some zfw_:=rfl
theorem zcgn_:XP zht_=some zfx_:=rfl
theorem zcgo_:XP zwg_=some zna_:=rfl
theorem zcgp_:XP zwh_=some ziu_:=rfl
theorem zcgq_:XP zwi_=some ziv_:=rfl
theorem zcgr_:XP zhu_=some znv_:=rfl
theorem zcgs_:XP zrg_=some znw_:=rfl
theorem zcgt_:XP zfn_=some zga_:=rfl
theorem zcgu_:XP zdq_=some zjc_:=rfl
theorem zcgv_:XP zrh_=some zmd_:=rfl
theorem zcgw_:XP zwj_=some znx_:=rfl
theorem zcgx_:XP zwk_=some zny_:=rfl
theorem zcgy_:XP zri_=some zoe_:=rfl
theorem zcgz_:XP zwl_=some zlo_:=rfl
theorem zzm_:XP zwm_=some zfp_:=rfl
theorem zcha_:XP zrj_=some zlp_:=rfl
theorem zchb_:XP zhv_=some zoj_:=rfl
theorem zchc_:XP zrk_=some zok_:=rfl
theorem zchd_:XP zwn_=some zol_:=rfl
theorem zche_:XP zke_=some zom_:=rfl
theorem zchf_:XP zwo_=some zog_:=rfl
theorem zchg_:XP zwp_=some zmx_:=rfl
theorem zzn_:XP zkf_=some zfu_:=rfl
theorem zchh_:XP zwq_=some zir_:=rfl
theorem zbgv_:XP zfo_=some zis_:=rfl
theorem zchi_:XP zrl_=some ziw_:=rfl
theorem zchj_:XP zrm_=some zix_:=rfl
theorem zchk_:XP zwr_=some zjb_:=rfl
theorem zbgw_:XP zrn_=some zyx_:=rfl
theorem zchl_:XP zws_=some zze_:=rfl
theorem zchm_:XP zwt_=some zlq_:=rfl
theorem zchn_:XP zkg_=some zig_:=rfl
theorem zcho_:XP zwu_=some zlk_:=rfl
theorem zchp_:XP zro_=some zlr_:=rfl
theorem zchq_:XP zhw_=some zll_:=rfl
theorem zchr_:XP zrp_=some zls_:=rfl
theorem zchs_:XP zrq_=some zlt_:=rfl
theorem zcht_:XP zwv_=some zlv_:=rfl
theorem zchu_:XP zww_=some zmn_:=rfl
theorem zdk_:XP zem_=some zbw_:=rfl
theorem zchv_:XP zdg_=some zmr_:=rfl
theorem zchw_:XP zwx_=some zmo_:=rfl
theorem zsy_:XP zdh_=some zeo_:=rfl
theorem zchx_:XP zrr_=some zms_:=rfl
theorem zchy_:XP zwy_=some zmc_:=rfl
theorem zchz_:XP zhx_=some zlx_:=rfl
theorem zcia_:XP zrs_=some zmb_:=rfl
theorem zcib_:XP zrt_=some zmt_:=rfl
theorem zcic_:XP zdi_=some zlg_:=rfl
theorem zcid_:XP zkh_=some zmu_:=rfl
theorem zcie_:XP zki_=some zmv_:=rfl
theorem zcif_:XP zwz_=some zit_:=rfl
theorem zcig_:XP zxa_=some zmz_:=rfl
theorem zbgx_:XP zru_=some zyu_:=rfl
theorem zcih_:XP zxb_=some znb_:=rfl
theorem zcii_:XP zxc_=some zmg_:=rfl
theorem zcij_:XP zxd_=some zlw_:=rfl
theorem zcik_:XP zxe_=some zly_:=rfl
theorem zcil_:XP zxf_=some zlz_:=rfl
theorem zcim_:XP zrv_=some zns_:=rfl
theorem zcin_:XP zxg_=some zim_:=rfl
theorem zbgy_:XP zrw_=some zyi_:=rfl
theorem zzo_:XP zkj_=some zfq_:=rfl
theorem zcio_:XP zxh_=some znt_:=rfl
theorem zcip_:XP zxi_=some znu_:=rfl
theorem zciq_:XP zxj_=some zoa_:=rfl
theorem zcir_:XP zen_=some zob_:=rfl
theorem zcis_:XP zhy_=some zoc_:=rfl
theorem zcit_:XP zkk_=some znc_:=rfl
theorem zciu_:XP zkl_=some znd_:=rfl
theorem zciv_:XP zkm_=some zne_:=rfl
theorem zciw_:XP zkn_=some znf_:=rfl
theorem zcix_:XP zko_=some zng_:=rfl
theorem zciy_:XP zkp_=some znh_:=rfl
theorem zciz_:XP zkq_=some zni_:=rfl
theorem zcja_:XP zkr_=some znk_:=rfl
theorem zcjb_:XP zxk_=some znl_:=rfl
theorem zcjc_:XP zks_=some znm_:=rfl
theorem zcjd_:XP zkt_=some znn_:=rfl
theorem zcje_:XP zku_=some zno_:=rfl
theorem zcjf_:XP zxl_=some zoo_:=rfl
theorem zcjg_:XP zrx_=some zoq_:=rfl
theorem zcjh_:XP zxm_=some zox_:=rfl
theorem zcji_:XP zxn_=some zcw_:=rfl
theorem zcjj_:XP zkv_=some zoy_:=rfl
theorem zcjk_:XP zxo_=some zoz_:=rfl
theorem zcjl_:XP zry_=some zid_:=rfl
theorem zcjm_:XP zrz_=some zla_:=rfl
theorem zcjn_:XP zxp_=some zif_:=rfl
theorem zcjo_:XP zsa_=some zld_:=rfl
theorem zcjp_:XP zxq_=some zle_:=rfl
theorem zcjq_:XP zkw_=some zlf_:=rfl
theorem zbgz_:XP zhz_=some zih_:=rfl
theorem zcjr_:XP zia_=some zlh_:=rfl
theorem zcjs_:XP zib_=some zli_:=rfl
theorem zcjt_:XP zxr_=some zlj_:=rfl
theorem zcju_:XP zxs_=some zlm_:=rfl
theorem zcjv_:XP zxt_=some zln_:=rfl
theorem zds_:XP zxu_=some zcc_:=rfl
theorem zzp_:XP zxv_=some zfr_:=rfl
theorem zcjw_:XP zxw_=some zmf_:=rfl
theorem zcjx_:XP zxx_=some zmj_:=rfl
theorem zcjy_:XP zcv_=some zmk_:=rfl
theorem zcjz_:XP zkx_=some zml_:=rfl
theorem zcka_:XP zxy_=some zmm_:=rfl
theorem zckb_:XP zsb_=some ziq_:=rfl
theorem zckc_:XP zxz_=some znq_:=rfl
theorem zzq_:XP zic_=some zfz_:=rfl
end Go.Proofs.Sl
