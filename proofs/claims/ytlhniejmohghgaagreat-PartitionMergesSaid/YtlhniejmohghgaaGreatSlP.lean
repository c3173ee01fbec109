/- A part of the proof. -/
import Derived.Test.YtlhniejmohghgaaGreatSlA
set_option linter.unusedVariables false
set_option linter.unusedSimpArgs false
set_option linter.unnecessarySimpa false
namespace Go.Proofs.Sl
set_option maxRecDepth 100000
def zdf_ : Nat := 9
def zst_ : Nat := 10
def zsu_ : Nat := 30
def zom_ : Nat := 33
def zej_ : Nat := 34
def zsv_ : Nat := 35
def zsw_ : Nat := 47
def zdj_ : Nat := 48
def zjg_ : Nat := 55
def zdk_ : Nat := 58
def zdl_ : Nat := 76
def zjh_ : Nat := 79
def zji_ : Nat := 80
def zjj_ : Nat := 157
def zdg_ : Nat := 160
def zck_ : Nat := 162
def zgu_ : Nat := 164
def zsx_ : Nat := 171
def zsy_ : Nat := 180
def zon_ : Nat := 181
def zfj_ : Nat := 184
def zsz_ : Nat := 186
def zgv_ : Nat := 189
def zgw_ : Nat := 190
def zta_ : Nat := 191
def ztb_ : Nat := 192
def ztc_ : Nat := 193
def zgx_ : Nat := 195
def zoo_ : Nat := 196
def zfk_ : Nat := 197
def zdm_ : Nat := 198
def zop_ : Nat := 199
def ztd_ : Nat := 200
def zte_ : Nat := 201
def zoq_ : Nat := 208
def ztf_ : Nat := 212
def ztg_ : Nat := 213
def zor_ : Nat := 214
def zth_ : Nat := 215
def zos_ : Nat := 217
def zot_ : Nat := 218
def zti_ : Nat := 219
def zjk_ : Nat := 220
def ztj_ : Nat := 221
def ztk_ : Nat := 224
def zjl_ : Nat := 225
def ztl_ : Nat := 226
def zfl_ : Nat := 227
def zou_ : Nat := 228
def zov_ : Nat := 229
def zow_ : Nat := 230
def ztm_ : Nat := 231
def zox_ : Nat := 232
def zcl_ : Nat := 233
def ztn_ : Nat := 234
def zjm_ : Nat := 253
def zoy_ : Nat := 259
def zto_ : Nat := 260
def zjn_ : Nat := 261
def ztp_ : Nat := 262
def zdn_ : Nat := 263
def zoz_ : Nat := 264
def zpa_ : Nat := 265
def zjo_ : Nat := 266
def ztq_ : Nat := 267
def ztr_ : Nat := 268
def zbz_ : Nat := 269
def zgy_ : Nat := 271
def zts_ : Nat := 274
def ztt_ : Nat := 294
def ztu_ : Nat := 296
def zpb_ : Nat := 299
def ztv_ : Nat := 300
def zgz_ : Nat := 301
def zjp_ : Nat := 302
def zdo_ : Nat := 303
def ztw_ : Nat := 304
def zjq_ : Nat := 305
def ztx_ : Nat := 306
def zty_ : Nat := 307
def ztz_ : Nat := 308
def zua_ : Nat := 310
def zpc_ : Nat := 325
def zpd_ : Nat := 326
def zpe_ : Nat := 327
def zub_ : Nat := 328
def zuc_ : Nat := 352
def zud_ : Nat := 353
def zjr_ : Nat := 354
def zue_ : Nat := 355
def zuf_ : Nat := 356
def zug_ : Nat := 368
def zpf_ : Nat := 369
def zuh_ : Nat := 385
def zek_ : Nat := 386
def zha_ : Nat := 387
def zpg_ : Nat := 388
def zui_ : Nat := 389
def zuj_ : Nat := 419
def zuk_ : Nat := 420
def zph_ : Nat := 443
def zul_ : Nat := 451
def zum_ : Nat := 452
def zjs_ : Nat := 455
def zun_ : Nat := 456
def zjt_ : XC :=
 (.seq (.seq (.region [
 ⟨some 14, .cp (.t 6), none⟩,
 ⟨some 15, .bin .gtr (.t 14) (.c (.s (.int .u64 0))), none⟩] (none))
 (.cond (.t 15)
 .skip
 (.exit 0)))
 (.seq (.block 1
 (.region [
 ⟨some 18, .cp (.t 5), none⟩,
 ⟨some 19, .bin .add (.t 18) (.c (.s (.int .i64 1))), none⟩,
 ⟨some 5, .cp (.t 19), none⟩] (none)))
 (.region [
 ⟨some 16, .cp (.t 6), none⟩,
 ⟨some 17, .bin .shr (.t 16) (.c (.s (.int .u64 8))), none⟩,
 ⟨some 6, .cp (.t 17), none⟩] (none))))
def zhb_ : XC :=
 (.seq (.seq (.region [
 ⟨some 48, .cp (.t 8), none⟩,
 ⟨some 49, .bin .geq (.t 48) (.c (.s (.int .i64 0))), none⟩] (none))
 (.cond (.t 49)
 .skip
 (.exit 2)))
 (.seq (.block 3
 (.region [
 ⟨some 52, .cp (.t 0), none⟩,
 ⟨some 53, .cp (.t 0), none⟩,
 ⟨some 54, .nilchk (.t 53), none⟩,
 ⟨some 55, .faddr (.t 54) 0, none⟩,
 ⟨some 56, .load 1 false (.t 55), none⟩,
 ⟨some 57, .cp (.t 4), none⟩,
 ⟨some 58, .cp (.t 8), none⟩,
 ⟨some 59, .bin .mul (.c (.s (.int .i64 8))) (.t 58), none⟩,
 ⟨some 60, .bin .shr (.t 57) (.t 59), none⟩,
 ⟨some 61, .conv .u8 (.t 60), none⟩,
 ⟨some 62, .cp (.t 7), none⟩,
 ⟨some 63, .bin .xor (.t 61) (.t 62), none⟩,
 ⟨some 64, .bslice false 1 [(.t 63)], none⟩,
 ⟨some 65, .append 1 140737488355328 (.t 56) (.t 64), none⟩,
 ⟨some 66, .nilchk (.t 52), none⟩,
 ⟨some 67, .faddr (.t 66) 0, none⟩,
 ⟨none, .store 1 (.t 67) (.t 65), none⟩] (some [])))
 (.region [
 ⟨some 50, .cp (.t 8), none⟩,
 ⟨some 51, .bin .sub (.t 50) (.c (.s (.int .i64 1))), none⟩,
 ⟨some 8, .cp (.t 51), none⟩] (none))))
def zju_ : XF := { np := 2, results := [], body :=
 (.seq (.seq (.region [
 ⟨some 9, .cp (.t 0), none⟩,
 ⟨some 10, .eqv .p false (.t 9) (.c (.s (.pointer none))), none⟩] (none))
 (.cond (.t 10)
 .ret
 .skip))
 (.seq (.region [
 ⟨some 11, .cp (.t 1), none⟩,
 ⟨some 12, .call false zsw_ [(.t 11)], none⟩,
 ⟨some 4, .cp (.t 12), none⟩,
 ⟨some 5, .cp (.c (.s (.int .i64 0))), none⟩] (none))
 (.seq (.seq (.region [
 ⟨some 13, .cp (.t 4), none⟩,
 ⟨some 6, .cp (.t 13), none⟩] (none))
 (.block 0
 (.loop zjt_)))
 (.seq (.region [
 ⟨some 7, .cp (.c (.s (.int .u8 0))), none⟩] (none))
 (.seq (.seq (.region [
 ⟨some 20, .cp (.t 1), none⟩,
 ⟨some 21, .bin .lss (.t 20) (.c (.s (.int .i64 0))), none⟩] (none))
 (.cond (.t 21)
 (.seq (.region [
 ⟨some 7, .cp (.c (.s (.int .u8 255))), none⟩] (none))
 (.region [
 ⟨some 22, .cp (.t 0), none⟩,
 ⟨some 23, .cp (.t 0), none⟩,
 ⟨some 24, .nilchk (.t 23), none⟩,
 ⟨some 25, .faddr (.t 24) 0, none⟩,
 ⟨some 26, .load 1 false (.t 25), none⟩,
 ⟨some 27, .cp (.t 5), none⟩,
 ⟨some 28, .bin .sub (.c (.s (.int .i64 128))) (.t 27), none⟩,
 ⟨some 29, .conv .u8 (.t 28), none⟩,
 ⟨some 30, .bslice false 1 [(.t 29)], none⟩,
 ⟨some 31, .append 1 140737488355328 (.t 26) (.t 30), none⟩,
 ⟨some 32, .nilchk (.t 22), none⟩,
 ⟨some 33, .faddr (.t 32) 0, none⟩,
 ⟨none, .store 1 (.t 33) (.t 31), none⟩] (none)))
 (.region [
 ⟨some 34, .cp (.t 0), none⟩,
 ⟨some 35, .cp (.t 0), none⟩,
 ⟨some 36, .nilchk (.t 35), none⟩,
 ⟨some 37, .faddr (.t 36) 0, none⟩,
 ⟨some 38, .load 1 false (.t 37), none⟩,
 ⟨some 39, .cp (.t 5), none⟩,
 ⟨some 40, .bin .add (.c (.s (.int .i64 128))) (.t 39), none⟩,
 ⟨some 41, .conv .u8 (.t 40), none⟩,
 ⟨some 42, .bslice false 1 [(.t 41)], none⟩,
 ⟨some 43, .append 1 140737488355328 (.t 38) (.t 42), none⟩,
 ⟨some 44, .nilchk (.t 34), none⟩,
 ⟨some 45, .faddr (.t 44) 0, none⟩,
 ⟨none, .store 1 (.t 45) (.t 43), none⟩] (none))))
 (.seq (.region [
 ⟨some 46, .cp (.t 5), none⟩,
 ⟨some 47, .bin .sub (.t 46) (.c (.s (.int .i64 1))), none⟩,
 ⟨some 8, .cp (.t 47), none⟩] (none))
 (.block 2
 (.loop zhb_)))))))) }
def zhc_ : XF := { np := 1, results := [(.inl 2, .v)], body :=
 (.seq (.region [
 ⟨some 2, .cp (.c (.s (.string ⟨#[]⟩))), none⟩] (none))
 (.seq (.seq (.region [
 ⟨some 3, .cp (.t 0), none⟩,
 ⟨some 4, .eqv .p false (.t 3) (.c (.s (.pointer none))), none⟩] (none))
 (.cond (.t 4)
 (.seq (.region [
 ⟨some 2, .cp (.c (.s (.string ⟨#[]⟩))), none⟩] (none))
 .ret)
 .skip))
 (.seq (.region [
 ⟨some 5, .cp (.t 0), none⟩,
 ⟨some 6, .nilchk (.t 5), none⟩,
 ⟨some 7, .faddr (.t 6) 0, none⟩,
 ⟨some 8, .load 1 false (.t 7), none⟩,
 ⟨some 9, .toStr (.t 8), none⟩,
 ⟨some 2, .cp (.t 9), none⟩] (none))
 .ret))) }
def zjv_ : XF := { np := 1, results := [(.inl 2, .v)], body :=
 (.seq (.region [
 ⟨some 1, .box false (.t 0), none⟩,
 ⟨some 2, .cp (.c (.s (.string ⟨#[]⟩))), none⟩] (none))
 (.seq (.region [
 ⟨some 3, .alloc [.s (.slice none 0 0)], none⟩] (none))
 (.seq (.region [
 ⟨some 4, .load 14 true (.t 1), none⟩,
 ⟨some 5, .call false zsv_ [(.t 3), (.t 4)], none⟩] (none))
 (.seq (.region [
 ⟨some 6, .call false zst_ [(.t 3)], none⟩,
 ⟨some 2, .cp (.t 6), none⟩] (none))
 .ret)))) }
def zjw_ : XF := { np := 2, results := [], body :=
 (.seq (.region [
 ⟨some 4, .cp (.c (.s (.int .i64 0))), none⟩] (none))
 (.seq (.seq (.region [
 ⟨some 5, .cp (.t 1), none⟩] (none))
 (.cond (.t 5)
 (.region [
 ⟨some 4, .cp (.c (.s (.int .i64 1))), none⟩] (none))
 .skip))
 (.region [
 ⟨some 6, .cp (.t 0), none⟩,
 ⟨some 7, .cp (.t 4), none⟩,
 ⟨some 8, .call false zdf_ [(.t 6), (.t 7)], none⟩] (none)))) }
def zhd_ : XF := { np := 2, results := [], body :=
 (.seq (.seq (.region [
 ⟨some 4, .cp (.t 0), none⟩,
 ⟨some 5, .eqv .p false (.t 4) (.c (.s (.pointer none))), none⟩] (none))
 (.cond (.t 5)
 .ret
 .skip))
 (.seq (.region [
 ⟨some 6, .cp (.t 0), none⟩,
 ⟨some 7, .cp (.t 1), none⟩,
 ⟨some 8, .len true (.t 7), none⟩,
 ⟨some 9, .call false zdf_ [(.t 6), (.t 8)], none⟩] (none))
 (.region [
 ⟨some 10, .cp (.t 0), none⟩,
 ⟨some 11, .cp (.t 0), none⟩,
 ⟨some 12, .nilchk (.t 11), none⟩,
 ⟨some 13, .faddr (.t 12) 0, none⟩,
 ⟨some 14, .load 1 false (.t 13), none⟩,
 ⟨some 15, .cp (.t 1), none⟩,
 ⟨some 16, .append 1 140737488355328 (.t 14) (.t 15), none⟩,
 ⟨some 17, .nilchk (.t 10), none⟩,
 ⟨some 18, .faddr (.t 17) 0, none⟩,
 ⟨none, .store 1 (.t 18) (.t 16), none⟩] (none)))) }
def zjx_ : XF := { np := 2, results := [], body :=
 (.seq (.region [
 ⟨some 3, .box false (.t 1), none⟩] (none))
 (.seq (.region [
 ⟨some 4, .cp (.t 0), none⟩,
 ⟨some 5, .faddr (.t 3) 0, none⟩,
 ⟨some 6, .load 1 false (.t 5), none⟩,
 ⟨some 7, .faddr (.t 3) 1, none⟩,
 ⟨some 8, .load 1 false (.t 7), none⟩,
 ⟨some 9, .faddr (.t 3) 2, none⟩,
 ⟨some 10, .load 1 false (.t 9), none⟩,
 ⟨some 11, .faddr (.t 3) 3, none⟩,
 ⟨some 12, .load 1 false (.t 11), none⟩,
 ⟨some 13, .faddr (.t 3) 4, none⟩,
 ⟨some 14, .load 1 false (.t 13), none⟩,
 ⟨some 15, .faddr (.t 3) 5, none⟩,
 ⟨some 16, .load 1 false (.t 15), none⟩,
 ⟨some 17, .bslice false 1 [(.t 6), (.t 8), (.t 10), (.t 12), (.t 14), (.t 16)], none⟩,
 ⟨some 18, .call false zdl_ [(.t 4), (.t 17)], none⟩] (none))
 (.seq (.region [
 ⟨some 19, .cp (.t 0), none⟩,
 ⟨some 20, .faddr (.t 3) 6, none⟩,
 ⟨some 21, .load 1 false (.t 20), none⟩,
 ⟨some 22, .call false zej_ [(.t 19), (.t 21)], none⟩] (none))
 (.seq (.region [
 ⟨some 23, .cp (.t 0), none⟩,
 ⟨some 24, .faddr (.t 3) 7, none⟩,
 ⟨some 25, .load 1 false (.t 24), none⟩,
 ⟨some 26, .call false zej_ [(.t 23), (.t 25)], none⟩] (none))
 (.seq (.region [
 ⟨some 27, .cp (.t 0), none⟩,
 ⟨some 28, .faddr (.t 3) 8, none⟩,
 ⟨some 29, .load 1 false (.t 28), none⟩,
 ⟨some 30, .call false zej_ [(.t 27), (.t 29)], none⟩] (none))
 (.seq (.region [
 ⟨some 31, .cp (.t 0), none⟩,
 ⟨some 32, .faddr (.t 3) 9, none⟩,
 ⟨some 33, .load 1 false (.t 32), none⟩,
 ⟨some 34, .faddr (.t 3) 10, none⟩,
 ⟨some 35, .load 1 false (.t 34), none⟩,
 ⟨some 36, .bslice false 1 [(.t 33), (.t 35)], none⟩,
 ⟨some 37, .call false zdl_ [(.t 31), (.t 36)], none⟩] (none))
 (.seq (.region [
 ⟨some 38, .cp (.t 0), none⟩,
 ⟨some 39, .faddr (.t 3) 11, none⟩,
 ⟨some 40, .load 1 false (.t 39), none⟩,
 ⟨some 41, .call false zom_ [(.t 38), (.t 40)], none⟩] (none))
 (.seq (.region [
 ⟨some 42, .cp (.t 0), none⟩,
 ⟨some 43, .faddr (.t 3) 12, none⟩,
 ⟨some 44, .load 1 false (.t 43), none⟩,
 ⟨some 45, .cp (.t 0), none⟩,
 ⟨some 46, .mkfn false zdj_ [(.t 45)] [], none⟩,
 ⟨some 47, .call false zjh_ [(.t 42), (.t 44), (.t 46)], none⟩] (none))
 (.region [
 ⟨some 48, .cp (.t 0), none⟩,
 ⟨some 49, .faddr (.t 3) 13, none⟩,
 ⟨some 50, .load 1 false (.t 49), none⟩,
 ⟨some 51, .cp (.t 0), none⟩,
 ⟨some 52, .mkfn false zdk_ [(.t 51)] [], none⟩,
 ⟨some 53, .call false zji_ [(.t 48), (.t 50), (.t 52)], none⟩] (none)))))))))) }
def zhe_ : XF := { np := 1, results := [(.inl 2, .v)], body :=
 (.seq (.region [
 ⟨some 2, .cp (.c (.s (.int .u64 0))), none⟩] (none))
 (.seq (.seq (.region [
 ⟨some 3, .cp (.t 0), none⟩,
 ⟨some 4, .bin .lss (.t 3) (.c (.s (.int .i64 0))), none⟩] (none))
 (.cond (.t 4)
 (.seq (.region [
 ⟨some 5, .cp (.t 0), none⟩,
 ⟨some 6, .conv .u64 (.t 5), none⟩,
 ⟨some 7, .un .neg (.t 6), none⟩,
 ⟨some 2, .cp (.t 7), none⟩] (none))
 .ret)
 .skip))
 (.seq (.region [
 ⟨some 8, .cp (.t 0), none⟩,
 ⟨some 9, .conv .u64 (.t 8), none⟩,
 ⟨some 2, .cp (.t 9), none⟩] (none))
 .ret))) }
def zjy_ : XF := { np := 2, results := [], body :=
 (.seq (.region [
 ⟨some 3, .box false (.t 1), none⟩] (none))
 (.seq (.region [
 ⟨some 4, .cp (.t 0), none⟩,
 ⟨some 5, .faddr (.t 3) 0, none⟩,
 ⟨some 6, .load 1 false (.t 5), none⟩,
 ⟨some 7, .call false zej_ [(.t 4), (.t 6)], none⟩] (none))
 (.region [
 ⟨some 8, .cp (.t 0), none⟩,
 ⟨some 9, .faddr (.t 3) 1, none⟩,
 ⟨some 10, .load 3 true (.t 9), none⟩,
 ⟨some 11, .call false zjg_ [(.t 8), (.t 10)], none⟩] (none)))) }
def zjz_ : XF := { np := 2, results := [], body :=
 (.seq (.region [
 ⟨some 3, .box false (.t 1), none⟩] (none))
 (.seq (.region [
 ⟨some 4, .cp (.t 0), none⟩,
 ⟨some 5, .faddr (.t 3) 0, none⟩,
 ⟨some 6, .load 1 false (.t 5), none⟩,
 ⟨some 7, .call false zdf_ [(.t 4), (.t 6)], none⟩] (none))
 (.seq (.region [
 ⟨some 8, .cp (.t 0), none⟩,
 ⟨some 9, .faddr (.t 3) 1, none⟩,
 ⟨some 10, .load 1 false (.t 9), none⟩,
 ⟨some 11, .call false zej_ [(.t 8), (.t 10)], none⟩] (none))
 (.region [
 ⟨some 12, .cp (.t 0), none⟩,
 ⟨some 13, .faddr (.t 3) 2, none⟩,
 ⟨some 14, .load 1 false (.t 13), none⟩,
 ⟨some 15, .call false zdf_ [(.t 12), (.t 14)], none⟩] (none))))) }
def zka_ : XF := { np := 2, results := [], body :=
 (.seq (.region [
 ⟨some 3, .box false (.t 1), none⟩] (none))
 (.region [
 ⟨some 4, .cp (.t 0), none⟩,
 ⟨some 5, .faddr (.t 3) 0, none⟩,
 ⟨some 6, .load 1 false (.t 5), none⟩,
 ⟨some 7, .faddr (.t 3) 1, none⟩,
 ⟨some 8, .load 1 false (.t 7), none⟩,
 ⟨some 9, .bslice false 1 [(.t 6), (.t 8)], none⟩,
 ⟨some 10, .call false zdl_ [(.t 4), (.t 9)], none⟩] (none))) }
def zkb_ : XC :=
 (.seq (.region [
 ⟨some 9, .bin .lss (.t 8) (.t 7), none⟩] (none))
 (.seq (.cond (.t 9)
 .skip
 (.exit 0))
 (.seq (.block 1
 (.seq (.region [
 ⟨some 10, .iaddr 1 (.t 6) (.t 8), none⟩,
 ⟨some 11, .load 1 false (.t 10), none⟩,
 ⟨some 5, .cp (.t 11), none⟩] (none))
 (.region [
 ⟨some 12, .cp (.t 0), none⟩,
 ⟨some 13, .cp (.t 5), none⟩,
 ⟨some 14, .call false zdf_ [(.t 12), (.t 13)], none⟩] (none))))
 (.region [
 ⟨some 15, .bin .add (.t 8) (.c (.s (.int .i64 1))), none⟩,
 ⟨some 8, .cp (.t 15), none⟩] (none)))))
def zkc_ : XF := { np := 2, results := [], body :=
 (.seq (.region [
 ⟨some 6, .cp (.t 1), none⟩,
 ⟨some 7, .len false (.t 6), none⟩,
 ⟨some 8, .cp (.c (.s (.int .i64 0))), none⟩] (none))
 (.block 0
 (.loop zkb_))) }
def zkd_ : XC :=
 (.seq (.region [
 ⟨some 15, .bin .lss (.t 14) (.t 13), none⟩] (none))
 (.seq (.cond (.t 15)
 .skip
 (.exit 0))
 (.seq (.block 1
 (.seq (.region [
 ⟨some 16, .iaddr 4 (.t 12) (.t 14), none⟩,
 ⟨some 17, .load 4 true (.t 16), none⟩,
 ⟨some 7, .alloc [.s (.string ⟨#[]⟩), .s (.int .i64 0), .s (.string ⟨#[]⟩), .s (.int .i64 0)], none⟩,
 ⟨none, .store 4 (.t 7) (.t 17), none⟩] (none))
 (.region [
 ⟨some 18, .cp (.t 2), none⟩,
 ⟨some 19, .load 4 true (.t 7), none⟩,
 ⟨some 20, .callv false (.t 18) [(.t 19)], none⟩] (none))))
 (.region [
 ⟨some 21, .bin .add (.t 14) (.c (.s (.int .i64 1))), none⟩,
 ⟨some 14, .cp (.t 21), none⟩] (none)))))
def zke_ : XF := { np := 3, results := [], body :=
 (.seq (.region [
 ⟨some 8, .cp (.t 0), none⟩,
 ⟨some 9, .cp (.t 1), none⟩,
 ⟨some 10, .len false (.t 9), none⟩,
 ⟨some 11, .call false zdf_ [(.t 8), (.t 10)], none⟩] (none))
 (.seq (.region [
 ⟨some 12, .cp (.t 1), none⟩,
 ⟨some 13, .len false (.t 12), none⟩,
 ⟨some 14, .cp (.c (.s (.int .i64 0))), none⟩] (none))
 (.block 0
 (.loop zkd_)))) }
def zkf_ : XC :=
 (.seq (.region [
 ⟨some 15, .bin .lss (.t 14) (.t 13), none⟩] (none))
 (.seq (.cond (.t 15)
 .skip
 (.exit 0))
 (.seq (.block 1
 (.seq (.region [
 ⟨some 16, .iaddr 2 (.t 12) (.t 14), none⟩,
 ⟨some 17, .load 2 true (.t 16), none⟩,
 ⟨some 7, .alloc [.s (.int .i64 0), .s (.int .i64 0)], none⟩,
 ⟨none, .store 2 (.t 7) (.t 17), none⟩] (none))
 (.region [
 ⟨some 18, .cp (.t 2), none⟩,
 ⟨some 19, .load 2 true (.t 7), none⟩,
 ⟨some 20, .callv false (.t 18) [(.t 19)], none⟩] (none))))
 (.region [
 ⟨some 21, .bin .add (.t 14) (.c (.s (.int .i64 1))), none⟩,
 ⟨some 14, .cp (.t 21), none⟩] (none)))))
def zkg_ : XF := { np := 3, results := [], body :=
 (.seq (.region [
 ⟨some 8, .cp (.t 0), none⟩,
 ⟨some 9, .cp (.t 1), none⟩,
 ⟨some 10, .len false (.t 9), none⟩,
 ⟨some 11, .call false zdf_ [(.t 8), (.t 10)], none⟩] (none))
 (.seq (.region [
 ⟨some 12, .cp (.t 1), none⟩,
 ⟨some 13, .len false (.t 12), none⟩,
 ⟨some 14, .cp (.c (.s (.int .i64 0))), none⟩] (none))
 (.block 0
 (.loop zkf_)))) }
def zba_ : XF := { np := 1, results := [(.inl 2, .v)], body :=
 (.seq (.region [
 ⟨some 1, .box false (.t 0), none⟩,
 ⟨some 2, .cp (.c (.s (.int .i64 0))), none⟩] (none))
 (.seq (.block 0
 (.seq (.region [
 ⟨some 4, .faddr (.t 1) 0, none⟩,
 ⟨some 5, .load 1 false (.t 4), none⟩,
 ⟨some 6, .call false zgv_ [(.t 5)], none⟩,
 ⟨some 7, .cp (.t 6), none⟩,
 ⟨some 8, .faddr (.t 1) 1, some (7, false)⟩,
 ⟨some 9, .load 1 false (.t 8), some (7, false)⟩,
 ⟨some 10, .call false zgv_ [(.t 9)], some (7, false)⟩,
 ⟨some 11, .pick (.t 7) (.c (.s (.bool true))) (.t 10), none⟩,
 ⟨some 12, .cp (.t 11), none⟩,
 ⟨some 13, .faddr (.t 1) 2, some (12, false)⟩,
 ⟨some 14, .load 1 false (.t 13), some (12, false)⟩,
 ⟨some 15, .bin .lss (.t 14) (.c (.s (.int .i64 0))), some (12, false)⟩,
 ⟨some 16, .pick (.t 12) (.c (.s (.bool true))) (.t 15), none⟩,
 ⟨some 17, .cp (.t 16), none⟩,
 ⟨some 18, .faddr (.t 1) 2, some (17, false)⟩,
 ⟨some 19, .load 1 false (.t 18), some (17, false)⟩,
 ⟨some 20, .bin .gtr (.t 19) (.c (.s (.int .i64 1099511627776))), some (17, false)⟩,
 ⟨some 21, .pick (.t 17) (.c (.s (.bool true))) (.t 20), none⟩,
 ⟨some 22, .cp (.t 21), none⟩,
 ⟨some 23, .faddr (.t 1) 3, some (22, false)⟩,
 ⟨some 24, .load 1 false (.t 23), some (22, false)⟩,
 ⟨some 25, .bin .lss (.t 24) (.c (.s (.int .i64 0))), some (22, false)⟩,
 ⟨some 26, .pick (.t 22) (.c (.s (.bool true))) (.t 25), none⟩,
 ⟨some 27, .cp (.t 26), none⟩,
 ⟨some 28, .faddr (.t 1) 3, some (27, false)⟩,
 ⟨some 29, .load 1 false (.t 28), some (27, false)⟩,
 ⟨some 30, .bin .gtr (.t 29) (.c (.s (.int .i64 1048576))), some (27, false)⟩,
 ⟨some 31, .pick (.t 27) (.c (.s (.bool true))) (.t 30), none⟩,
 ⟨some 32, .cp (.t 31), none⟩,
 ⟨some 33, .faddr (.t 1) 4, some (32, false)⟩,
 ⟨some 34, .load 1 false (.t 33), some (32, false)⟩,
 ⟨some 35, .bin .lss (.t 34) (.c (.s (.int .i64 1))), some (32, false)⟩,
 ⟨some 36, .pick (.t 32) (.c (.s (.bool true))) (.t 35), none⟩,
 ⟨some 37, .cp (.t 36), none⟩,
 ⟨some 38, .faddr (.t 1) 4, some (37, false)⟩,
 ⟨some 39, .load 1 false (.t 38), some (37, false)⟩,
 ⟨some 40, .bin .gtr (.t 39) (.c (.s (.int .i64 1048576))), some (37, false)⟩,
 ⟨some 41, .pick (.t 37) (.c (.s (.bool true))) (.t 40), none⟩,
 ⟨some 3, .cp (.t 41), none⟩] (none))
 (.cond (.t 3)
 (.seq (.region [
 ⟨some 2, .cp (.c (.s (.int .i64 2))), none⟩] (none))
 .ret)
 (.seq (.region [
 ⟨some 43, .faddr (.t 1) 5, none⟩,
 ⟨some 44, .load 1 false (.t 43), none⟩,
 ⟨some 45, .bin .lss (.t 44) (.c (.s (.int .i64 1))), none⟩,
 ⟨some 46, .cp (.t 45), none⟩,
 ⟨some 47, .faddr (.t 1) 5, some (46, false)⟩,
 ⟨some 48, .load 1 false (.t 47), some (46, false)⟩,
 ⟨some 49, .bin .gtr (.t 48) (.c (.s (.int .i64 5))), some (46, false)⟩,
 ⟨some 50, .pick (.t 46) (.c (.s (.bool true))) (.t 49), none⟩,
 ⟨some 42, .cp (.t 50), none⟩] (none))
 (.cond (.t 42)
 (.seq (.region [
 ⟨some 2, .cp (.c (.s (.int .i64 12))), none⟩] (none))
 .ret)
 (.seq (.region [
 ⟨some 52, .faddr (.t 1) 6, none⟩,
 ⟨some 53, .load 1 false (.t 52), none⟩,
 ⟨some 54, .call false zgw_ [(.t 53)], none⟩,
 ⟨some 55, .un .not (.t 54), none⟩,
 ⟨some 56, .cp (.t 55), none⟩,
 ⟨some 57, .faddr (.t 1) 8, some (56, false)⟩,
 ⟨some 58, .load 1 false (.t 57), some (56, false)⟩,
 ⟨some 59, .call false zgw_ [(.t 58)], some (56, false)⟩,
 ⟨some 60, .un .not (.t 59), some (56, false)⟩,
 ⟨some 61, .pick (.t 56) (.c (.s (.bool true))) (.t 60), none⟩,
 ⟨some 62, .cp (.t 61), none⟩,
 ⟨some 63, .faddr (.t 1) 7, some (62, false)⟩,
 ⟨some 64, .load 1 false (.t 63), some (62, false)⟩,
 ⟨some 65, .bin .neq (.t 64) (.c (.s (.string ⟨#[]⟩))), some (62, false)⟩,
 ⟨some 66, .cp (.t 65), some (62, false)⟩,
 ⟨some 67, .faddr (.t 1) 7, some (66, true)⟩,
 ⟨some 68, .load 1 false (.t 67), some (66, true)⟩,
 ⟨some 69, .call false zgw_ [(.t 68)], some (66, true)⟩,
 ⟨some 70, .un .not (.t 69), some (66, true)⟩,
 ⟨some 71, .pick (.t 66) (.t 70) (.c (.s (.bool false))), some (62, false)⟩,
 ⟨some 72, .pick (.t 62) (.c (.s (.bool true))) (.t 71), none⟩,
 ⟨some 51, .cp (.t 72), none⟩] (none))
 (.cond (.t 51)
 (.seq (.region [
 ⟨some 2, .cp (.c (.s (.int .i64 11))), none⟩] (none))
 .ret)
 (.seq (.region [
 ⟨some 74, .faddr (.t 1) 9, none⟩,
 ⟨some 75, .load 1 false (.t 74), none⟩,
 ⟨some 76, .faddr (.t 1) 10, none⟩,
 ⟨some 77, .load 1 false (.t 76), none⟩,
 ⟨some 78, .minmax false [(.t 75), (.t 77)], none⟩,
 ⟨some 79, .bin .lss (.t 78) (.c (.s (.int .i64 (-1099511627776)))), none⟩,
 ⟨some 80, .cp (.t 79), none⟩,
 ⟨some 81, .faddr (.t 1) 9, some (80, false)⟩,
 ⟨some 82, .load 1 false (.t 81), some (80, false)⟩,
 ⟨some 83, .faddr (.t 1) 10, some (80, false)⟩,
 ⟨some 84, .load 1 false (.t 83), some (80, false)⟩,
 ⟨some 85, .minmax true [(.t 82), (.t 84)], some (80, false)⟩,
 ⟨some 86, .bin .gtr (.t 85) (.c (.s (.int .i64 1099511627776))), some (80, false)⟩,
 ⟨some 87, .pick (.t 80) (.c (.s (.bool true))) (.t 86), none⟩,
 ⟨some 73, .cp (.t 87), none⟩] (none))
 (.cond (.t 73)
 (.seq (.region [
 ⟨some 2, .cp (.c (.s (.int .i64 32))), none⟩] (none))
 .ret)
 (.seq (.region [
 ⟨some 89, .faddr (.t 1) 10, none⟩,
 ⟨some 90, .load 1 false (.t 89), none⟩,
 ⟨some 91, .faddr (.t 1) 9, none⟩,
 ⟨some 92, .load 1 false (.t 91), none⟩,
 ⟨some 93, .bin .lss (.t 90) (.t 92), none⟩,
 ⟨some 88, .cp (.t 93), none⟩] (none))
 (.cond (.t 88)
 (.seq (.region [
 ⟨some 2, .cp (.c (.s (.int .i64 8))), none⟩] (none))
 .ret)
 (.seq (.region [
 ⟨some 95, .faddr (.t 1) 10, none⟩,
 ⟨some 96, .load 1 false (.t 95), none⟩,
 ⟨some 97, .faddr (.t 1) 9, none⟩,
 ⟨some 98, .load 1 false (.t 97), none⟩,
 ⟨some 99, .bin .sub (.t 96) (.t 98), none⟩,
 ⟨some 100, .bin .gtr (.t 99) (.c (.s (.int .i64 1099511627776))), none⟩,
 ⟨some 94, .cp (.t 100), none⟩] (none))
 (.cond (.t 94)
 (.seq (.region [
 ⟨some 2, .cp (.c (.s (.int .i64 32))), none⟩] (none))
 .ret)
 .skip)))))))))))))
 (.seq (.region [
 ⟨some 101, .faddr (.t 1) 12, none⟩,
 ⟨some 102, .load 1 false (.t 101), none⟩,
 ⟨some 103, .call false ztb_ [(.t 102)], none⟩,
 ⟨some 104, .faddr (.t 1) 13, none⟩,
 ⟨some 105, .load 1 false (.t 104), none⟩,
 ⟨some 106, .call false ztc_ [(.t 105)], none⟩,
 ⟨some 107, .bslice false 1 [(.t 103), (.t 106)], none⟩,
 ⟨some 108, .call false zta_ [(.t 107)], none⟩,
 ⟨some 2, .cp (.t 108), none⟩] (some [(2, some 4)]))
 .ret))) }
def zkh_ : XF := { np := 2, results := [(.inl 4, .v)], body :=
 (.seq (.region [
 ⟨some 2, .box false (.t 0), none⟩,
 ⟨some 3, .box false (.t 1), none⟩,
 ⟨some 4, .cp (.c (.s (.int .i64 0))), none⟩] (none))
 (.seq (.region [
 ⟨some 7, .faddr (.t 2) 0, none⟩,
 ⟨some 8, .load 1 false (.t 7), none⟩,
 ⟨some 9, .faddr (.t 2) 1, none⟩,
 ⟨some 10, .load 1 false (.t 9), none⟩,
 ⟨some 11, .faddr (.t 2) 3, none⟩,
 ⟨some 12, .load 1 false (.t 11), none⟩,
 ⟨some 13, .faddr (.t 2) 2, none⟩,
 ⟨some 14, .load 1 false (.t 13), none⟩,
 ⟨some 15, .faddr (.t 2) 4, none⟩,
 ⟨some 16, .load 1 false (.t 15), none⟩,
 ⟨some 17, .faddr (.t 2) 5, none⟩,
 ⟨some 18, .load 1 false (.t 17), none⟩,
 ⟨some 19, .build false [.s (.int .i64 0), .s (.int .i64 0), .s (.int .i64 0), .s (.int .i64 0), .s (.int .i64 0), .s (.int .i64 0)] [(0, 1, (.t 8)), (1, 1, (.t 10)), (2, 1, (.t 12)), (3, 1, (.t 14)), (4, 1, (.t 16)), (5, 1, (.t 18))], none⟩,
 ⟨some 5, .alloc [.s (.int .i64 0), .s (.int .i64 0), .s (.int .i64 0), .s (.int .i64 0), .s (.int .i64 0), .s (.int .i64 0)], none⟩,
 ⟨none, .store 6 (.t 5) (.t 19), none⟩] (none))
 (.seq (.region [
 ⟨some 20, .faddr (.t 3) 0, none⟩,
 ⟨some 21, .load 1 false (.t 20), none⟩,
 ⟨some 22, .faddr (.t 3) 1, none⟩,
 ⟨some 23, .load 1 false (.t 22), none⟩,
 ⟨some 24, .faddr (.t 3) 3, none⟩,
 ⟨some 25, .load 1 false (.t 24), none⟩,
 ⟨some 26, .faddr (.t 3) 2, none⟩,
 ⟨some 27, .load 1 false (.t 26), none⟩,
 ⟨some 28, .faddr (.t 3) 4, none⟩,
 ⟨some 29, .load 1 false (.t 28), none⟩,
 ⟨some 30, .faddr (.t 3) 5, none⟩,
 ⟨some 31, .load 1 false (.t 30), none⟩,
 ⟨some 32, .build false [.s (.int .i64 0), .s (.int .i64 0), .s (.int .i64 0), .s (.int .i64 0), .s (.int .i64 0), .s (.int .i64 0)] [(0, 1, (.t 21)), (1, 1, (.t 23)), (2, 1, (.t 25)), (3, 1, (.t 27)), (4, 1, (.t 29)), (5, 1, (.t 31))], none⟩,
 ⟨some 6, .alloc [.s (.int .i64 0), .s (.int .i64 0), .s (.int .i64 0), .s (.int .i64 0), .s (.int .i64 0), .s (.int .i64 0)], none⟩,
 ⟨none, .store 6 (.t 6) (.t 32), none⟩] (none))
 (.seq (.region [
 ⟨some 33, .slBox 6 (.t 5), none⟩,
 ⟨some 34, .slBox 6 (.t 6), none⟩,
 ⟨some 35, .call false zoo_ [(.t 33), (.t 34)], none⟩,
 ⟨some 36, .faddr (.t 2) 6, none⟩,
 ⟨some 37, .load 1 false (.t 36), none⟩,
 ⟨some 38, .faddr (.t 3) 6, none⟩,
 ⟨some 39, .load 1 false (.t 38), none⟩,
 ⟨some 40, .call false zfk_ [(.t 37), (.t 39)], none⟩,
 ⟨some 41, .faddr (.t 2) 7, none⟩,
 ⟨some 42, .load 1 false (.t 41), none⟩,
 ⟨some 43, .faddr (.t 3) 7, none⟩,
 ⟨some 44, .load 1 false (.t 43), none⟩,
 ⟨some 45, .call false zfk_ [(.t 42), (.t 44)], none⟩,
 ⟨some 46, .faddr (.t 2) 8, none⟩,
 ⟨some 47, .load 1 false (.t 46), none⟩,
 ⟨some 48, .faddr (.t 3) 8, none⟩,
 ⟨some 49, .load 1 false (.t 48), none⟩,
 ⟨some 50, .call false zfk_ [(.t 47), (.t 49)], none⟩,
 ⟨some 51, .faddr (.t 2) 9, none⟩,
 ⟨some 52, .load 1 false (.t 51), none⟩,
 ⟨some 53, .faddr (.t 3) 9, none⟩,
 ⟨some 54, .load 1 false (.t 53), none⟩,
 ⟨some 55, .call false zdm_ [(.t 52), (.t 54)], none⟩,
 ⟨some 56, .faddr (.t 2) 10, none⟩,
 ⟨some 57, .load 1 false (.t 56), none⟩,
 ⟨some 58, .faddr (.t 3) 10, none⟩,
 ⟨some 59, .load 1 false (.t 58), none⟩,
 ⟨some 60, .call false zdm_ [(.t 57), (.t 59)], none⟩,
 ⟨some 61, .faddr (.t 2) 11, none⟩,
 ⟨some 62, .load 1 false (.t 61), none⟩,
 ⟨some 63, .call false zop_ [(.t 62)], none⟩,
 ⟨some 64, .faddr (.t 3) 11, none⟩,
 ⟨some 65, .load 1 false (.t 64), none⟩,
 ⟨some 66, .call false zop_ [(.t 65)], none⟩,
 ⟨some 67, .bin .sub (.t 63) (.t 66), none⟩,
 ⟨some 68, .faddr (.t 2) 12, none⟩,
 ⟨some 69, .load 1 false (.t 68), none⟩,
 ⟨some 70, .faddr (.t 3) 12, none⟩,
 ⟨some 71, .load 1 false (.t 70), none⟩,
 ⟨some 72, .call false ztd_ [(.t 69), (.t 71)], none⟩,
 ⟨some 73, .faddr (.t 2) 13, none⟩,
 ⟨some 74, .load 1 false (.t 73), none⟩,
 ⟨some 75, .faddr (.t 3) 13, none⟩,
 ⟨some 76, .load 1 false (.t 75), none⟩,
 ⟨some 77, .call false zte_ [(.t 74), (.t 76), (.c (.fn zgu_ [] []))], none⟩,
 ⟨some 78, .bslice false 1 [(.t 35), (.t 40), (.t 45), (.t 50), (.t 55), (.t 60), (.t 67), (.t 72), (.t 77)], none⟩,
 ⟨some 79, .call false zgx_ [(.t 78)], none⟩,
 ⟨some 4, .cp (.t 79), none⟩] (some [(2, none), (7, none), (12, none), (17, none), (22, none), (27, none), (30, none), (33, none), (39, some 41), (39, some 43)]))
 .ret)))) }
def zki_ : XF := { np := 2, results := [(.inl 4, .v)], body :=
 (.seq (.region [
 ⟨some 2, .box false (.t 0), none⟩,
 ⟨some 3, .box false (.t 1), none⟩,
 ⟨some 4, .cp (.c (.s (.bool false))), none⟩] (none))
 (.seq (.region [
 ⟨some 5, .load 14 true (.t 2), none⟩,
 ⟨some 6, .load 14 true (.t 3), none⟩,
 ⟨some 7, .call false zdg_ [(.t 5), (.t 6)], none⟩,
 ⟨some 8, .bin .eql (.t 7) (.c (.s (.int .i64 0))), none⟩,
 ⟨some 4, .cp (.t 8), none⟩] (none))
 .ret)) }
def zkj_ : XF := { np := 2, results := [(.inl 4, .v)], body :=
 (.seq (.region [
 ⟨some 2, .box false (.t 0), none⟩,
 ⟨some 3, .box false (.t 1), none⟩,
 ⟨some 4, .cp (.c (.s (.int .i64 0))), none⟩] (none))
 (.seq (.region [
 ⟨some 5, .faddr (.t 2) 0, none⟩,
 ⟨some 6, .load 1 false (.t 5), none⟩,
 ⟨some 7, .faddr (.t 3) 0, none⟩,
 ⟨some 8, .load 1 false (.t 7), none⟩,
 ⟨some 9, .call false zdm_ [(.t 6), (.t 8)], none⟩,
 ⟨some 10, .faddr (.t 2) 1, none⟩,
 ⟨some 11, .load 1 false (.t 10), none⟩,
 ⟨some 12, .faddr (.t 3) 1, none⟩,
 ⟨some 13, .load 1 false (.t 12), none⟩,
 ⟨some 14, .call false zdm_ [(.t 11), (.t 13)], none⟩,
 ⟨some 15, .bslice false 1 [(.t 9), (.t 14)], none⟩,
 ⟨some 16, .call false zgx_ [(.t 15)], none⟩,
 ⟨some 4, .cp (.t 16), none⟩] (some [(4, some 6), (4, some 8)]))
 .ret)) }
def zax_ : XF := { np := 1, results := [(.inl 2, .v)], body :=
 (.seq (.region [
 ⟨some 1, .box false (.t 0), none⟩,
 ⟨some 2, .cp (.c (.s (.int .i64 0))), none⟩] (none))
 (.seq (.region [
 ⟨some 3, .cp (.c (.s (.bool false))), none⟩] (none))
 (.seq (.seq (.region [
 ⟨some 4, .faddr (.t 1) 0, none⟩,
 ⟨some 5, .load 1 false (.t 4), none⟩] (none))
 (.block 0
 (.seq (.region [
 ⟨some 7, .bin .eql (.t 5) (.c (.s (.int .i64 1))), none⟩,
 ⟨some 6, .cp (.t 7), none⟩] (none))
 (.cond (.t 6)
 (.region [
 ⟨some 8, .faddr (.t 1) 1, none⟩,
 ⟨some 9, .load 1 false (.t 8), none⟩,
 ⟨some 10, .call false zoq_ [(.t 9), (.c (.s (.int .u8 32))), (.c (.s (.int .u8 126)))], none⟩,
 ⟨some 11, .cp (.t 10), none⟩,
 ⟨some 12, .faddr (.t 1) 2, some (11, true)⟩,
 ⟨some 13, .load 1 false (.t 12), some (11, true)⟩,
 ⟨some 14, .bin .eql (.t 13) (.c (.s (.int .i64 0))), some (11, true)⟩,
 ⟨some 15, .pick (.t 11) (.t 14) (.c (.s (.bool false))), none⟩,
 ⟨some 3, .cp (.t 15), none⟩] (none))
 (.seq (.region [
 ⟨some 17, .bin .eql (.t 5) (.c (.s (.int .i64 2))), none⟩,
 ⟨some 16, .cp (.t 17), none⟩] (none))
 (.cond (.t 16)
 (.region [
 ⟨some 18, .faddr (.t 1) 1, none⟩,
 ⟨some 19, .load 1 false (.t 18), none⟩,
 ⟨some 20, .bin .eql (.t 19) (.c (.s (.string ⟨#[]⟩))), none⟩,
 ⟨some 21, .cp (.t 20), none⟩,
 ⟨some 22, .faddr (.t 1) 2, some (21, true)⟩,
 ⟨some 23, .load 1 false (.t 22), some (21, true)⟩,
 ⟨some 24, .bin .geq (.t 23) (.c (.s (.int .i64 (-1099511627776)))), some (21, true)⟩,
 ⟨some 25, .pick (.t 21) (.t 24) (.c (.s (.bool false))), none⟩,
 ⟨some 26, .cp (.t 25), none⟩,
 ⟨some 27, .faddr (.t 1) 2, some (26, true)⟩,
 ⟨some 28, .load 1 false (.t 27), some (26, true)⟩,
 ⟨some 29, .bin .leq (.t 28) (.c (.s (.int .i64 1099511627776))), some (26, true)⟩,
 ⟨some 30, .pick (.t 26) (.t 29) (.c (.s (.bool false))), none⟩,
 ⟨some 3, .cp (.t 30), none⟩] (none))
 (.seq (.region [
 ⟨some 32, .bin .eql (.t 5) (.c (.s (.int .i64 3))), none⟩,
 ⟨some 31, .cp (.t 32), none⟩] (none))
 (.cond (.t 31)
 (.region [
 ⟨some 33, .faddr (.t 1) 1, none⟩,
 ⟨some 34, .load 1 false (.t 33), none⟩,
 ⟨some 35, .bin .eql (.t 34) (.c (.s (.string ⟨#[]⟩))), none⟩,
 ⟨some 36, .cp (.t 35), none⟩,
 ⟨some 37, .faddr (.t 1) 2, some (36, true)⟩,
 ⟨some 38, .load 1 false (.t 37), some (36, true)⟩,
 ⟨some 39, .bin .eql (.t 38) (.c (.s (.int .i64 0))), some (36, true)⟩,
 ⟨some 40, .cp (.t 39), some (36, true)⟩,
 ⟨some 41, .faddr (.t 1) 2, some (40, false)⟩,
 ⟨some 42, .load 1 false (.t 41), some (40, false)⟩,
 ⟨some 43, .bin .eql (.t 42) (.c (.s (.int .i64 1))), some (40, false)⟩,
 ⟨some 44, .pick (.t 40) (.c (.s (.bool true))) (.t 43), some (36, true)⟩,
 ⟨some 45, .pick (.t 36) (.t 44) (.c (.s (.bool false))), none⟩,
 ⟨some 3, .cp (.t 45), none⟩] (none))
 (.seq (.region [
 ⟨some 2, .cp (.c (.s (.int .i64 12))), none⟩] (none))
 .ret)))))))))
 (.seq (.block 1
 (.seq (.region [
 ⟨some 47, .faddr (.t 1) 1, none⟩,
 ⟨some 48, .load 1 false (.t 47), none⟩,
 ⟨some 49, .len true (.t 48), none⟩,
 ⟨some 50, .bin .gtr (.t 49) (.c (.s (.int .i64 4096))), none⟩,
 ⟨some 46, .cp (.t 50), none⟩] (none))
 (.cond (.t 46)
 (.seq (.region [
 ⟨some 2, .cp (.c (.s (.int .i64 5))), none⟩] (none))
 .ret)
 (.seq (.region [
 ⟨some 52, .cp (.t 3), none⟩,
 ⟨some 53, .un .not (.t 52), none⟩,
 ⟨some 51, .cp (.t 53), none⟩] (none))
 (.cond (.t 51)
 (.seq (.region [
 ⟨some 2, .cp (.c (.s (.int .i64 3))), none⟩] (none))
 .ret)
 .skip)))))
 (.seq (.region [
 ⟨some 2, .cp (.c (.s (.int .i64 0))), none⟩] (none))
 .ret))))) }
def zkk_ : XF := { np := 1, results := [(.inl 2, .v)], body :=
 (.seq (.region [
 ⟨some 2, .cp (.c (.s (.int .i64 0))), none⟩] (none))
 (.seq (.region [
 ⟨some 3, .cp (.t 0), none⟩,
 ⟨some 4, .bin .shr (.t 3) (.c (.s (.int .u64 20))), none⟩,
 ⟨some 2, .cp (.t 4), none⟩] (none))
 .ret)) }
def zkl_ : XF := { np := 1, results := [(.inl 2, .v)], body :=
 (.seq (.region [
 ⟨some 2, .cp (.c (.s (.int .i64 0))), none⟩] (none))
 (.seq (.region [
 ⟨some 3, .cp (.t 0), none⟩,
 ⟨some 4, .call false zsy_ [(.t 3)], none⟩,
 ⟨some 5, .bin .shr (.t 4) (.c (.s (.int .u64 4))), none⟩,
 ⟨some 2, .cp (.t 5), none⟩] (none))
 .ret)) }
def zhf_ : XF := { np := 1, results := [(.inl 2, .v)], body :=
 (.seq (.region [
 ⟨some 2, .cp (.c (.s (.slice none 0 0))), none⟩] (none))
 (.seq (.region [
 ⟨some 3, .cp (.t 0), none⟩,
 ⟨some 4, .call false ztg_ [(.t 3)], none⟩,
 ⟨some 5, .call true ztf_ [(.t 4), (.c (.fn zor_ [] []))], none⟩,
 ⟨some 2, .cp (.t 5), none⟩] (none))
 .ret)) }
def zkm_ : XF := { np := 2, results := [(.inl 4, .v)], body :=
 (.seq (.region [
 ⟨some 4, .cp (.c (.s (.slice none 0 0))), none⟩] (none))
 (.seq (.region [
 ⟨some 5, .cp (.t 0), none⟩,
 ⟨some 6, .cp (.t 1), none⟩,
 ⟨some 7, .bslice false 1 [(.t 5), (.t 6)], none⟩,
 ⟨some 8, .call false zth_ [(.t 7)], none⟩,
 ⟨some 9, .call false zfj_ [(.t 8)], none⟩,
 ⟨some 4, .cp (.t 9), none⟩] (none))
 .ret)) }
def zfm_ : XF := { np := 1, results := [(.inl 2, .v)], body :=
 (.seq (.region [
 ⟨some 2, .cp (.c (.s (.bool false))), none⟩] (none))
 (.seq (.region [
 ⟨some 3, .cp (.t 0), none⟩,
 ⟨some 4, .bin .lss (.t 3) (.c (.s (.int .i64 1))), none⟩,
 ⟨some 5, .cp (.t 4), none⟩,
 ⟨some 6, .cp (.t 0), some (5, false)⟩,
 ⟨some 7, .bin .gtr (.t 6) (.c (.s (.int .i64 1099511627776))), some (5, false)⟩,
 ⟨some 8, .pick (.t 5) (.c (.s (.bool true))) (.t 7), none⟩,
 ⟨some 2, .cp (.t 8), none⟩] (none))
 .ret)) }
def zfn_ : XF := { np := 1, results := [(.inl 2, .v)], body :=
 (.seq (.region [
 ⟨some 2, .cp (.c (.s (.bool false))), none⟩] (none))
 (.seq (.region [
 ⟨some 3, .cp (.t 0), none⟩,
 ⟨some 4, .bin .neq (.t 3) (.c (.s (.string ⟨#[]⟩))), none⟩,
 ⟨some 5, .cp (.t 4), none⟩,
 ⟨some 6, .cp (.t 0), some (5, true)⟩,
 ⟨some 7, .len true (.t 6), some (5, true)⟩,
 ⟨some 8, .bin .leq (.t 7) (.c (.s (.int .i64 64))), some (5, true)⟩,
 ⟨some 9, .pick (.t 5) (.t 8) (.c (.s (.bool false))), none⟩,
 ⟨some 10, .cp (.t 9), none⟩,
 ⟨some 11, .cp (.t 0), some (10, true)⟩,
 ⟨some 12, .call false zoq_ [(.t 11), (.c (.s (.int .u8 33))), (.c (.s (.int .u8 126)))], some (10, true)⟩,
 ⟨some 13, .pick (.t 10) (.t 12) (.c (.s (.bool false))), none⟩,
 ⟨some 2, .cp (.t 13), none⟩] (none))
 .ret)) }
def zpi_ : XC :=
 (.seq (.region [
 ⟨some 9, .bin .lss (.t 8) (.t 7), none⟩] (none))
 (.seq (.cond (.t 9)
 .skip
 (.exit 0))
 (.seq (.block 1
 (.seq (.region [
 ⟨some 10, .iaddr 1 (.t 6) (.t 8), none⟩,
 ⟨some 11, .load 1 false (.t 10), none⟩,
 ⟨some 5, .cp (.t 11), none⟩] (none))
 (.seq (.region [
 ⟨some 12, .cp (.t 5), none⟩,
 ⟨some 13, .cp (.t 3), none⟩,
 ⟨some 14, .bin .neq (.t 12) (.t 13), none⟩] (none))
 (.cond (.t 14)
 (.seq (.region [
 ⟨some 15, .cp (.t 5), none⟩,
 ⟨some 2, .cp (.t 15), none⟩] (none))
 .ret)
 .skip))))
 (.region [
 ⟨some 16, .bin .add (.t 8) (.c (.s (.int .i64 1))), none⟩,
 ⟨some 8, .cp (.t 16), none⟩] (none)))))
def zkn_ : XF := { np := 1, results := [(.inl 2, .v)], body :=
 (.seq (.region [
 ⟨some 2, .cp (.c (.s (.int .i64 0))), none⟩] (none))
 (.seq (.region [
 ⟨some 3, .cp (.c (.s (.int .i64 0))), none⟩] (none))
 (.seq (.seq (.region [
 ⟨some 6, .cp (.t 0), none⟩,
 ⟨some 7, .len false (.t 6), none⟩,
 ⟨some 8, .cp (.c (.s (.int .i64 0))), none⟩] (none))
 (.block 0
 (.loop zpi_)))
 (.seq (.region [
 ⟨some 17, .cp (.t 3), none⟩,
 ⟨some 2, .cp (.t 17), none⟩] (none))
 .ret)))) }
def zel_ : XC :=
 (.seq (.region [
 ⟨some 12, .bin .lss (.t 11) (.t 10), none⟩] (none))
 (.seq (.cond (.t 12)
 .skip
 (.exit 0))
 (.seq (.block 1
 (.seq (.region [
 ⟨some 13, .cp (.t 11), none⟩,
 ⟨some 14, .iaddr 4 (.t 9) (.t 11), none⟩,
 ⟨some 15, .load 4 true (.t 14), none⟩,
 ⟨some 4, .alloc [.s (.string ⟨#[]⟩), .s (.int .i64 0), .s (.string ⟨#[]⟩), .s (.int .i64 0)], none⟩,
 ⟨some 3, .cp (.t 13), none⟩,
 ⟨none, .store 4 (.t 4) (.t 15), none⟩] (none))
 (.seq (.block 2
 (.seq (.region [
 ⟨some 17, .faddr (.t 4) 0, none⟩,
 ⟨some 18, .load 1 false (.t 17), none⟩,
 ⟨some 19, .call false zgw_ [(.t 18)], none⟩,
 ⟨some 20, .un .not (.t 19), none⟩,
 ⟨some 16, .cp (.t 20), none⟩] (none))
 (.cond (.t 16)
 (.seq (.region [
 ⟨some 2, .cp (.c (.s (.int .i64 11))), none⟩] (none))
 .ret)
 (.seq (.region [
 ⟨some 22, .cp (.t 3), none⟩,
 ⟨some 23, .bin .gtr (.t 22) (.c (.s (.int .i64 0))), none⟩,
 ⟨some 24, .cp (.t 23), none⟩,
 ⟨some 25, .faddr (.t 4) 0, some (24, true)⟩,
 ⟨some 26, .load 1 false (.t 25), some (24, true)⟩,
 ⟨some 27, .cp (.t 0), some (24, true)⟩,
 ⟨some 28, .cp (.t 3), some (24, true)⟩,
 ⟨some 29, .bin .sub (.t 28) (.c (.s (.int .i64 1))), some (24, true)⟩,
 ⟨some 30, .iaddr 4 (.t 27) (.t 29), some (24, true)⟩,
 ⟨some 31, .faddr (.t 30) 0, some (24, true)⟩,
 ⟨some 32, .load 1 false (.t 31), some (24, true)⟩,
 ⟨some 33, .bin .leq (.t 26) (.t 32), some (24, true)⟩,
 ⟨some 34, .pick (.t 24) (.t 33) (.c (.s (.bool false))), none⟩,
 ⟨some 21, .cp (.t 34), none⟩] (some []))
 (.cond (.t 21)
 (.seq (.region [
 ⟨some 2, .cp (.c (.s (.int .i64 8))), none⟩] (none))
 .ret)
 .skip)))))
 (.seq (.region [
 ⟨some 35, .faddr (.t 4) 1, none⟩,
 ⟨some 36, .load 3 true (.t 35), none⟩,
 ⟨some 37, .call false zsx_ [(.t 36)], none⟩,
 ⟨some 5, .cp (.t 37), none⟩] (none))
 (.seq (.region [
 ⟨some 38, .cp (.t 5), none⟩,
 ⟨some 39, .bin .neq (.t 38) (.c (.s (.int .i64 0))), none⟩] (none))
 (.cond (.t 39)
 (.seq (.region [
 ⟨some 40, .cp (.t 5), none⟩,
 ⟨some 2, .cp (.t 40), none⟩] (none))
 .ret)
 .skip))))))
 (.region [
 ⟨some 41, .bin .add (.t 11) (.c (.s (.int .i64 1))), none⟩,
 ⟨some 11, .cp (.t 41), none⟩] (none)))))
def zhg_ : XF := { np := 1, results := [(.inl 2, .v)], body :=
 (.seq (.region [
 ⟨some 2, .cp (.c (.s (.int .i64 0))), none⟩] (none))
 (.seq (.seq (.region [
 ⟨some 6, .cp (.t 0), none⟩,
 ⟨some 7, .len false (.t 6), none⟩,
 ⟨some 8, .bin .gtr (.t 7) (.c (.s (.int .i64 32))), none⟩] (none))
 (.cond (.t 8)
 (.seq (.region [
 ⟨some 2, .cp (.c (.s (.int .i64 6))), none⟩] (none))
 .ret)
 .skip))
 (.seq (.seq (.region [
 ⟨some 9, .cp (.t 0), none⟩,
 ⟨some 10, .len false (.t 9), none⟩,
 ⟨some 11, .cp (.c (.s (.int .i64 0))), none⟩] (none))
 (.block 0
 (.loop zel_)))
 (.seq (.region [
 ⟨some 2, .cp (.c (.s (.int .i64 0))), none⟩] (none))
 .ret)))) }
def zfo_ : XC :=
 (.seq (.region [
 ⟨some 11, .bin .lss (.t 10) (.t 9), none⟩] (none))
 (.seq (.cond (.t 11)
 .skip
 (.exit 0))
 (.seq (.block 1
 (.seq (.region [
 ⟨some 12, .cp (.t 10), none⟩,
 ⟨some 13, .iaddr 2 (.t 8) (.t 10), none⟩,
 ⟨some 14, .load 2 true (.t 13), none⟩,
 ⟨some 4, .alloc [.s (.int .i64 0), .s (.int .i64 0)], none⟩,
 ⟨some 3, .cp (.t 12), none⟩,
 ⟨none, .store 2 (.t 4) (.t 14), none⟩] (none))
 (.block 2
 (.seq (.region [
 ⟨some 16, .faddr (.t 4) 0, none⟩,
 ⟨some 17, .load 1 false (.t 16), none⟩,
 ⟨some 18, .call false zgv_ [(.t 17)], none⟩,
 ⟨some 19, .cp (.t 18), none⟩,
 ⟨some 20, .faddr (.t 4) 1, some (19, false)⟩,
 ⟨some 21, .load 1 false (.t 20), some (19, false)⟩,
 ⟨some 22, .call false zgv_ [(.t 21)], some (19, false)⟩,
 ⟨some 23, .pick (.t 19) (.c (.s (.bool true))) (.t 22), none⟩,
 ⟨some 15, .cp (.t 23), none⟩] (none))
 (.cond (.t 15)
 (.seq (.region [
 ⟨some 2, .cp (.c (.s (.int .i64 2))), none⟩] (none))
 .ret)
 (.seq (.region [
 ⟨some 25, .cp (.t 3), none⟩,
 ⟨some 26, .bin .gtr (.t 25) (.c (.s (.int .i64 0))), none⟩,
 ⟨some 27, .cp (.t 26), none⟩,
 ⟨some 28, .cp (.t 0), some (27, true)⟩,
 ⟨some 29, .cp (.t 3), some (27, true)⟩,
 ⟨some 30, .bin .sub (.t 29) (.c (.s (.int .i64 1))), some (27, true)⟩,
 ⟨some 31, .iaddr 2 (.t 28) (.t 30), some (27, true)⟩,
 ⟨some 32, .load 2 true (.t 31), some (27, true)⟩,
 ⟨some 33, .load 2 true (.t 4), some (27, true)⟩,
 ⟨some 34, .call false zgu_ [(.t 32), (.t 33)], some (27, true)⟩,
 ⟨some 35, .bin .geq (.t 34) (.c (.s (.int .i64 0))), some (27, true)⟩,
 ⟨some 36, .pick (.t 27) (.t 35) (.c (.s (.bool false))), none⟩,
 ⟨some 24, .cp (.t 36), none⟩] (some []))
 (.cond (.t 24)
 (.seq (.region [
 ⟨some 2, .cp (.c (.s (.int .i64 8))), none⟩] (none))
 .ret)
 .skip)))))))
 (.region [
 ⟨some 37, .bin .add (.t 10) (.c (.s (.int .i64 1))), none⟩,
 ⟨some 10, .cp (.t 37), none⟩] (none)))))
def zhh_ : XF := { np := 1, results := [(.inl 2, .v)], body :=
 (.seq (.region [
 ⟨some 2, .cp (.c (.s (.int .i64 0))), none⟩] (none))
 (.seq (.seq (.region [
 ⟨some 5, .cp (.t 0), none⟩,
 ⟨some 6, .len false (.t 5), none⟩,
 ⟨some 7, .bin .gtr (.t 6) (.c (.s (.int .i64 16))), none⟩] (none))
 (.cond (.t 7)
 (.seq (.region [
 ⟨some 2, .cp (.c (.s (.int .i64 6))), none⟩] (none))
 .ret)
 .skip))
 (.seq (.seq (.region [
 ⟨some 8, .cp (.t 0), none⟩,
 ⟨some 9, .len false (.t 8), none⟩,
 ⟨some 10, .cp (.c (.s (.int .i64 0))), none⟩] (none))
 (.block 0
 (.loop zfo_)))
 (.seq (.region [
 ⟨some 2, .cp (.c (.s (.int .i64 0))), none⟩] (none))
 .ret)))) }
def zpj_ : XC :=
 (.seq (.region [
 ⟨some 9, .bin .lss (.t 8) (.t 7), none⟩] (none))
 (.seq (.cond (.t 9)
 .skip
 (.exit 0))
 (.seq (.block 1
 (.seq (.region [
 ⟨some 10, .iaddr 1 (.t 6) (.t 8), none⟩,
 ⟨some 11, .load 1 false (.t 10), none⟩,
 ⟨some 5, .cp (.t 11), none⟩] (none))
 (.seq (.region [
 ⟨some 12, .cp (.t 5), none⟩,
 ⟨some 13, .cp (.t 3), none⟩,
 ⟨some 14, .bin .neq (.t 12) (.t 13), none⟩] (none))
 (.cond (.t 14)
 (.seq (.region [
 ⟨some 15, .cp (.t 5), none⟩,
 ⟨some 2, .cp (.t 15), none⟩] (none))
 .ret)
 .skip))))
 (.region [
 ⟨some 16, .bin .add (.t 8) (.c (.s (.int .i64 1))), none⟩,
 ⟨some 8, .cp (.t 16), none⟩] (none)))))
def zko_ : XF := { np := 1, results := [(.inl 2, .v)], body :=
 (.seq (.region [
 ⟨some 2, .cp (.c (.s (.int .i64 0))), none⟩] (none))
 (.seq (.region [
 ⟨some 3, .cp (.c (.s (.int .i64 0))), none⟩] (none))
 (.seq (.seq (.region [
 ⟨some 6, .cp (.t 0), none⟩,
 ⟨some 7, .len false (.t 6), none⟩,
 ⟨some 8, .cp (.c (.s (.int .i64 0))), none⟩] (none))
 (.block 0
 (.loop zpj_)))
 (.seq (.region [
 ⟨some 17, .cp (.t 3), none⟩,
 ⟨some 2, .cp (.t 17), none⟩] (none))
 .ret)))) }
def zpk_ : XC :=
 (.seq (.region [
 ⟨some 12, .bin .lss (.t 11) (.t 10), none⟩] (none))
 (.seq (.cond (.t 12)
 .skip
 (.exit 0))
 (.seq (.block 1
 (.seq (.region [
 ⟨some 13, .cp (.t 11), none⟩,
 ⟨some 14, .iaddr 1 (.t 9) (.t 11), none⟩,
 ⟨some 15, .load 1 false (.t 14), none⟩,
 ⟨some 5, .cp (.t 13), none⟩,
 ⟨some 6, .cp (.t 15), none⟩] (none))
 (.seq (.seq (.region [
 ⟨some 16, .cp (.t 5), none⟩,
 ⟨some 17, .cp (.t 1), none⟩,
 ⟨some 18, .len false (.t 17), none⟩,
 ⟨some 19, .bin .geq (.t 16) (.t 18), none⟩] (none))
 (.cond (.t 19)
 (.seq (.region [
 ⟨some 4, .cp (.c (.s (.int .i64 1))), none⟩] (none))
 .ret)
 .skip))
 (.seq (.region [
 ⟨some 20, .cp (.t 1), none⟩,
 ⟨some 21, .cp (.t 5), none⟩,
 ⟨some 22, .iaddr 1 (.t 20) (.t 21), none⟩,
 ⟨some 23, .load 1 false (.t 22), none⟩,
 ⟨some 7, .cp (.t 23), none⟩] (none))
 (.seq (.region [
 ⟨some 24, .cp (.t 6), none⟩,
 ⟨some 25, .cp (.t 7), none⟩,
 ⟨some 26, .call false zdm_ [(.t 24), (.t 25)], none⟩,
 ⟨some 8, .cp (.t 26), none⟩] (none))
 (.seq (.region [
 ⟨some 27, .cp (.t 8), none⟩,
 ⟨some 28, .bin .neq (.t 27) (.c (.s (.int .i64 0))), none⟩] (none))
 (.cond (.t 28)
 (.seq (.region [
 ⟨some 29, .cp (.t 8), none⟩,
 ⟨some 4, .cp (.t 29), none⟩] (none))
 .ret)
 .skip)))))))
 (.region [
 ⟨some 30, .bin .add (.t 11) (.c (.s (.int .i64 1))), none⟩,
 ⟨some 11, .cp (.t 30), none⟩] (none)))))
def zkp_ : XF := { np := 2, results := [(.inl 4, .v)], body :=
 (.seq (.region [
 ⟨some 4, .cp (.c (.s (.int .i64 0))), none⟩] (none))
 (.seq (.seq (.region [
 ⟨some 9, .cp (.t 0), none⟩,
 ⟨some 10, .len false (.t 9), none⟩,
 ⟨some 11, .cp (.c (.s (.int .i64 0))), none⟩] (none))
 (.block 0
 (.loop zpk_)))
 (.seq (.seq (.region [
 ⟨some 31, .cp (.t 0), none⟩,
 ⟨some 32, .len false (.t 31), none⟩,
 ⟨some 33, .cp (.t 1), none⟩,
 ⟨some 34, .len false (.t 33), none⟩,
 ⟨some 35, .bin .lss (.t 32) (.t 34), none⟩] (none))
 (.cond (.t 35)
 (.seq (.region [
 ⟨some 4, .cp (.c (.s (.int .i64 (-1)))), none⟩] (none))
 .ret)
 .skip))
 (.seq (.region [
 ⟨some 4, .cp (.c (.s (.int .i64 0))), none⟩] (none))
 .ret)))) }
def zfp_ : XF := { np := 2, results := [(.inl 4, .v)], body :=
 (.seq (.region [
 ⟨some 4, .cp (.c (.s (.int .i64 0))), none⟩] (none))
 (.seq (.region [
 ⟨some 7, .cp (.t 0), none⟩,
 ⟨some 8, .call false zos_ [(.t 7)], none⟩,
 ⟨some 5, .cp (.t 8), none⟩] (none))
 (.seq (.region [
 ⟨some 9, .cp (.t 1), none⟩,
 ⟨some 10, .call false zos_ [(.t 9)], none⟩,
 ⟨some 6, .cp (.t 10), none⟩] (none))
 (.seq (.seq (.region [
 ⟨some 11, .cp (.t 5), none⟩] (none))
 (.cond (.t 11)
 (.seq (.seq (.region [
 ⟨some 12, .cp (.t 6), none⟩] (none))
 (.cond (.t 12)
 (.seq (.region [
 ⟨some 4, .cp (.c (.s (.int .i64 0))), none⟩] (none))
 .ret)
 .skip))
 (.seq (.region [
 ⟨some 4, .cp (.c (.s (.int .i64 (-1)))), none⟩] (none))
 .ret))
 .skip))
 (.seq (.seq (.region [
 ⟨some 13, .cp (.t 6), none⟩] (none))
 (.cond (.t 13)
 (.seq (.region [
 ⟨some 4, .cp (.c (.s (.int .i64 1))), none⟩] (none))
 .ret)
 .skip))
 (.seq (.seq (.region [
 ⟨some 14, .cp (.t 0), none⟩,
 ⟨some 15, .cp (.t 1), none⟩,
 ⟨some 16, .bin .lss (.t 14) (.t 15), none⟩] (none))
 (.cond (.t 16)
 (.seq (.region [
 ⟨some 4, .cp (.c (.s (.int .i64 (-1)))), none⟩] (none))
 .ret)
 .skip))
 (.seq (.seq (.region [
 ⟨some 17, .cp (.t 0), none⟩,
 ⟨some 18, .cp (.t 1), none⟩,
 ⟨some 19, .bin .gtr (.t 17) (.t 18), none⟩] (none))
 (.cond (.t 19)
 (.seq (.region [
 ⟨some 4, .cp (.c (.s (.int .i64 1))), none⟩] (none))
 .ret)
 .skip))
 (.seq (.region [
 ⟨some 4, .cp (.c (.s (.int .i64 0))), none⟩] (none))
 .ret)))))))) }
def zhi_ : XF := { np := 2, results := [(.inl 4, .v)], body :=
 (.seq (.region [
 ⟨some 4, .cp (.c (.s (.int .i64 0))), none⟩] (none))
 (.seq (.region [
 ⟨some 7, .cp (.t 0), none⟩,
 ⟨some 8, .call false zot_ [(.t 7)], none⟩,
 ⟨some 5, .cp (.t 8), none⟩] (none))
 (.seq (.region [
 ⟨some 9, .cp (.t 1), none⟩,
 ⟨some 10, .call false zot_ [(.t 9)], none⟩,
 ⟨some 6, .cp (.t 10), none⟩] (none))
 (.seq (.seq (.region [
 ⟨some 11, .cp (.t 5), none⟩] (none))
 (.cond (.t 11)
 (.seq (.seq (.region [
 ⟨some 12, .cp (.t 6), none⟩] (none))
 (.cond (.t 12)
 (.seq (.region [
 ⟨some 4, .cp (.c (.s (.int .i64 0))), none⟩] (none))
 .ret)
 .skip))
 (.seq (.region [
 ⟨some 4, .cp (.c (.s (.int .i64 (-1)))), none⟩] (none))
 .ret))
 .skip))
 (.seq (.seq (.region [
 ⟨some 13, .cp (.t 6), none⟩] (none))
 (.cond (.t 13)
 (.seq (.region [
 ⟨some 4, .cp (.c (.s (.int .i64 1))), none⟩] (none))
 .ret)
 .skip))
 (.seq (.seq (.region [
 ⟨some 14, .cp (.t 0), none⟩,
 ⟨some 15, .cp (.t 1), none⟩,
 ⟨some 16, .bin .lss (.t 14) (.t 15), none⟩] (none))
 (.cond (.t 16)
 (.seq (.region [
 ⟨some 4, .cp (.c (.s (.int .i64 (-1)))), none⟩] (none))
 .ret)
 .skip))
 (.seq (.seq (.region [
 ⟨some 17, .cp (.t 0), none⟩,
 ⟨some 18, .cp (.t 1), none⟩,
 ⟨some 19, .bin .gtr (.t 17) (.t 18), none⟩] (none))
 (.cond (.t 19)
 (.seq (.region [
 ⟨some 4, .cp (.c (.s (.int .i64 1))), none⟩] (none))
 .ret)
 .skip))
 (.seq (.region [
 ⟨some 4, .cp (.c (.s (.int .i64 0))), none⟩] (none))
 .ret)))))))) }
def zkq_ : XF := { np := 1, results := [(.inl 2, .v)], body :=
 (.seq (.region [
 ⟨some 2, .cp (.c (.s (.int .i64 0))), none⟩] (none))
 (.seq (.seq (.region [
 ⟨some 3, .cp (.t 0), none⟩] (none))
 (.cond (.t 3)
 (.seq (.region [
 ⟨some 2, .cp (.c (.s (.int .i64 1))), none⟩] (none))
 .ret)
 .skip))
 (.seq (.region [
 ⟨some 2, .cp (.c (.s (.int .i64 0))), none⟩] (none))
 .ret))) }
def zkr_ : XF := { np := 2, results := [(.inl 4, .v)], body :=
 (.seq (.region [
 ⟨some 4, .cp (.c (.s (.int .i64 0))), none⟩] (none))
 (.seq (.region [
 ⟨some 5, .cp (.t 0), none⟩,
 ⟨some 6, .cp (.t 1), none⟩,
 ⟨some 7, .call false zti_ [(.t 5), (.t 6), (.c (.fn zjk_ [] []))], none⟩,
 ⟨some 4, .cp (.t 7), none⟩] (none))
 .ret)) }
def zhj_ : XC :=
 (.seq (.region [
 ⟨some 14, .bin .lss (.t 13) (.t 12), none⟩] (none))
 (.seq (.cond (.t 14)
 .skip
 (.exit 0))
 (.seq (.block 1
 (.seq (.region [
 ⟨some 15, .cp (.t 13), none⟩,
 ⟨some 16, .iaddr 2 (.t 11) (.t 13), none⟩,
 ⟨some 17, .load 2 true (.t 16), none⟩,
 ⟨some 8, .alloc [.s (.int .i64 0), .s (.int .i64 0)], none⟩,
 ⟨some 7, .cp (.t 15), none⟩,
 ⟨none, .store 2 (.t 8) (.t 17), none⟩] (none))
 (.seq (.seq (.region [
 ⟨some 18, .cp (.t 7), none⟩,
 ⟨some 19, .cp (.t 1), none⟩,
 ⟨some 20, .len false (.t 19), none⟩,
 ⟨some 21, .bin .geq (.t 18) (.t 20), none⟩] (none))
 (.cond (.t 21)
 (.seq (.region [
 ⟨some 6, .cp (.c (.s (.int .i64 1))), none⟩] (none))
 .ret)
 .skip))
 (.seq (.region [
 ⟨some 22, .cp (.t 1), none⟩,
 ⟨some 23, .cp (.t 7), none⟩,
 ⟨some 24, .iaddr 2 (.t 22) (.t 23), none⟩,
 ⟨some 25, .load 2 true (.t 24), none⟩,
 ⟨some 9, .alloc [.s (.int .i64 0), .s (.int .i64 0)], none⟩,
 ⟨none, .store 2 (.t 9) (.t 25), none⟩] (none))
 (.seq (.region [
 ⟨some 26, .cp (.t 2), none⟩,
 ⟨some 27, .load 2 true (.t 8), none⟩,
 ⟨some 28, .load 2 true (.t 9), none⟩,
 ⟨some 29, .callv false (.t 26) [(.t 27), (.t 28)], none⟩,
 ⟨some 10, .cp (.t 29), none⟩] (none))
 (.seq (.region [
 ⟨some 30, .cp (.t 10), none⟩,
 ⟨some 31, .bin .neq (.t 30) (.c (.s (.int .i64 0))), none⟩] (none))
 (.cond (.t 31)
 (.seq (.region [
 ⟨some 32, .cp (.t 10), none⟩,
 ⟨some 6, .cp (.t 32), none⟩] (none))
 .ret)
 .skip)))))))
 (.region [
 ⟨some 33, .bin .add (.t 13) (.c (.s (.int .i64 1))), none⟩,
 ⟨some 13, .cp (.t 33), none⟩] (none)))))
def zks_ : XF := { np := 3, results := [(.inl 6, .v)], body :=
 (.seq (.region [
 ⟨some 6, .cp (.c (.s (.int .i64 0))), none⟩] (none))
 (.seq (.seq (.region [
 ⟨some 11, .cp (.t 0), none⟩,
 ⟨some 12, .len false (.t 11), none⟩,
 ⟨some 13, .cp (.c (.s (.int .i64 0))), none⟩] (none))
 (.block 0
 (.loop zhj_)))
 (.seq (.seq (.region [
 ⟨some 34, .cp (.t 0), none⟩,
 ⟨some 35, .len false (.t 34), none⟩,
 ⟨some 36, .cp (.t 1), none⟩,
 ⟨some 37, .len false (.t 36), none⟩,
 ⟨some 38, .bin .lss (.t 35) (.t 37), none⟩] (none))
 (.cond (.t 38)
 (.seq (.region [
 ⟨some 6, .cp (.c (.s (.int .i64 (-1)))), none⟩] (none))
 .ret)
 .skip))
 (.seq (.region [
 ⟨some 6, .cp (.c (.s (.int .i64 0))), none⟩] (none))
 .ret)))) }
def zkt_ : XC :=
 (.seq (.region [
 ⟨some 11, .bin .lss (.t 10) (.t 9), none⟩] (none))
 (.seq (.cond (.t 11)
 .skip
 (.exit 0))
 (.seq (.block 1
 (.seq (.region [
 ⟨some 12, .cp (.t 10), none⟩,
 ⟨some 7, .cp (.t 12), none⟩] (none))
 (.seq (.region [
 ⟨some 13, .cp (.t 0), none⟩,
 ⟨some 14, .cp (.t 7), none⟩,
 ⟨some 15, .idxS (.t 13) (.t 14), none⟩,
 ⟨some 16, .cp (.t 1), none⟩,
 ⟨some 17, .bin .lss (.t 15) (.t 16), none⟩,
 ⟨some 18, .cp (.t 17), none⟩,
 ⟨some 19, .cp (.t 0), some (18, false)⟩,
 ⟨some 20, .cp (.t 7), some (18, false)⟩,
 ⟨some 21, .idxS (.t 19) (.t 20), some (18, false)⟩,
 ⟨some 22, .cp (.t 2), some (18, false)⟩,
 ⟨some 23, .bin .gtr (.t 21) (.t 22), some (18, false)⟩,
 ⟨some 24, .pick (.t 18) (.c (.s (.bool true))) (.t 23), none⟩] (none))
 (.cond (.t 24)
 (.seq (.region [
 ⟨some 6, .cp (.c (.s (.bool false))), none⟩] (none))
 .ret)
 .skip))))
 (.region [
 ⟨some 25, .bin .add (.t 10) (.c (.s (.int .i64 1))), none⟩,
 ⟨some 10, .cp (.t 25), none⟩] (none)))))
def zku_ : XF := { np := 3, results := [(.inl 6, .v)], body :=
 (.seq (.region [
 ⟨some 6, .cp (.c (.s (.bool false))), none⟩] (none))
 (.seq (.seq (.region [
 ⟨some 8, .cp (.t 0), none⟩,
 ⟨some 9, .len true (.t 8), none⟩,
 ⟨some 10, .cp (.c (.s (.int .i64 0))), none⟩] (none))
 (.block 0
 (.loop zkt_)))
 (.seq (.region [
 ⟨some 6, .cp (.c (.s (.bool true))), none⟩] (none))
 .ret))) }
def zpl_ : XC :=
 (.seq (.region [
 ⟨some 11, .bin .lss (.t 10) (.t 9), none⟩] (none))
 (.seq (.cond (.t 11)
 .skip
 (.exit 0))
 (.seq (.block 1
 (.seq (.region [
 ⟨some 12, .cp (.t 10), none⟩,
 ⟨some 13, .iaddr 14 (.t 8) (.t 10), none⟩,
 ⟨some 14, .load 14 true (.t 13), none⟩,
 ⟨some 7, .alloc [.s (.int .i64 0), .s (.int .i64 0), .s (.int .i64 0), .s (.int .i64 0), .s (.int .i64 0), .s (.int .i64 0), .s (.string ⟨#[]⟩), .s (.string ⟨#[]⟩), .s (.string ⟨#[]⟩), .s (.int .i64 0), .s (.int .i64 0), .s (.bool false), .s (.slice none 0 0), .s (.slice none 0 0)], none⟩,
 ⟨some 6, .cp (.t 12), none⟩,
 ⟨none, .store 14 (.t 7) (.t 14), none⟩] (none))
 (.seq (.region [
 ⟨some 15, .cp (.t 1), none⟩,
 ⟨some 16, .cp (.t 6), none⟩,
 ⟨some 17, .callv false (.t 15) [(.t 16)], none⟩] (none))
 (.cond (.t 17)
 (.region [
 ⟨some 18, .cp (.t 5), none⟩,
 ⟨some 19, .load 14 true (.t 7), none⟩,
 ⟨some 20, .call false ztk_ [(.t 19)], none⟩,
 ⟨some 21, .bslice false 14 [(.t 20)], none⟩,
 ⟨some 22, .append 14 837723144972 (.t 18) (.t 21), none⟩,
 ⟨some 5, .cp (.t 22), none⟩] (none))
 .skip))))
 (.region [
 ⟨some 23, .bin .add (.t 10) (.c (.s (.int .i64 1))), none⟩,
 ⟨some 10, .cp (.t 23), none⟩] (none)))))
def zkv_ : XF := { np := 2, results := [(.inl 4, .v)], body :=
 (.seq (.region [
 ⟨some 4, .cp (.c (.s (.slice none 0 0))), none⟩] (none))
 (.seq (.region [
 ⟨some 5, .cp (.c (.s (.slice none 0 0))), none⟩] (none))
 (.seq (.seq (.region [
 ⟨some 8, .cp (.t 0), none⟩,
 ⟨some 9, .len false (.t 8), none⟩,
 ⟨some 10, .cp (.c (.s (.int .i64 0))), none⟩] (none))
 (.block 0
 (.loop zpl_)))
 (.seq (.region [
 ⟨some 24, .cp (.t 5), none⟩,
 ⟨some 4, .cp (.t 24), none⟩] (none))
 .ret)))) }
def zfq_ : XF := { np := 1, results := [(.inl 2, .v)], body :=
 (.seq (.region [
 ⟨some 2, .cp (.c (.s (.slice none 0 0))), none⟩] (none))
 (.seq (.region [
 ⟨some 3, .cp (.t 0), none⟩,
 ⟨some 4, .call false zfl_ [(.t 3)], none⟩,
 ⟨some 5, .call true ztl_ [(.t 4), (.c (.fn zdg_ [] []))], none⟩,
 ⟨some 6, .call false zjl_ [(.t 5), (.c (.fn zck_ [] []))], none⟩,
 ⟨some 2, .cp (.t 6), none⟩] (none))
 .ret)) }
def zkw_ : XF := { np := 1, results := [(.inl 2, .v)], body :=
 (.seq (.region [
 ⟨some 2, .cp (.c (.s (.bool false))), none⟩] (none))
 (.seq (.region [
 ⟨some 2, .cp (.c (.s (.bool true))), none⟩] (none))
 .ret)) }
def zpm_ : XC :=
 (.seq (.region [
 ⟨some 12, .bin .lss (.t 11) (.t 10), none⟩] (none))
 (.seq (.cond (.t 12)
 .skip
 (.exit 0))
 (.seq (.block 1
 (.seq (.region [
 ⟨some 13, .iaddr 1 (.t 9) (.t 11), none⟩,
 ⟨some 14, .load 1 false (.t 13), none⟩,
 ⟨some 5, .cp (.t 14), none⟩] (none))
 (.seq (.region [
 ⟨some 15, .cp (.t 3), none⟩,
 ⟨some 16, .cp (.t 5), none⟩,
 ⟨some 17, .len false (.t 16), none⟩,
 ⟨some 18, .bin .add (.t 15) (.t 17), none⟩,
 ⟨some 3, .cp (.t 18), none⟩] (none))
 (.seq (.region [
 ⟨some 19, .cp (.t 3), none⟩,
 ⟨some 20, .bin .lss (.t 19) (.c (.s (.int .i64 0))), none⟩] (none))
 (.cond (.t 20)
 (.region [
 ⟨some 21, .slArr 0 (.c (.s (.slice none 0 0))), none⟩,
 ⟨none, .slArr 0 (.c (.s (.slice none 0 0))), none⟩] (none))
 .skip)))))
 (.region [
 ⟨some 22, .bin .add (.t 11) (.c (.s (.int .i64 1))), none⟩,
 ⟨some 11, .cp (.t 22), none⟩] (none)))))
def zkx_ : XC :=
 (.seq (.region [
 ⟨some 28, .bin .lss (.t 27) (.t 26), none⟩] (none))
 (.seq (.cond (.t 28)
 .skip
 (.exit 2))
 (.seq (.block 3
 (.seq (.region [
 ⟨some 29, .iaddr 1 (.t 25) (.t 27), none⟩,
 ⟨some 30, .load 1 false (.t 29), none⟩,
 ⟨some 8, .cp (.t 30), none⟩] (none))
 (.region [
 ⟨some 31, .cp (.t 6), none⟩,
 ⟨some 32, .cp (.t 8), none⟩,
 ⟨some 33, .append 14 837723144972 (.t 31) (.t 32), none⟩,
 ⟨some 6, .cp (.t 33), none⟩] (none))))
 (.region [
 ⟨some 34, .bin .add (.t 27) (.c (.s (.int .i64 1))), none⟩,
 ⟨some 27, .cp (.t 34), none⟩] (none)))))
def zky_ : XF := { np := 1, results := [(.inl 2, .v)], body :=
 (.seq (.region [
 ⟨some 2, .cp (.c (.s (.slice none 0 0))), none⟩] (none))
 (.seq (.region [
 ⟨some 3, .cp (.c (.s (.int .i64 0))), none⟩] (none))
 (.seq (.seq (.region [
 ⟨some 9, .cp (.t 0), none⟩,
 ⟨some 10, .len false (.t 9), none⟩,
 ⟨some 11, .cp (.c (.s (.int .i64 0))), none⟩] (none))
 (.block 0
 (.loop zpm_)))
 (.seq (.region [
 ⟨some 23, .cp (.t 3), none⟩,
 ⟨some 24, .call true zou_ [(.c (.s (.slice none 0 0))), (.t 23)], none⟩,
 ⟨some 6, .cp (.t 24), none⟩] (none))
 (.seq (.seq (.region [
 ⟨some 25, .cp (.t 0), none⟩,
 ⟨some 26, .len false (.t 25), none⟩,
 ⟨some 27, .cp (.c (.s (.int .i64 0))), none⟩] (none))
 (.block 2
 (.loop zkx_)))
 (.seq (.region [
 ⟨some 35, .cp (.t 6), none⟩,
 ⟨some 2, .cp (.t 35), none⟩] (none))
 .ret)))))) }
def zkz_ : XF := { np := 1, results := [(.inl 2, .v)], body :=
 (.seq (.region [
 ⟨some 2, .cp (.c (.s (.bool false))), none⟩] (none))
 (.seq (.region [
 ⟨some 3, .cp (.t 0), none⟩,
 ⟨some 4, .cp (.t 0), none⟩,
 ⟨some 5, .bin .neq (.t 3) (.t 4), none⟩,
 ⟨some 2, .cp (.t 5), none⟩] (none))
 .ret)) }
def zla_ : XF := { np := 1, results := [(.inl 2, .v)], body :=
 (.seq (.region [
 ⟨some 2, .cp (.c (.s (.bool false))), none⟩] (none))
 (.seq (.region [
 ⟨some 3, .cp (.t 0), none⟩,
 ⟨some 4, .cp (.t 0), none⟩,
 ⟨some 5, .bin .neq (.t 3) (.t 4), none⟩,
 ⟨some 2, .cp (.t 5), none⟩] (none))
 .ret)) }
def zhk_ : XC :=
 (.seq (.region [
 ⟨some 14, .bin .lss (.t 13) (.t 12), none⟩] (none))
 (.seq (.cond (.t 14)
 .skip
 (.exit 0))
 (.seq (.block 1
 (.seq (.region [
 ⟨some 15, .cp (.t 13), none⟩,
 ⟨some 16, .iaddr 4 (.t 11) (.t 13), none⟩,
 ⟨some 17, .load 4 true (.t 16), none⟩,
 ⟨some 8, .alloc [.s (.string ⟨#[]⟩), .s (.int .i64 0), .s (.string ⟨#[]⟩), .s (.int .i64 0)], none⟩,
 ⟨some 7, .cp (.t 15), none⟩,
 ⟨none, .store 4 (.t 8) (.t 17), none⟩] (none))
 (.seq (.seq (.region [
 ⟨some 18, .cp (.t 7), none⟩,
 ⟨some 19, .cp (.t 1), none⟩,
 ⟨some 20, .len false (.t 19), none⟩,
 ⟨some 21, .bin .geq (.t 18) (.t 20), none⟩] (none))
 (.cond (.t 21)
 (.seq (.region [
 ⟨some 6, .cp (.c (.s (.int .i64 1))), none⟩] (none))
 .ret)
 .skip))
 (.seq (.region [
 ⟨some 22, .cp (.t 1), none⟩,
 ⟨some 23, .cp (.t 7), none⟩,
 ⟨some 24, .iaddr 4 (.t 22) (.t 23), none⟩,
 ⟨some 25, .load 4 true (.t 24), none⟩,
 ⟨some 9, .alloc [.s (.string ⟨#[]⟩), .s (.int .i64 0), .s (.string ⟨#[]⟩), .s (.int .i64 0)], none⟩,
 ⟨none, .store 4 (.t 9) (.t 25), none⟩] (none))
 (.seq (.region [
 ⟨some 26, .cp (.t 2), none⟩,
 ⟨some 27, .load 4 true (.t 8), none⟩,
 ⟨some 28, .load 4 true (.t 9), none⟩,
 ⟨some 29, .callv false (.t 26) [(.t 27), (.t 28)], none⟩,
 ⟨some 10, .cp (.t 29), none⟩] (none))
 (.seq (.region [
 ⟨some 30, .cp (.t 10), none⟩,
 ⟨some 31, .bin .neq (.t 30) (.c (.s (.int .i64 0))), none⟩] (none))
 (.cond (.t 31)
 (.seq (.region [
 ⟨some 32, .cp (.t 10), none⟩,
 ⟨some 6, .cp (.t 32), none⟩] (none))
 .ret)
 .skip)))))))
 (.region [
 ⟨some 33, .bin .add (.t 13) (.c (.s (.int .i64 1))), none⟩,
 ⟨some 13, .cp (.t 33), none⟩] (none)))))
def zlb_ : XF := { np := 3, results := [(.inl 6, .v)], body :=
 (.seq (.region [
 ⟨some 6, .cp (.c (.s (.int .i64 0))), none⟩] (none))
 (.seq (.seq (.region [
 ⟨some 11, .cp (.t 0), none⟩,
 ⟨some 12, .len false (.t 11), none⟩,
 ⟨some 13, .cp (.c (.s (.int .i64 0))), none⟩] (none))
 (.block 0
 (.loop zhk_)))
 (.seq (.seq (.region [
 ⟨some 34, .cp (.t 0), none⟩,
 ⟨some 35, .len false (.t 34), none⟩,
 ⟨some 36, .cp (.t 1), none⟩,
 ⟨some 37, .len false (.t 36), none⟩,
 ⟨some 38, .bin .lss (.t 35) (.t 37), none⟩] (none))
 (.cond (.t 38)
 (.seq (.region [
 ⟨some 6, .cp (.c (.s (.int .i64 (-1)))), none⟩] (none))
 .ret)
 .skip))
 (.seq (.region [
 ⟨some 6, .cp (.c (.s (.int .i64 0))), none⟩] (none))
 .ret)))) }
def zlc_ : XF := { np := 2, results := [(.inl 4, .v)], body :=
 (.seq (.region [
 ⟨some 2, .box false (.t 0), none⟩,
 ⟨some 3, .box false (.t 1), none⟩,
 ⟨some 4, .cp (.c (.s (.int .i64 0))), none⟩] (none))
 (.seq (.region [
 ⟨some 5, .faddr (.t 2) 0, none⟩,
 ⟨some 6, .load 1 false (.t 5), none⟩,
 ⟨some 7, .faddr (.t 3) 0, none⟩,
 ⟨some 8, .load 1 false (.t 7), none⟩,
 ⟨some 9, .call false zfk_ [(.t 6), (.t 8)], none⟩,
 ⟨some 10, .faddr (.t 2) 1, none⟩,
 ⟨some 11, .load 3 true (.t 10), none⟩,
 ⟨some 12, .faddr (.t 3) 1, none⟩,
 ⟨some 13, .load 3 true (.t 12), none⟩,
 ⟨some 14, .call false ztj_ [(.t 11), (.t 13)], none⟩,
 ⟨some 15, .bslice false 1 [(.t 9), (.t 14)], none⟩,
 ⟨some 16, .call false zgx_ [(.t 15)], none⟩,
 ⟨some 4, .cp (.t 16), none⟩] (some [(4, some 6), (4, some 8)]))
 .ret)) }
def zld_ : XF := { np := 2, results := [(.inl 4, .v)], body :=
 (.seq (.region [
 ⟨some 2, .box false (.t 0), none⟩,
 ⟨some 3, .box false (.t 1), none⟩,
 ⟨some 4, .cp (.c (.s (.int .i64 0))), none⟩] (none))
 (.seq (.region [
 ⟨some 5, .faddr (.t 2) 0, none⟩,
 ⟨some 6, .load 1 false (.t 5), none⟩,
 ⟨some 7, .faddr (.t 3) 0, none⟩,
 ⟨some 8, .load 1 false (.t 7), none⟩,
 ⟨some 9, .call false zdm_ [(.t 6), (.t 8)], none⟩,
 ⟨some 10, .faddr (.t 2) 1, none⟩,
 ⟨some 11, .load 1 false (.t 10), none⟩,
 ⟨some 12, .faddr (.t 3) 1, none⟩,
 ⟨some 13, .load 1 false (.t 12), none⟩,
 ⟨some 14, .call false zfk_ [(.t 11), (.t 13)], none⟩,
 ⟨some 15, .faddr (.t 2) 2, none⟩,
 ⟨some 16, .load 1 false (.t 15), none⟩,
 ⟨some 17, .faddr (.t 3) 2, none⟩,
 ⟨some 18, .load 1 false (.t 17), none⟩,
 ⟨some 19, .call false zdm_ [(.t 16), (.t 18)], none⟩,
 ⟨some 20, .bslice false 1 [(.t 9), (.t 14), (.t 19)], none⟩,
 ⟨some 21, .call false zgx_ [(.t 20)], none⟩,
 ⟨some 4, .cp (.t 21), none⟩] (some [(4, none), (9, some 11), (9, some 13)]))
 .ret)) }
def zle_ : XF := { np := 1, results := [(.inr (2, 14, true), .v)], body :=
 (.seq (.region [
 ⟨some 1, .box false (.t 0), none⟩,
 ⟨some 2, .alloc [.s (.int .i64 0), .s (.int .i64 0), .s (.int .i64 0), .s (.int .i64 0), .s (.int .i64 0), .s (.int .i64 0), .s (.string ⟨#[]⟩), .s (.string ⟨#[]⟩), .s (.string ⟨#[]⟩), .s (.int .i64 0), .s (.int .i64 0), .s (.bool false), .s (.slice none 0 0), .s (.slice none 0 0)], none⟩] (none))
 (.seq (.region [
 ⟨some 3, .faddr (.t 1) 12, none⟩,
 ⟨some 4, .load 1 false (.t 3), none⟩,
 ⟨some 5, .call false zov_ [(.t 4)], none⟩,
 ⟨some 6, .faddr (.t 1) 13, none⟩,
 ⟨some 7, .load 1 false (.t 6), none⟩,
 ⟨some 8, .call false zow_ [(.t 7)], none⟩,
 ⟨some 9, .faddr (.t 1) 12, none⟩,
 ⟨none, .store 1 (.t 9) (.t 5), none⟩,
 ⟨some 10, .faddr (.t 1) 13, none⟩,
 ⟨none, .store 1 (.t 10) (.t 8), none⟩] (some [(2, some 4)]))
 (.seq (.region [
 ⟨some 11, .load 14 true (.t 1), none⟩,
 ⟨none, .store 14 (.t 2) (.t 11), none⟩] (none))
 .ret))) }
def zpn_ : XC :=
 (.seq (.seq (.region [
 ⟨some 32, .cp (.t 7), none⟩,
 ⟨some 33, .cp (.t 6), none⟩,
 ⟨some 34, .len false (.t 33), none⟩,
 ⟨some 35, .bin .lss (.t 32) (.t 34), none⟩] (none))
 (.cond (.t 35)
 .skip
 (.exit 2)))
 (.seq (.block 3
 (.seq (.region [
 ⟨some 38, .cp (.t 1), none⟩,
 ⟨some 39, .cp (.t 6), none⟩,
 ⟨some 40, .cp (.t 7), none⟩,
 ⟨some 41, .iaddr 14 (.t 39) (.t 40), none⟩,
 ⟨some 42, .load 14 true (.t 41), none⟩,
 ⟨some 43, .cp (.t 6), none⟩,
 ⟨some 44, .cp (.t 7), none⟩,
 ⟨some 45, .bin .sub (.t 44) (.c (.s (.int .i64 1))), none⟩,
 ⟨some 46, .iaddr 14 (.t 43) (.t 45), none⟩,
 ⟨some 47, .load 14 true (.t 46), none⟩,
 ⟨some 48, .callv false (.t 38) [(.t 42), (.t 47)], none⟩,
 ⟨some 49, .un .not (.t 48), none⟩] (some []))
 (.cond (.t 49)
 (.seq (.region [
 ⟨some 50, .cp (.t 0), none⟩,
 ⟨some 51, .cp (.t 5), none⟩,
 ⟨some 52, .cp (.t 6), none⟩,
 ⟨some 53, .cp (.t 7), none⟩,
 ⟨some 54, .iaddr 14 (.t 52) (.t 53), none⟩,
 ⟨some 55, .load 14 true (.t 54), none⟩,
 ⟨some 56, .iaddr 14 (.t 50) (.t 51), none⟩,
 ⟨none, .store 14 (.t 56) (.t 55), none⟩] (none))
 (.region [
 ⟨some 57, .cp (.t 5), none⟩,
 ⟨some 58, .bin .add (.t 57) (.c (.s (.int .i64 1))), none⟩,
 ⟨some 5, .cp (.t 58), none⟩] (none)))
 .skip)))
 (.region [
 ⟨some 36, .cp (.t 7), none⟩,
 ⟨some 37, .bin .add (.t 36) (.c (.s (.int .i64 1))), none⟩,
 ⟨some 7, .cp (.t 37), none⟩] (none))))
def zpo_ : XC :=
 (.seq (.seq (.region [
 ⟨some 12, .cp (.t 5), none⟩,
 ⟨some 13, .cp (.t 0), none⟩,
 ⟨some 14, .len false (.t 13), none⟩,
 ⟨some 15, .bin .lss (.t 12) (.t 14), none⟩] (none))
 (.cond (.t 15)
 .skip
 (.exit 0)))
 (.seq (.block 1
 (.seq (.region [
 ⟨some 18, .cp (.t 1), none⟩,
 ⟨some 19, .cp (.t 0), none⟩,
 ⟨some 20, .cp (.t 5), none⟩,
 ⟨some 21, .iaddr 14 (.t 19) (.t 20), none⟩,
 ⟨some 22, .load 14 true (.t 21), none⟩,
 ⟨some 23, .cp (.t 0), none⟩,
 ⟨some 24, .cp (.t 5), none⟩,
 ⟨some 25, .bin .sub (.t 24) (.c (.s (.int .i64 1))), none⟩,
 ⟨some 26, .iaddr 14 (.t 23) (.t 25), none⟩,
 ⟨some 27, .load 14 true (.t 26), none⟩,
 ⟨some 28, .callv false (.t 18) [(.t 22), (.t 27)], none⟩] (some []))
 (.cond (.t 28)
 (.seq (.region [
 ⟨some 29, .cp (.t 0), none⟩,
 ⟨some 30, .cp (.t 5), none⟩,
 ⟨some 31, .slLst 14 (.t 29) (some (.t 30)) none, none⟩,
 ⟨some 6, .cp (.t 31), none⟩] (none))
 (.seq (.seq (.region [
 ⟨some 7, .cp (.c (.s (.int .i64 1))), none⟩] (none))
 (.block 2
 (.loop zpn_)))
 (.seq (.region [
 ⟨some 59, .cp (.t 0), none⟩,
 ⟨some 60, .cp (.t 5), none⟩,
 ⟨some 61, .slLst 14 (.t 59) (some (.t 60)) none, none⟩,
 ⟨none, .clear 14 (.agg [.s (.int .i64 0), .s (.int .i64 0), .s (.int .i64 0), .s (.int .i64 0), .s (.int .i64 0), .s (.int .i64 0), .s (.string ⟨#[]⟩), .s (.string ⟨#[]⟩), .s (.string ⟨#[]⟩), .s (.int .i64 0), .s (.int .i64 0), .s (.bool false), .s (.slice none 0 0), .s (.slice none 0 0)]) (.t 61), none⟩] (none))
 (.seq (.region [
 ⟨some 62, .cp (.t 0), none⟩,
 ⟨some 63, .cp (.t 5), none⟩,
 ⟨some 64, .slFrz 14 (.t 62) none (some (.t 63)), none⟩,
 ⟨some 4, .cp (.t 64), none⟩] (none))
 .ret))))
 .skip)))
 (.region [
 ⟨some 16, .cp (.t 5), none⟩,
 ⟨some 17, .bin .add (.t 16) (.c (.s (.int .i64 1))), none⟩,
 ⟨some 5, .cp (.t 17), none⟩] (none))))
def zfr_ : XF := { np := 2, results := [(.inl 4, .v)], body :=
 (.seq (.region [
 ⟨some 4, .cp (.c (.s (.slice none 0 0))), none⟩] (none))
 (.seq (.seq (.region [
 ⟨some 8, .cp (.t 0), none⟩,
 ⟨some 9, .len false (.t 8), none⟩,
 ⟨some 10, .bin .lss (.t 9) (.c (.s (.int .i64 2))), none⟩] (none))
 (.cond (.t 10)
 (.seq (.region [
 ⟨some 11, .cp (.t 0), none⟩,
 ⟨some 4, .cp (.t 11), none⟩] (none))
 .ret)
 .skip))
 (.seq (.seq (.region [
 ⟨some 5, .cp (.c (.s (.int .i64 1))), none⟩] (none))
 (.block 0
 (.loop zpo_)))
 (.seq (.region [
 ⟨some 65, .cp (.t 0), none⟩,
 ⟨some 4, .cp (.t 65), none⟩] (none))
 .ret)))) }
def zhl_ : XF := { np := 2, results := [(.inl 4, .v)], body :=
 (.seq (.region [
 ⟨some 4, .cp (.c (.s (.slice none 0 0))), none⟩] (none))
 (.seq (.region [
 ⟨some 6, .cp (.t 0), none⟩,
 ⟨some 7, .call true ztm_ [(.t 6)], none⟩,
 ⟨some 5, .cp (.t 7), none⟩] (none))
 (.seq (.region [
 ⟨some 8, .cp (.t 5), none⟩,
 ⟨some 9, .cp (.t 1), none⟩,
 ⟨some 10, .call false zox_ [(.t 8), (.t 9)], none⟩] (none))
 (.seq (.region [
 ⟨some 11, .cp (.t 5), none⟩,
 ⟨some 4, .cp (.t 11), none⟩] (none))
 .ret)))) }
def zhm_ : XF := { np := 1, results := [(.inl 2, .c)], body :=
 (.seq (.region [
 ⟨some 1, .box true (.t 0), none⟩,
 ⟨some 2, .cp (.c (.s .nilFunc)), none⟩] (none))
 (.seq (.region [
 ⟨some 3, .mkfn false zcl_ [] [(.t 1)], none⟩,
 ⟨some 2, .cp (.t 3), none⟩] (none))
 .ret)) }
def zuo_ : XF := { np := 2, results := [], body := .skip, nat := some (.grow 14 837723144972) }
def zhn_ : XF := { np := 1, results := [(.inl 2, .v)], body :=
 (.seq (.region [
 ⟨some 2, .cp (.c (.s (.slice none 0 0))), none⟩] (none))
 (.seq (.seq (.region [
 ⟨some 3, .cp (.t 0), none⟩,
 ⟨some 4, .eqv .s false (.t 3) (.c (.s (.slice none 0 0))), none⟩] (none))
 (.cond (.t 4)
 (.seq (.region [
 ⟨some 2, .cp (.c (.s (.slice none 0 0))), none⟩] (none))
 .ret)
 .skip))
 (.seq (.region [
 ⟨some 5, .bslice true 4 [], none⟩,
 ⟨some 6, .cp (.t 0), none⟩,
 ⟨some 7, .append 4 2932031007402 (.t 5) (.t 6), none⟩,
 ⟨some 2, .cp (.t 7), none⟩] (none))
 .ret))) }
def zho_ : XF := { np := 1, results := [(.inl 2, .v)], body :=
 (.seq (.region [
 ⟨some 2, .cp (.c (.s (.slice none 0 0))), none⟩] (none))
 (.seq (.seq (.region [
 ⟨some 3, .cp (.t 0), none⟩,
 ⟨some 4, .eqv .s false (.t 3) (.c (.s (.slice none 0 0))), none⟩] (none))
 (.cond (.t 4)
 (.seq (.region [
 ⟨some 2, .cp (.c (.s (.slice none 0 0))), none⟩] (none))
 .ret)
 .skip))
 (.seq (.region [
 ⟨some 5, .bslice true 2 [], none⟩,
 ⟨some 6, .cp (.t 0), none⟩,
 ⟨some 7, .append 2 8796093022208 (.t 5) (.t 6), none⟩,
 ⟨some 2, .cp (.t 7), none⟩] (none))
 .ret))) }
def zhp_ : XF := { np := 1, results := [(.inl 2, .v)], body :=
 (.seq (.region [
 ⟨some 2, .cp (.c (.s (.slice none 0 0))), none⟩] (none))
 (.seq (.region [
 ⟨some 3, .cp (.t 0), none⟩,
 ⟨some 4, .call true ztn_ [(.c (.s (.slice none 0 0))), (.t 3)], none⟩,
 ⟨some 2, .cp (.t 4), none⟩] (none))
 .ret)) }
def zup_ : XF := { np := 2, results := [], body := .skip, nat := some (.sort 14) }
def zbxe_ : XC :=
 (.seq (.region [
 ⟨some 8, .bin .lss (.t 7) (.t 6), none⟩] (none))
 (.seq (.cond (.t 8)
 .skip
 (.exit 0))
 (.seq (.block 1
 (.seq (.region [
 ⟨some 9, .iaddr 14 (.t 5) (.t 7), none⟩,
 ⟨some 10, .load 14 true (.t 9), none⟩,
 ⟨some 4, .alloc [.s (.int .i64 0), .s (.int .i64 0), .s (.int .i64 0), .s (.int .i64 0), .s (.int .i64 0), .s (.int .i64 0), .s (.string ⟨#[]⟩), .s (.string ⟨#[]⟩), .s (.string ⟨#[]⟩), .s (.int .i64 0), .s (.int .i64 0), .s (.bool false), .s (.slice none 0 0), .s (.slice none 0 0)], none⟩,
 ⟨none, .store 14 (.t 4) (.t 10), none⟩] (none))
 (.seq (.region [
 ⟨some 11, .cp (.t 0), none⟩,
 ⟨some 12, .load 14 true (.t 4), none⟩,
 ⟨some 13, .callv false (.t 11) [(.t 12)], none⟩,
 ⟨some 14, .un .not (.t 13), none⟩] (none))
 (.cond (.t 14)
 .ret
 .skip))))
 (.region [
 ⟨some 15, .bin .add (.t 7) (.c (.s (.int .i64 1))), none⟩,
 ⟨some 7, .cp (.t 15), none⟩] (none)))))
def zuq_ : XF := { np := 2, results := [], body :=
 (.seq (.region [
 ⟨some 5, .load 1 false (.t 1), none⟩,
 ⟨some 6, .len false (.t 5), none⟩,
 ⟨some 7, .cp (.c (.s (.int .i64 0))), none⟩] (none))
 (.block 0
 (.loop zbxe_))) }
def zur_ : XF := { np := 2, results := [], body := .skip, nat := some (.seq zcl_ 14 837723144972) }
def zlf_ : XC :=
 (.seq (.region [
 ⟨some 15, .bin .lss (.t 14) (.t 13), none⟩] (none))
 (.seq (.cond (.t 15)
 .skip
 (.exit 0))
 (.seq (.block 1
 (.seq (.region [
 ⟨some 16, .iaddr 14 (.t 12) (.t 14), none⟩,
 ⟨some 17, .load 14 true (.t 16), none⟩,
 ⟨some 5, .alloc [.s (.int .i64 0), .s (.int .i64 0), .s (.int .i64 0), .s (.int .i64 0), .s (.int .i64 0), .s (.int .i64 0), .s (.string ⟨#[]⟩), .s (.string ⟨#[]⟩), .s (.string ⟨#[]⟩), .s (.int .i64 0), .s (.int .i64 0), .s (.bool false), .s (.slice none 0 0), .s (.slice none 0 0)], none⟩,
 ⟨none, .store 14 (.t 5) (.t 17), none⟩] (none))
 (.seq (.region [
 ⟨some 18, .load 14 true (.t 5), none⟩,
 ⟨some 19, .call false zjj_ [(.t 18)], none⟩,
 ⟨some 6, .cp (.t 19), none⟩] (none))
 (.seq (.region [
 ⟨some 20, .cp (.t 6), none⟩,
 ⟨some 21, .bin .neq (.t 20) (.c (.s (.int .i64 0))), none⟩] (none))
 (.cond (.t 21)
 (.seq (.region [
 ⟨some 22, .cp (.t 6), none⟩,
 ⟨some 2, .cp (.c (.s (.pointer none))), none⟩,
 ⟨some 3, .cp (.t 22), none⟩] (none))
 .ret)
 .skip)))))
 (.region [
 ⟨some 23, .bin .add (.t 14) (.c (.s (.int .i64 1))), none⟩,
 ⟨some 14, .cp (.t 23), none⟩] (none)))))
def zlg_ : XC :=
 (.seq (.region [
 ⟨some 27, .bin .lss (.t 26) (.t 25), none⟩] (none))
 (.seq (.cond (.t 27)
 .skip
 (.exit 2))
 (.seq (.block 3
 (.seq (.region [
 ⟨some 28, .iaddr 14 (.t 24) (.t 26), none⟩,
 ⟨some 29, .load 14 true (.t 28), none⟩,
 ⟨some 8, .alloc [.s (.int .i64 0), .s (.int .i64 0), .s (.int .i64 0), .s (.int .i64 0), .s (.int .i64 0), .s (.int .i64 0), .s (.string ⟨#[]⟩), .s (.string ⟨#[]⟩), .s (.string ⟨#[]⟩), .s (.int .i64 0), .s (.int .i64 0), .s (.bool false), .s (.slice none 0 0), .s (.slice none 0 0)], none⟩,
 ⟨none, .store 14 (.t 8) (.t 29), none⟩] (none))
 (.seq (.region [
 ⟨some 30, .faddr (.t 8) 12, none⟩,
 ⟨some 31, .load 1 false (.t 30), none⟩,
 ⟨some 32, .call false zpd_ [(.t 31), (.c (.fn zpe_ [] []))], none⟩] (none))
 (.cond (.t 32)
 (.seq (.region [
 ⟨some 2, .cp (.c (.s (.pointer none))), none⟩,
 ⟨some 3, .cp (.c (.s (.int .i64 5))), none⟩] (none))
 .ret)
 .skip))))
 (.region [
 ⟨some 33, .bin .add (.t 26) (.c (.s (.int .i64 1))), none⟩,
 ⟨some 26, .cp (.t 33), none⟩] (none)))))
def zhq_ : XF := { np := 1, results := [(.inl 2, .f), (.inl 3, .v)], body :=
 (.seq (.region [
 ⟨some 2, .cp (.c (.s (.pointer none))), none⟩,
 ⟨some 3, .cp (.c (.s (.int .i64 0))), none⟩] (none))
 (.seq (.seq (.region [
 ⟨some 9, .cp (.t 0), none⟩,
 ⟨some 10, .len false (.t 9), none⟩,
 ⟨some 11, .bin .gtr (.t 10) (.c (.s (.int .i64 4096))), none⟩] (none))
 (.cond (.t 11)
 (.seq (.region [
 ⟨some 2, .cp (.c (.s (.pointer none))), none⟩,
 ⟨some 3, .cp (.c (.s (.int .i64 6))), none⟩] (none))
 .ret)
 .skip))
 (.seq (.seq (.region [
 ⟨some 12, .cp (.t 0), none⟩,
 ⟨some 13, .len false (.t 12), none⟩,
 ⟨some 14, .cp (.c (.s (.int .i64 0))), none⟩] (none))
 (.block 0
 (.loop zlf_)))
 (.seq (.seq (.region [
 ⟨some 24, .cp (.t 0), none⟩,
 ⟨some 25, .len false (.t 24), none⟩,
 ⟨some 26, .cp (.c (.s (.int .i64 0))), none⟩] (none))
 (.block 2
 (.loop zlg_)))
 (.seq (.region [
 ⟨some 34, .cp (.t 0), none⟩,
 ⟨some 35, .call false zfj_ [(.t 34)], none⟩,
 ⟨some 36, .call false zub_ [(.t 35)], none⟩,
 ⟨some 37, .extract (.t 36) 0, none⟩,
 ⟨some 38, .extract (.t 36) 1, none⟩,
 ⟨some 2, .cp (.t 37), none⟩,
 ⟨some 3, .cp (.t 38), none⟩] (none))
 .ret))))) }
def zus_ : XC :=
 (.seq (.region [
 ⟨some 10, .bin .lss (.t 9) (.t 8), none⟩] (none))
 (.seq (.cond (.t 10)
 .skip
 (.exit 0))
 (.seq (.block 1
 (.seq (.region [
 ⟨some 11, .cp (.t 9), none⟩,
 ⟨some 4, .cp (.t 11), none⟩] (none))
 (.seq (.region [
 ⟨some 13, .cp (.t 0), none⟩,
 ⟨some 14, .cp (.t 4), none⟩,
 ⟨some 15, .call false zuf_ [(.t 13), (.t 14)], none⟩,
 ⟨some 12, .cp (.t 15), none⟩,
 ⟨some 16, .extract (.t 12) 0, none⟩,
 ⟨some 17, .extract (.t 12) 1, none⟩,
 ⟨some 5, .alloc [.s (.int .i64 0), .s (.int .i64 0), .s (.int .i64 0), .s (.int .i64 0), .s (.int .i64 0), .s (.int .i64 0), .s (.string ⟨#[]⟩), .s (.string ⟨#[]⟩), .s (.string ⟨#[]⟩), .s (.int .i64 0), .s (.int .i64 0), .s (.bool false), .s (.slice none 0 0), .s (.slice none 0 0)], none⟩,
 ⟨none, .store 14 (.t 5) (.t 16), none⟩,
 ⟨some 6, .cp (.t 17), none⟩] (none))
 (.region [
 ⟨some 18, .cp (.t 3), none⟩,
 ⟨some 19, .load 14 true (.t 5), none⟩,
 ⟨some 20, .bslice false 14 [(.t 19)], none⟩,
 ⟨some 21, .append 14 837723144972 (.t 18) (.t 20), none⟩,
 ⟨some 3, .cp (.t 21), none⟩] (none)))))
 (.region [
 ⟨some 22, .bin .add (.t 9) (.c (.s (.int .i64 1))), none⟩,
 ⟨some 9, .cp (.t 22), none⟩] (none)))))
def zlh_ : XF := { np := 1, results := [(.inl 2, .v)], body :=
 (.seq (.region [
 ⟨some 2, .cp (.c (.s (.slice none 0 0))), none⟩] (none))
 (.seq (.region [
 ⟨some 3, .cp (.c (.s (.slice none 0 0))), none⟩] (none))
 (.seq (.seq (.region [
 ⟨some 7, .cp (.t 0), none⟩,
 ⟨some 8, .call false zpc_ [(.t 7)], none⟩,
 ⟨some 9, .cp (.c (.s (.int .i64 0))), none⟩] (none))
 (.block 0
 (.loop zus_)))
 (.seq (.region [
 ⟨some 23, .cp (.t 3), none⟩,
 ⟨some 2, .cp (.t 23), none⟩] (none))
 .ret)))) }
def zli_ : XF := { np := 2, results := [(.inr (4, 14, true), .v), (.inl 5, .v)], body :=
 (.seq (.region [
 ⟨some 4, .alloc [.s (.int .i64 0), .s (.int .i64 0), .s (.int .i64 0), .s (.int .i64 0), .s (.int .i64 0), .s (.int .i64 0), .s (.string ⟨#[]⟩), .s (.string ⟨#[]⟩), .s (.string ⟨#[]⟩), .s (.int .i64 0), .s (.int .i64 0), .s (.bool false), .s (.slice none 0 0), .s (.slice none 0 0)], none⟩,
 ⟨some 5, .cp (.c (.s (.bool false))), none⟩] (none))
 (.seq (.seq (.region [
 ⟨some 6, .cp (.t 1), none⟩,
 ⟨some 7, .bin .lss (.t 6) (.c (.s (.int .i64 0))), none⟩,
 ⟨some 8, .cp (.t 7), none⟩,
 ⟨some 9, .cp (.t 1), some (8, false)⟩,
 ⟨some 10, .cp (.t 0), some (8, false)⟩,
 ⟨some 11, .call false zpc_ [(.t 10)], some (8, false)⟩,
 ⟨some 12, .bin .geq (.t 9) (.t 11), some (8, false)⟩,
 ⟨some 13, .pick (.t 8) (.c (.s (.bool true))) (.t 12), none⟩] (none))
 (.cond (.t 13)
 (.seq (.region [
 ⟨some 14, .build false [.s (.int .i64 0), .s (.int .i64 0), .s (.int .i64 0), .s (.int .i64 0), .s (.int .i64 0), .s (.int .i64 0), .s (.string ⟨#[]⟩), .s (.string ⟨#[]⟩), .s (.string ⟨#[]⟩), .s (.int .i64 0), .s (.int .i64 0), .s (.bool false), .s (.slice none 0 0), .s (.slice none 0 0)] [], none⟩,
 ⟨none, .store 14 (.t 4) (.t 14), none⟩,
 ⟨some 5, .cp (.c (.s (.bool false))), none⟩] (none))
 .ret)
 .skip))
 (.seq (.region [
 ⟨some 15, .cp (.t 0), none⟩,
 ⟨some 16, .nilchk (.t 15), none⟩,
 ⟨some 17, .faddr (.t 16) 0, none⟩,
 ⟨some 18, .load 1 false (.t 17), none⟩,
 ⟨some 19, .cp (.t 1), none⟩,
 ⟨some 20, .iaddr 14 (.t 18) (.t 19), none⟩,
 ⟨some 21, .load 14 true (.t 20), none⟩,
 ⟨some 22, .call false zpf_ [(.t 21)], none⟩,
 ⟨none, .store 14 (.t 4) (.t 22), none⟩,
 ⟨some 5, .cp (.c (.s (.bool true))), none⟩] (none))
 .ret))) }
def zlj_ : XF := { np := 1, results := [(.inl 2, .v)], body :=
 (.seq (.region [
 ⟨some 2, .cp (.c (.s (.int .i64 0))), none⟩] (none))
 (.seq (.seq (.region [
 ⟨some 3, .cp (.t 0), none⟩,
 ⟨some 4, .eqv .p false (.t 3) (.c (.s (.pointer none))), none⟩] (none))
 (.cond (.t 4)
 (.seq (.region [
 ⟨some 2, .cp (.c (.s (.int .i64 0))), none⟩] (none))
 .ret)
 .skip))
 (.seq (.region [
 ⟨some 5, .cp (.t 0), none⟩,
 ⟨some 6, .nilchk (.t 5), none⟩,
 ⟨some 7, .faddr (.t 6) 0, none⟩,
 ⟨some 8, .load 1 false (.t 7), none⟩,
 ⟨some 9, .len false (.t 8), none⟩,
 ⟨some 2, .cp (.t 9), none⟩] (none))
 .ret))) }
def zhr_ : XC :=
 (.seq (.seq (.region [
 ⟨some 4, .cp (.t 3), none⟩,
 ⟨some 5, .faddr (.t 1) 0, none⟩,
 ⟨some 6, .load 1 false (.t 5), none⟩,
 ⟨some 7, .len false (.t 6), none⟩,
 ⟨some 8, .bin .lss (.t 4) (.t 7), none⟩] (none))
 (.cond (.t 8)
 .skip
 (.exit 0)))
 (.seq (.block 1
 (.seq (.region [
 ⟨some 11, .faddr (.t 1) 0, none⟩,
 ⟨some 12, .load 1 false (.t 11), none⟩,
 ⟨some 13, .cp (.t 3), none⟩,
 ⟨some 14, .iaddr 3 (.t 12) (.t 13), none⟩,
 ⟨some 15, .faddr (.t 14) 2, none⟩,
 ⟨some 16, .load 1 false (.t 15), none⟩,
 ⟨some 17, .len false (.t 16), none⟩,
 ⟨some 18, .bin .gtr (.t 17) (.c (.s (.int .i64 8))), none⟩] (none))
 (.cond (.t 18)
 (.seq (.region [
 ⟨some 2, .cp (.c (.s (.bool false))), none⟩] (none))
 .ret)
 .skip)))
 (.region [
 ⟨some 9, .cp (.t 3), none⟩,
 ⟨some 10, .bin .add (.t 9) (.c (.s (.int .i64 1))), none⟩,
 ⟨some 3, .cp (.t 10), none⟩] (none))))
def zlk_ : XF := { np := 1, results := [(.inl 2, .v)], body :=
 (.seq (.region [
 ⟨some 1, .box false (.t 0), none⟩,
 ⟨some 2, .cp (.c (.s (.bool false))), none⟩] (none))
 (.seq (.seq (.region [
 ⟨some 3, .cp (.c (.s (.int .i64 0))), none⟩] (none))
 (.block 0
 (.loop zhr_)))
 (.seq (.region [
 ⟨some 19, .faddr (.t 1) 0, none⟩,
 ⟨some 20, .load 1 false (.t 19), none⟩,
 ⟨some 21, .len false (.t 20), none⟩,
 ⟨some 22, .bin .leq (.t 21) (.c (.s (.int .i64 3))), none⟩,
 ⟨some 23, .cp (.t 22), none⟩,
 ⟨some 24, .faddr (.t 1) 5, some (23, true)⟩,
 ⟨some 25, .load 1 false (.t 24), some (23, true)⟩,
 ⟨some 26, .len false (.t 25), some (23, true)⟩,
 ⟨some 27, .bin .leq (.t 26) (.c (.s (.int .i64 6))), some (23, true)⟩,
 ⟨some 28, .pick (.t 23) (.t 27) (.c (.s (.bool false))), none⟩,
 ⟨some 2, .cp (.t 28), none⟩] (none))
 .ret))) }
def zhs_ : XC :=
 (.seq (.seq (.region [
 ⟨some 25, .cp (.t 10), none⟩,
 ⟨some 26, .cp (.t 6), none⟩,
 ⟨some 27, .len false (.t 26), none⟩,
 ⟨some 28, .bin .lss (.t 25) (.t 27), none⟩] (none))
 (.cond (.t 28)
 .skip
 (.exit 2)))
 (.seq (.block 3
 (.seq (.seq (.region [
 ⟨some 31, .cp (.t 6), none⟩,
 ⟨some 32, .cp (.t 10), none⟩,
 ⟨some 33, .iaddr 14 (.t 31) (.t 32), none⟩,
 ⟨some 34, .faddr (.t 33) 4, none⟩,
 ⟨some 35, .load 1 false (.t 34), none⟩,
 ⟨some 36, .cp (.t 8), none⟩,
 ⟨some 37, .bin .neq (.t 35) (.t 36), none⟩] (none))
 (.cond (.t 37)
 (.exit 3)
 .skip))
 (.seq (.seq (.region [
 ⟨some 38, .cp (.t 6), none⟩,
 ⟨some 39, .cp (.t 10), none⟩,
 ⟨some 40, .iaddr 14 (.t 38) (.t 39), none⟩,
 ⟨some 41, .faddr (.t 40) 3, none⟩,
 ⟨some 42, .load 1 false (.t 41), none⟩,
 ⟨some 43, .bin .gtr (.t 42) (.c (.s (.int .i64 0))), none⟩] (none))
 (.cond (.t 43)
 (.seq (.region [
 ⟨some 44, .cp (.t 6), none⟩,
 ⟨some 45, .cp (.t 10), none⟩,
 ⟨some 46, .iaddr 14 (.t 44) (.t 45), none⟩,
 ⟨some 47, .load 14 true (.t 46), none⟩,
 ⟨some 11, .alloc [.s (.int .i64 0), .s (.int .i64 0), .s (.int .i64 0), .s (.int .i64 0), .s (.int .i64 0), .s (.int .i64 0), .s (.string ⟨#[]⟩), .s (.string ⟨#[]⟩), .s (.string ⟨#[]⟩), .s (.int .i64 0), .s (.int .i64 0), .s (.bool false), .s (.slice none 0 0), .s (.slice none 0 0)], none⟩,
 ⟨none, .store 14 (.t 11) (.t 47), none⟩] (none))
 (.seq (.region [
 ⟨some 48, .faddr (.t 11) 9, none⟩,
 ⟨some 49, .load 1 false (.t 48), none⟩,
 ⟨some 50, .faddr (.t 11) 3, none⟩,
 ⟨none, .store 1 (.t 50) (.c (.s (.int .i64 0))), none⟩,
 ⟨some 51, .faddr (.t 11) 10, none⟩,
 ⟨none, .store 1 (.t 51) (.t 49), none⟩,
 ⟨some 52, .faddr (.t 11) 11, none⟩,
 ⟨none, .store 1 (.t 52) (.c (.s (.bool false))), none⟩] (none))
 (.region [
 ⟨some 53, .cp (.t 9), none⟩,
 ⟨some 54, .load 14 true (.t 11), none⟩,
 ⟨some 55, .bslice false 14 [(.t 54)], none⟩,
 ⟨some 56, .append 14 837723144972 (.t 53) (.t 55), none⟩,
 ⟨some 9, .cp (.t 56), none⟩] (none))))
 .skip))
 (.region [
 ⟨some 57, .cp (.t 9), none⟩,
 ⟨some 58, .cp (.t 6), none⟩,
 ⟨some 59, .cp (.t 10), none⟩,
 ⟨some 60, .iaddr 14 (.t 58) (.t 59), none⟩,
 ⟨some 61, .load 14 true (.t 60), none⟩,
 ⟨some 62, .bslice false 14 [(.t 61)], none⟩,
 ⟨some 63, .append 14 837723144972 (.t 57) (.t 62), none⟩,
 ⟨some 9, .cp (.t 63), none⟩] (none)))))
 (.region [
 ⟨some 29, .cp (.t 10), none⟩,
 ⟨some 30, .bin .add (.t 29) (.c (.s (.int .i64 1))), none⟩,
 ⟨some 10, .cp (.t 30), none⟩] (none))))
def zht_ : XC :=
 (.seq (.seq (.region [
 ⟨some 64, .cp (.t 13), none⟩,
 ⟨some 65, .cp (.t 9), none⟩,
 ⟨some 66, .len false (.t 65), none⟩,
 ⟨some 67, .bin .lss (.t 64) (.t 66), none⟩] (none))
 (.cond (.t 67)
 .skip
 (.exit 4)))
 (.seq (.block 5
 (.seq (.region [
 ⟨some 74, .cp (.t 8), none⟩,
 ⟨some 75, .cp (.t 12), none⟩,
 ⟨some 76, .cp (.t 9), none⟩,
 ⟨some 77, .cp (.t 13), none⟩,
 ⟨some 78, .cp (.t 9), none⟩,
 ⟨some 79, .len false (.t 78), none⟩,
 ⟨some 80, .cp (.t 13), none⟩,
 ⟨some 81, .bin .add (.t 80) (.c (.s (.int .i64 1))), none⟩,
 ⟨some 82, .cp (.t 1), none⟩,
 ⟨some 83, .bin .rem (.t 82) (.c (.s (.int .u8 4))), none⟩,
 ⟨some 84, .conv .i64 (.t 83), none⟩,
 ⟨some 85, .bin .add (.t 81) (.t 84), none⟩,
 ⟨some 86, .minmax false [(.t 79), (.t 85)], none⟩,
 ⟨some 87, .slFrz 14 (.t 76) (some (.t 77)) (some (.t 86)), none⟩,
 ⟨some 88, .build false [.s (.int .i64 0), .s (.int .i64 0), .s (.slice none 0 0), .s (.slice none 0 0)] [(0, 1, (.t 74)), (1, 1, (.t 75)), (2, 1, (.t 87))], none⟩,
 ⟨some 14, .alloc [.s (.int .i64 0), .s (.int .i64 0), .s (.slice none 0 0), .s (.slice none 0 0)], none⟩,
 ⟨none, .store 4 (.t 14) (.t 88), none⟩] (none))
 (.region [
 ⟨some 89, .cp (.t 5), none⟩,
 ⟨some 90, .load 4 true (.t 14), none⟩,
 ⟨some 91, .bslice false 4 [(.t 90)], none⟩,
 ⟨some 92, .append 4 2199023255552 (.t 89) (.t 91), none⟩,
 ⟨some 93, .cp (.t 12), none⟩,
 ⟨some 94, .bin .add (.t 93) (.c (.s (.int .i64 1))), none⟩,
 ⟨some 5, .cp (.t 92), none⟩,
 ⟨some 12, .cp (.t 94), none⟩] (none))))
 (.region [
 ⟨some 68, .cp (.t 13), none⟩,
 ⟨some 69, .bin .add (.t 68) (.c (.s (.int .i64 1))), none⟩,
 ⟨some 70, .cp (.t 1), none⟩,
 ⟨some 71, .bin .rem (.t 70) (.c (.s (.int .u8 4))), none⟩,
 ⟨some 72, .conv .i64 (.t 71), none⟩,
 ⟨some 73, .bin .add (.t 69) (.t 72), none⟩,
 ⟨some 13, .cp (.t 73), none⟩] (none))))
def zhu_ : XC :=
 (.seq (.seq (.region [
 ⟨some 98, .cp (.t 16), none⟩,
 ⟨some 99, .cp (.t 7), none⟩,
 ⟨some 100, .len false (.t 99), none⟩,
 ⟨some 101, .bin .lss (.t 98) (.t 100), none⟩] (none))
 (.cond (.t 101)
 .skip
 (.exit 6)))
 (.seq (.block 7
 (.seq (.region [
 ⟨some 104, .cp (.t 7), none⟩,
 ⟨some 105, .cp (.t 16), none⟩,
 ⟨some 106, .iaddr 5 (.t 104) (.t 105), none⟩,
 ⟨some 107, .faddr (.t 106) 1, none⟩,
 ⟨some 108, .load 1 false (.t 107), none⟩,
 ⟨some 109, .cp (.t 8), none⟩,
 ⟨some 110, .bin .eql (.t 108) (.t 109), none⟩] (none))
 (.cond (.t 110)
 (.region [
 ⟨some 111, .faddr (.t 15) 3, none⟩,
 ⟨some 112, .load 1 false (.t 111), none⟩,
 ⟨some 113, .cp (.t 7), none⟩,
 ⟨some 114, .cp (.t 16), none⟩,
 ⟨some 115, .iaddr 5 (.t 113) (.t 114), none⟩,
 ⟨some 116, .load 5 true (.t 115), none⟩,
 ⟨some 117, .bslice false 5 [(.t 116)], none⟩,
 ⟨some 118, .append 5 3518437208883 (.t 112) (.t 117), none⟩,
 ⟨some 119, .faddr (.t 15) 3, none⟩,
 ⟨none, .store 1 (.t 119) (.t 118), none⟩] (some []))
 .skip)))
 (.region [
 ⟨some 102, .cp (.t 16), none⟩,
 ⟨some 103, .bin .add (.t 102) (.c (.s (.int .i64 1))), none⟩,
 ⟨some 16, .cp (.t 103), none⟩] (none))))
def zpp_ : XC :=
 (.seq (.seq (.region [
 ⟨some 21, .cp (.t 8), none⟩,
 ⟨some 22, .bin .leq (.t 21) (.c (.s (.int .i64 4))), none⟩] (none))
 (.cond (.t 22)
 .skip
 (.exit 0)))
 (.seq (.block 1
 (.seq (.region [
 ⟨some 9, .cp (.c (.s (.slice none 0 0))), none⟩] (none))
 (.seq (.seq (.region [
 ⟨some 10, .cp (.c (.s (.int .i64 0))), none⟩] (none))
 (.block 2
 (.loop zhs_)))
 (.seq (.region [
 ⟨some 12, .cp (.c (.s (.int .i64 0))), none⟩] (none))
 (.seq (.seq (.region [
 ⟨some 13, .cp (.c (.s (.int .i64 0))), none⟩] (none))
 (.block 4
 (.loop zht_)))
 (.seq (.region [
 ⟨some 95, .cp (.t 8), none⟩,
 ⟨some 96, .cp (.t 12), none⟩,
 ⟨some 97, .build false [.s (.int .i64 0), .s (.int .i64 0), .s (.slice none 0 0), .s (.slice none 0 0)] [(0, 1, (.t 95)), (1, 1, (.t 96))], none⟩,
 ⟨some 15, .alloc [.s (.int .i64 0), .s (.int .i64 0), .s (.slice none 0 0), .s (.slice none 0 0)], none⟩,
 ⟨none, .store 4 (.t 15) (.t 97), none⟩] (none))
 (.seq (.seq (.region [
 ⟨some 16, .cp (.c (.s (.int .i64 0))), none⟩] (none))
 (.block 6
 (.loop zhu_)))
 (.seq (.region [
 ⟨some 120, .faddr (.t 15) 3, none⟩,
 ⟨some 121, .load 1 false (.t 120), none⟩,
 ⟨some 122, .len false (.t 121), none⟩,
 ⟨some 123, .bin .gtr (.t 122) (.c (.s (.int .i64 0))), none⟩] (none))
 (.cond (.t 123)
 (.region [
 ⟨some 124, .cp (.t 5), none⟩,
 ⟨some 125, .load 4 true (.t 15), none⟩,
 ⟨some 126, .bslice false 4 [(.t 125)], none⟩,
 ⟨some 127, .append 4 2199023255552 (.t 124) (.t 126), none⟩,
 ⟨some 5, .cp (.t 127), none⟩] (none))
 .skip)))))))))
 (.region [
 ⟨some 23, .cp (.t 8), none⟩,
 ⟨some 24, .bin .add (.t 23) (.c (.s (.int .i64 1))), none⟩,
 ⟨some 8, .cp (.t 24), none⟩] (none))))
def zll_ : XF := { np := 2, results := [(.inl 4, .v)], body :=
 (.seq (.region [
 ⟨some 2, .box false (.t 0), none⟩,
 ⟨some 4, .cp (.c (.s (.slice none 0 0))), none⟩] (none))
 (.seq (.region [
 ⟨some 5, .cp (.c (.s (.slice none 0 0))), none⟩] (none))
 (.seq (.region [
 ⟨some 17, .load 7 true (.t 2), none⟩,
 ⟨some 18, .call false zuc_ [(.t 17)], none⟩,
 ⟨some 19, .load 7 true (.t 2), none⟩,
 ⟨some 20, .call false zud_ [(.t 19)], none⟩,
 ⟨some 6, .cp (.t 18), none⟩,
 ⟨some 7, .cp (.t 20), none⟩] (some [(1, some 2)]))
 (.seq (.seq (.region [
 ⟨some 8, .cp (.c (.s (.int .i64 1))), none⟩] (none))
 (.block 0
 (.loop zpp_)))
 (.seq (.region [
 ⟨some 128, .cp (.t 5), none⟩,
 ⟨some 4, .cp (.t 128), none⟩] (none))
 .ret))))) }
def zlm_ : XF := { np := 2, results := [(.inl 4, .v)], body :=
 (.seq (.region [
 ⟨some 4, .cp (.c (.s (.bool false))), none⟩] (none))
 (.seq (.region [
 ⟨some 5, .cp (.t 0), none⟩,
 ⟨some 6, .cp (.t 1), none⟩,
 ⟨some 7, .call false zug_ [(.t 5), (.t 6)], none⟩,
 ⟨some 8, .bin .geq (.t 7) (.c (.s (.int .i64 0))), none⟩,
 ⟨some 4, .cp (.t 8), none⟩] (none))
 .ret)) }
def zln_ : XF := { np := 1, results := [(.inl 2, .v)], body :=
 (.seq (.region [
 ⟨some 1, .box false (.t 0), none⟩,
 ⟨some 2, .cp (.c (.s (.bool false))), none⟩] (none))
 (.seq (.region [
 ⟨some 3, .faddr (.t 1) 1, none⟩,
 ⟨some 4, .faddr (.t 3) 1, none⟩,
 ⟨some 5, .load 1 false (.t 4), none⟩,
 ⟨some 6, .len true (.t 5), none⟩,
 ⟨some 7, .bin .gtr (.t 6) (.c (.s (.int .i64 255))), none⟩,
 ⟨some 2, .cp (.t 7), none⟩] (none))
 .ret)) }
def zpq_ : XC :=
 (.seq (.region [
 ⟨some 14, .bin .lss (.t 13) (.t 12), none⟩] (none))
 (.seq (.cond (.t 14)
 .skip
 (.exit 0))
 (.seq (.block 1
 (.seq (.region [
 ⟨some 15, .iaddr 14 (.t 11) (.t 13), none⟩,
 ⟨some 16, .load 14 true (.t 15), none⟩,
 ⟨some 7, .alloc [.s (.int .i64 0), .s (.int .i64 0), .s (.int .i64 0), .s (.int .i64 0), .s (.int .i64 0), .s (.int .i64 0), .s (.string ⟨#[]⟩), .s (.string ⟨#[]⟩), .s (.string ⟨#[]⟩), .s (.int .i64 0), .s (.int .i64 0), .s (.bool false), .s (.slice none 0 0), .s (.slice none 0 0)], none⟩,
 ⟨none, .store 14 (.t 7) (.t 16), none⟩] (none))
 (.region [
 ⟨some 17, .cp (.t 4), none⟩,
 ⟨some 18, .faddr (.t 7) 12, none⟩,
 ⟨some 19, .load 1 false (.t 18), none⟩,
 ⟨some 20, .len false (.t 19), none⟩,
 ⟨some 21, .bin .add (.t 17) (.t 20), none⟩,
 ⟨some 22, .cp (.t 5), none⟩,
 ⟨some 23, .faddr (.t 7) 13, none⟩,
 ⟨some 24, .load 1 false (.t 23), none⟩,
 ⟨some 25, .len false (.t 24), none⟩,
 ⟨some 26, .bin .add (.t 22) (.t 25), none⟩,
 ⟨some 4, .cp (.t 21), none⟩,
 ⟨some 5, .cp (.t 26), none⟩] (some []))))
 (.region [
 ⟨some 27, .bin .add (.t 13) (.c (.s (.int .i64 1))), none⟩,
 ⟨some 13, .cp (.t 27), none⟩] (none)))))
def zlo_ : XC :=
 (.seq (.region [
 ⟨some 44, .bin .lss (.t 43) (.t 42), none⟩] (none))
 (.seq (.cond (.t 44)
 .skip
 (.exit 2))
 (.seq (.block 3
 (.seq (.region [
 ⟨some 45, .iaddr 14 (.t 41) (.t 43), none⟩,
 ⟨some 46, .load 14 true (.t 45), none⟩,
 ⟨some 10, .alloc [.s (.int .i64 0), .s (.int .i64 0), .s (.int .i64 0), .s (.int .i64 0), .s (.int .i64 0), .s (.int .i64 0), .s (.string ⟨#[]⟩), .s (.string ⟨#[]⟩), .s (.string ⟨#[]⟩), .s (.int .i64 0), .s (.int .i64 0), .s (.bool false), .s (.slice none 0 0), .s (.slice none 0 0)], none⟩,
 ⟨none, .store 14 (.t 10) (.t 46), none⟩] (none))
 (.region [
 ⟨some 47, .cp (.t 8), none⟩,
 ⟨some 48, .cp (.t 8), none⟩,
 ⟨some 49, .nilchk (.t 48), none⟩,
 ⟨some 50, .faddr (.t 49) 0, none⟩,
 ⟨some 51, .load 1 false (.t 50), none⟩,
 ⟨some 52, .load 14 true (.t 10), none⟩,
 ⟨some 53, .call false zpf_ [(.t 52)], none⟩,
 ⟨some 54, .bslice false 14 [(.t 53)], none⟩,
 ⟨some 55, .append 14 837723144972 (.t 51) (.t 54), none⟩,
 ⟨some 56, .nilchk (.t 47), none⟩,
 ⟨some 57, .faddr (.t 56) 0, none⟩,
 ⟨none, .store 1 (.t 57) (.t 55), none⟩] (some [(6, some 4)]))))
 (.region [
 ⟨some 58, .bin .add (.t 43) (.c (.s (.int .i64 1))), none⟩,
 ⟨some 43, .cp (.t 58), none⟩] (none)))))
def zlp_ : XF := { np := 1, results := [(.inl 2, .f), (.inl 3, .v)], body :=
 (.seq (.region [
 ⟨some 2, .cp (.c (.s (.pointer none))), none⟩,
 ⟨some 3, .cp (.c (.s (.int .i64 0))), none⟩] (none))
 (.seq (.region [
 ⟨some 4, .cp (.c (.s (.int .i64 0))), none⟩,
 ⟨some 5, .cp (.c (.s (.int .i64 0))), none⟩] (none))
 (.seq (.seq (.region [
 ⟨some 11, .cp (.t 0), none⟩,
 ⟨some 12, .len false (.t 11), none⟩,
 ⟨some 13, .cp (.c (.s (.int .i64 0))), none⟩] (none))
 (.block 0
 (.loop zpq_)))
 (.seq (.seq (.region [
 ⟨some 28, .cp (.t 0), none⟩,
 ⟨some 29, .len false (.t 28), none⟩,
 ⟨some 30, .bin .gtr (.t 29) (.c (.s (.int .i64 4096))), none⟩,
 ⟨some 31, .cp (.t 30), none⟩,
 ⟨some 32, .cp (.t 4), some (31, false)⟩,
 ⟨some 33, .bin .gtr (.t 32) (.c (.s (.int .i64 4096))), some (31, false)⟩,
 ⟨some 34, .pick (.t 31) (.c (.s (.bool true))) (.t 33), none⟩,
 ⟨some 35, .cp (.t 34), none⟩,
 ⟨some 36, .cp (.t 5), some (35, false)⟩,
 ⟨some 37, .bin .gtr (.t 36) (.c (.s (.int .i64 4096))), some (35, false)⟩,
 ⟨some 38, .pick (.t 35) (.c (.s (.bool true))) (.t 37), none⟩] (none))
 (.cond (.t 38)
 (.seq (.region [
 ⟨some 2, .cp (.c (.s (.pointer none))), none⟩,
 ⟨some 3, .cp (.c (.s (.int .i64 6))), none⟩] (none))
 .ret)
 .skip))
 (.seq (.region [
 ⟨some 39, .build false [.s (.slice none 0 0)] [], none⟩,
 ⟨some 40, .box false (.t 39), none⟩,
 ⟨some 8, .cp (.t 40), none⟩] (none))
 (.seq (.seq (.region [
 ⟨some 41, .cp (.t 0), none⟩,
 ⟨some 42, .len false (.t 41), none⟩,
 ⟨some 43, .cp (.c (.s (.int .i64 0))), none⟩] (none))
 (.block 2
 (.loop zlo_)))
 (.seq (.region [
 ⟨some 59, .cp (.t 8), none⟩,
 ⟨some 2, .cp (.t 59), none⟩,
 ⟨some 3, .cp (.c (.s (.int .i64 0))), none⟩] (none))
 .ret))))))) }
def zpr_ : XC :=
 (.seq (.region [
 ⟨some 18, .bin .lss (.t 17) (.t 16), none⟩] (none))
 (.seq (.cond (.t 18)
 .skip
 (.exit 0))
 (.seq (.block 1
 (.seq (.region [
 ⟨some 19, .cp (.t 17), none⟩,
 ⟨some 20, .iaddr 14 (.t 15) (.t 17), none⟩,
 ⟨some 21, .load 14 true (.t 20), none⟩,
 ⟨some 8, .alloc [.s (.int .i64 0), .s (.int .i64 0), .s (.int .i64 0), .s (.int .i64 0), .s (.int .i64 0), .s (.int .i64 0), .s (.string ⟨#[]⟩), .s (.string ⟨#[]⟩), .s (.string ⟨#[]⟩), .s (.int .i64 0), .s (.int .i64 0), .s (.bool false), .s (.slice none 0 0), .s (.slice none 0 0)], none⟩,
 ⟨some 7, .cp (.t 19), none⟩,
 ⟨none, .store 14 (.t 8) (.t 21), none⟩] (none))
 (.seq (.region [
 ⟨some 22, .cp (.t 1), none⟩,
 ⟨some 23, .cp (.t 7), none⟩,
 ⟨some 24, .iaddr 14 (.t 22) (.t 23), none⟩,
 ⟨some 25, .load 14 true (.t 24), none⟩,
 ⟨some 9, .alloc [.s (.int .i64 0), .s (.int .i64 0), .s (.int .i64 0), .s (.int .i64 0), .s (.int .i64 0), .s (.int .i64 0), .s (.string ⟨#[]⟩), .s (.string ⟨#[]⟩), .s (.string ⟨#[]⟩), .s (.int .i64 0), .s (.int .i64 0), .s (.bool false), .s (.slice none 0 0), .s (.slice none 0 0)], none⟩,
 ⟨none, .store 14 (.t 9) (.t 25), none⟩] (none))
 (.seq (.region [
 ⟨some 26, .cp (.t 2), none⟩,
 ⟨some 27, .load 14 true (.t 8), none⟩,
 ⟨some 28, .load 14 true (.t 9), none⟩,
 ⟨some 29, .callv false (.t 26) [(.t 27), (.t 28)], none⟩,
 ⟨some 30, .un .not (.t 29), none⟩] (none))
 (.cond (.t 30)
 (.seq (.region [
 ⟨some 6, .cp (.c (.s (.bool false))), none⟩] (none))
 .ret)
 .skip)))))
 (.region [
 ⟨some 31, .bin .add (.t 17) (.c (.s (.int .i64 1))), none⟩,
 ⟨some 17, .cp (.t 31), none⟩] (none)))))
def zhv_ : XF := { np := 3, results := [(.inl 6, .v)], body :=
 (.seq (.region [
 ⟨some 6, .cp (.c (.s (.bool false))), none⟩] (none))
 (.seq (.seq (.region [
 ⟨some 10, .cp (.t 0), none⟩,
 ⟨some 11, .len false (.t 10), none⟩,
 ⟨some 12, .cp (.t 1), none⟩,
 ⟨some 13, .len false (.t 12), none⟩,
 ⟨some 14, .bin .neq (.t 11) (.t 13), none⟩] (none))
 (.cond (.t 14)
 (.seq (.region [
 ⟨some 6, .cp (.c (.s (.bool false))), none⟩] (none))
 .ret)
 .skip))
 (.seq (.seq (.region [
 ⟨some 15, .cp (.t 0), none⟩,
 ⟨some 16, .len false (.t 15), none⟩,
 ⟨some 17, .cp (.c (.s (.int .i64 0))), none⟩] (none))
 (.block 0
 (.loop zpr_)))
 (.seq (.region [
 ⟨some 6, .cp (.c (.s (.bool true))), none⟩] (none))
 .ret)))) }
def zlq_ : XF := { np := 1, results := [(.inr (2, 14, true), .v)], body :=
 (.seq (.region [
 ⟨some 1, .box false (.t 0), none⟩,
 ⟨some 2, .alloc [.s (.int .i64 0), .s (.int .i64 0), .s (.int .i64 0), .s (.int .i64 0), .s (.int .i64 0), .s (.int .i64 0), .s (.string ⟨#[]⟩), .s (.string ⟨#[]⟩), .s (.string ⟨#[]⟩), .s (.int .i64 0), .s (.int .i64 0), .s (.bool false), .s (.slice none 0 0), .s (.slice none 0 0)], none⟩] (none))
 (.seq (.region [
 ⟨some 3, .faddr (.t 1) 12, none⟩,
 ⟨some 4, .load 1 false (.t 3), none⟩,
 ⟨some 5, .call false zov_ [(.t 4)], none⟩,
 ⟨some 6, .faddr (.t 1) 13, none⟩,
 ⟨some 7, .load 1 false (.t 6), none⟩,
 ⟨some 8, .call false zow_ [(.t 7)], none⟩,
 ⟨some 9, .faddr (.t 1) 12, none⟩,
 ⟨none, .store 1 (.t 9) (.t 5), none⟩,
 ⟨some 10, .faddr (.t 1) 13, none⟩,
 ⟨none, .store 1 (.t 10) (.t 8), none⟩] (some [(2, some 4)]))
 (.seq (.region [
 ⟨some 11, .load 14 true (.t 1), none⟩,
 ⟨none, .store 14 (.t 2) (.t 11), none⟩] (none))
 .ret))) }
def zfs_ : XC :=
 (.seq (.seq (.region [
 ⟨some 14, .cp (.t 5), none⟩,
 ⟨some 15, .faddr (.t 1) 0, none⟩,
 ⟨some 16, .load 1 false (.t 15), none⟩,
 ⟨some 17, .len false (.t 16), none⟩,
 ⟨some 18, .bin .lss (.t 14) (.t 17), none⟩] (none))
 (.cond (.t 18)
 .skip
 (.exit 2)))
 (.seq (.block 3
 (.seq (.region [
 ⟨some 21, .faddr (.t 1) 0, none⟩,
 ⟨some 22, .load 1 false (.t 21), none⟩,
 ⟨some 23, .cp (.t 5), none⟩,
 ⟨some 24, .iaddr 3 (.t 22) (.t 23), none⟩,
 ⟨some 25, .faddr (.t 24) 2, none⟩,
 ⟨some 26, .load 1 false (.t 25), none⟩,
 ⟨some 27, .len false (.t 26), none⟩,
 ⟨some 28, .bin .gtr (.t 27) (.c (.s (.int .i64 0))), none⟩,
 ⟨some 29, .cp (.t 28), none⟩,
 ⟨some 30, .load 7 true (.t 1), some (29, true)⟩,
 ⟨some 31, .cp (.t 5), some (29, true)⟩,
 ⟨some 32, .call false zek_ [(.t 30), (.t 31)], some (29, true)⟩,
 ⟨some 33, .cp (.t 3), some (29, true)⟩,
 ⟨some 34, .cp (.t 4), some (29, true)⟩,
 ⟨some 35, .iaddr 14 (.t 33) (.t 34), some (29, true)⟩,
 ⟨some 36, .faddr (.t 35) 0, some (29, true)⟩,
 ⟨some 37, .load 1 false (.t 36), some (29, true)⟩,
 ⟨some 38, .bin .eql (.t 32) (.t 37), some (29, true)⟩,
 ⟨some 39, .pick (.t 29) (.t 38) (.c (.s (.bool false))), none⟩,
 ⟨some 40, .cp (.t 39), none⟩,
 ⟨some 41, .faddr (.t 1) 0, some (40, true)⟩,
 ⟨some 42, .load 1 false (.t 41), some (40, true)⟩,
 ⟨some 43, .cp (.t 5), some (40, true)⟩,
 ⟨some 44, .iaddr 3 (.t 42) (.t 43), some (40, true)⟩,
 ⟨some 45, .faddr (.t 44) 2, some (40, true)⟩,
 ⟨some 46, .load 1 false (.t 45), some (40, true)⟩,
 ⟨some 47, .cp (.t 3), some (40, true)⟩,
 ⟨some 48, .cp (.t 4), some (40, true)⟩,
 ⟨some 49, .iaddr 14 (.t 47) (.t 48), some (40, true)⟩,
 ⟨some 50, .faddr (.t 49) 1, some (40, true)⟩,
 ⟨some 51, .load 1 false (.t 50), some (40, true)⟩,
 ⟨some 52, .bin .sub (.t 51) (.c (.s (.int .i64 1))), some (40, true)⟩,
 ⟨some 53, .iaddr 11 (.t 46) (.t 52), some (40, true)⟩,
 ⟨some 54, .faddr (.t 53) 9, some (40, true)⟩,
 ⟨some 55, .load 1 false (.t 54), some (40, true)⟩,
 ⟨some 56, .bin .rem (.t 55) (.c (.s (.int .u8 2))), some (40, true)⟩,
 ⟨some 57, .bin .eql (.t 56) (.c (.s (.int .u8 1))), some (40, true)⟩,
 ⟨some 58, .pick (.t 40) (.t 57) (.c (.s (.bool false))), none⟩] (some [(11, some 14), (11, some 16)]))
 (.cond (.t 58)
 (.region [
 ⟨some 59, .cp (.t 3), none⟩,
 ⟨some 60, .cp (.t 4), none⟩,
 ⟨some 61, .iaddr 14 (.t 59) (.t 60), none⟩,
 ⟨some 62, .faddr (.t 61) 3, none⟩,
 ⟨none, .store 1 (.t 62) (.c (.s (.int .i64 1))), none⟩] (none))
 .skip)))
 (.region [
 ⟨some 19, .cp (.t 5), none⟩,
 ⟨some 20, .bin .add (.t 19) (.c (.s (.int .i64 1))), none⟩,
 ⟨some 5, .cp (.t 20), none⟩] (none))))
def zps_ : XC :=
 (.seq (.seq (.region [
 ⟨some 8, .cp (.t 4), none⟩,
 ⟨some 9, .cp (.t 3), none⟩,
 ⟨some 10, .len false (.t 9), none⟩,
 ⟨some 11, .bin .lss (.t 8) (.t 10), none⟩] (none))
 (.cond (.t 11)
 .skip
 (.exit 0)))
 (.seq (.block 1
 (.seq (.region [
 ⟨some 5, .cp (.c (.s (.int .i64 0))), none⟩] (none))
 (.block 2
 (.loop zfs_))))
 (.region [
 ⟨some 12, .cp (.t 4), none⟩,
 ⟨some 13, .bin .add (.t 12) (.c (.s (.int .i64 1))), none⟩,
 ⟨some 4, .cp (.t 13), none⟩] (none))))
def zhw_ : XF := { np := 1, results := [(.inl 2, .v)], body :=
 (.seq (.region [
 ⟨some 1, .box false (.t 0), none⟩,
 ⟨some 2, .cp (.c (.s (.slice none 0 0))), none⟩] (none))
 (.seq (.region [
 ⟨some 6, .load 7 true (.t 1), none⟩,
 ⟨some 7, .call true zuh_ [(.t 6)], none⟩,
 ⟨some 3, .cp (.t 7), none⟩] (none))
 (.seq (.seq (.region [
 ⟨some 4, .cp (.c (.s (.int .i64 0))), none⟩] (none))
 (.block 0
 (.loop zps_)))
 (.seq (.region [
 ⟨some 63, .cp (.t 3), none⟩,
 ⟨some 2, .cp (.t 63), none⟩] (none))
 .ret)))) }
def zut_ : XC :=
 (.seq (.seq (.region [
 ⟨some 9, .cp (.t 4), none⟩,
 ⟨some 10, .faddr (.t 1) 5, none⟩,
 ⟨some 11, .load 1 false (.t 10), none⟩,
 ⟨some 12, .len false (.t 11), none⟩,
 ⟨some 13, .bin .lss (.t 9) (.t 12), none⟩] (none))
 (.cond (.t 13)
 .skip
 (.exit 0)))
 (.seq (.block 1
 (.seq (.region [
 ⟨some 16, .faddr (.t 1) 5, none⟩,
 ⟨some 17, .load 1 false (.t 16), none⟩,
 ⟨some 18, .cp (.t 4), none⟩,
 ⟨some 19, .iaddr 5 (.t 17) (.t 18), none⟩,
 ⟨some 20, .load 5 true (.t 19), none⟩,
 ⟨some 5, .alloc [.s (.int .u8 0), .s (.int .u8 0), .s (.int .u8 0), .s (.int .u8 0), .s (.int .u8 0)], none⟩,
 ⟨none, .store 5 (.t 5) (.t 20), none⟩] (none))
 (.seq (.region [
 ⟨some 21, .faddr (.t 5) 0, none⟩,
 ⟨some 22, .load 1 false (.t 21), none⟩,
 ⟨some 23, .bin .rem (.t 22) (.c (.s (.int .u8 4))), none⟩,
 ⟨some 24, .conv .i64 (.t 23), none⟩,
 ⟨some 25, .bin .add (.c (.s (.int .i64 1))) (.t 24), none⟩,
 ⟨some 26, .faddr (.t 5) 1, none⟩,
 ⟨some 27, .load 1 false (.t 26), none⟩,
 ⟨some 28, .bin .rem (.t 27) (.c (.s (.int .u8 4))), none⟩,
 ⟨some 29, .conv .i64 (.t 28), none⟩,
 ⟨some 30, .bin .add (.c (.s (.int .i64 1))) (.t 29), none⟩,
 ⟨some 31, .build false [.s (.int .i64 0), .s (.int .i64 0), .s (.int .i64 0), .s (.int .i64 0), .s (.int .i64 0)] [(0, 1, (.t 25)), (1, 1, (.t 30))], none⟩,
 ⟨some 6, .alloc [.s (.int .i64 0), .s (.int .i64 0), .s (.int .i64 0), .s (.int .i64 0), .s (.int .i64 0)], none⟩,
 ⟨none, .store 5 (.t 6) (.t 31), none⟩] (none))
 (.seq (.region [
 ⟨some 32, .faddr (.t 5) 2, none⟩,
 ⟨some 33, .load 1 false (.t 32), none⟩,
 ⟨some 34, .bin .rem (.t 33) (.c (.s (.int .u8 64))), none⟩,
 ⟨some 35, .conv .i64 (.t 34), none⟩,
 ⟨some 36, .bin .add (.c (.s (.int .i64 1000))) (.t 35), none⟩,
 ⟨some 37, .faddr (.t 5) 3, none⟩,
 ⟨some 38, .load 1 false (.t 37), none⟩,
 ⟨some 39, .bin .rem (.t 38) (.c (.s (.int .u8 16))), none⟩,
 ⟨some 40, .conv .i64 (.t 39), none⟩,
 ⟨some 7, .cp (.t 36), none⟩,
 ⟨some 8, .cp (.t 40), none⟩] (some []))
 (.seq (.region [
 ⟨some 41, .cp (.t 7), none⟩,
 ⟨some 42, .load 7 true (.t 1), none⟩,
 ⟨some 43, .faddr (.t 6) 0, none⟩,
 ⟨some 44, .load 1 false (.t 43), none⟩,
 ⟨some 45, .call false zha_ [(.t 42), (.t 44)], none⟩,
 ⟨some 46, .bin .add (.t 41) (.t 45), none⟩,
 ⟨some 47, .cp (.t 7), none⟩,
 ⟨some 48, .cp (.t 8), none⟩,
 ⟨some 49, .bin .add (.t 47) (.t 48), none⟩,
 ⟨some 50, .load 7 true (.t 1), none⟩,
 ⟨some 51, .faddr (.t 6) 1, none⟩,
 ⟨some 52, .load 1 false (.t 51), none⟩,
 ⟨some 53, .call false zha_ [(.t 50), (.t 52)], none⟩,
 ⟨some 54, .bin .add (.t 49) (.t 53), none⟩,
 ⟨some 55, .cp (.t 8), none⟩,
 ⟨some 56, .faddr (.t 5) 4, none⟩,
 ⟨some 57, .load 1 false (.t 56), none⟩,
 ⟨some 58, .bin .rem (.t 57) (.c (.s (.int .u8 4))), none⟩,
 ⟨some 59, .conv .i64 (.t 58), none⟩,
 ⟨some 60, .bin .sub (.t 55) (.t 59), none⟩,
 ⟨some 61, .minmax true [(.c (.s (.int .i64 0))), (.t 60)], none⟩,
 ⟨some 62, .faddr (.t 6) 2, none⟩,
 ⟨none, .store 1 (.t 62) (.t 46), none⟩,
 ⟨some 63, .faddr (.t 6) 3, none⟩,
 ⟨none, .store 1 (.t 63) (.t 54), none⟩,
 ⟨some 64, .faddr (.t 6) 4, none⟩,
 ⟨none, .store 1 (.t 64) (.t 61), none⟩] (some [(4, none), (12, some 16), (22, some 16), (24, some 16)]))
 (.region [
 ⟨some 65, .cp (.t 3), none⟩,
 ⟨some 66, .load 5 true (.t 6), none⟩,
 ⟨some 67, .bslice false 5 [(.t 66)], none⟩,
 ⟨some 68, .append 5 3518437208883 (.t 65) (.t 67), none⟩,
 ⟨some 3, .cp (.t 68), none⟩] (none)))))))
 (.region [
 ⟨some 14, .cp (.t 4), none⟩,
 ⟨some 15, .bin .add (.t 14) (.c (.s (.int .i64 1))), none⟩,
 ⟨some 4, .cp (.t 15), none⟩] (none))))
def zlr_ : XF := { np := 1, results := [(.inl 2, .v)], body :=
 (.seq (.region [
 ⟨some 1, .box false (.t 0), none⟩,
 ⟨some 2, .cp (.c (.s (.slice none 0 0))), none⟩] (none))
 (.seq (.region [
 ⟨some 3, .cp (.c (.s (.slice none 0 0))), none⟩] (none))
 (.seq (.seq (.region [
 ⟨some 4, .cp (.c (.s (.int .i64 0))), none⟩] (none))
 (.block 0
 (.loop zut_)))
 (.seq (.region [
 ⟨some 69, .cp (.t 3), none⟩,
 ⟨some 2, .cp (.t 69), none⟩] (none))
 .ret)))) }
def zpt_ : XC :=
 (.seq (.region [
 ⟨some 9, .bin .lss (.t 8) (.t 7), none⟩] (none))
 (.seq (.cond (.t 9)
 .skip
 (.exit 0))
 (.seq (.block 1
 (.seq (.region [
 ⟨some 10, .cp (.t 8), none⟩,
 ⟨some 5, .cp (.t 10), none⟩] (none))
 (.seq (.region [
 ⟨some 11, .cp (.t 1), none⟩,
 ⟨some 12, .cp (.t 0), none⟩,
 ⟨some 13, .cp (.t 5), none⟩,
 ⟨some 14, .iaddr 4 (.t 12) (.t 13), none⟩,
 ⟨some 15, .load 4 true (.t 14), none⟩,
 ⟨some 16, .callv false (.t 11) [(.t 15)], none⟩] (none))
 (.cond (.t 16)
 (.seq (.region [
 ⟨some 17, .cp (.t 5), none⟩,
 ⟨some 4, .cp (.t 17), none⟩] (none))
 .ret)
 .skip))))
 (.region [
 ⟨some 18, .bin .add (.t 8) (.c (.s (.int .i64 1))), none⟩,
 ⟨some 8, .cp (.t 18), none⟩] (none)))))
def zls_ : XF := { np := 2, results := [(.inl 4, .v)], body :=
 (.seq (.region [
 ⟨some 4, .cp (.c (.s (.int .i64 0))), none⟩] (none))
 (.seq (.seq (.region [
 ⟨some 6, .cp (.t 0), none⟩,
 ⟨some 7, .len false (.t 6), none⟩,
 ⟨some 8, .cp (.c (.s (.int .i64 0))), none⟩] (none))
 (.block 0
 (.loop zpt_)))
 (.seq (.region [
 ⟨some 4, .cp (.c (.s (.int .i64 (-1)))), none⟩] (none))
 .ret))) }
def zuu_ : XC :=
 (.seq (.seq (.region [
 ⟨some 8, .cp (.t 5), none⟩,
 ⟨some 9, .cp (.t 4), none⟩,
 ⟨some 10, .len false (.t 9), none⟩,
 ⟨some 11, .bin .lss (.t 8) (.t 10), none⟩] (none))
 (.cond (.t 11)
 .skip
 (.exit 0)))
 (.seq (.block 1
 (.region [
 ⟨some 14, .cp (.t 3), none⟩,
 ⟨some 15, .cp (.t 4), none⟩,
 ⟨some 16, .cp (.t 5), none⟩,
 ⟨some 17, .iaddr 3 (.t 15) (.t 16), none⟩,
 ⟨some 18, .faddr (.t 17) 2, none⟩,
 ⟨some 19, .load 1 false (.t 18), none⟩,
 ⟨some 20, .append 14 837723144972 (.t 14) (.t 19), none⟩,
 ⟨some 3, .cp (.t 20), none⟩] (none)))
 (.region [
 ⟨some 12, .cp (.t 5), none⟩,
 ⟨some 13, .bin .add (.t 12) (.c (.s (.int .i64 1))), none⟩,
 ⟨some 5, .cp (.t 13), none⟩] (none))))
def zlt_ : XF := { np := 1, results := [(.inl 2, .v)], body :=
 (.seq (.region [
 ⟨some 1, .box false (.t 0), none⟩,
 ⟨some 2, .cp (.c (.s (.slice none 0 0))), none⟩] (none))
 (.seq (.region [
 ⟨some 3, .cp (.c (.s (.slice none 0 0))), none⟩] (none))
 (.seq (.region [
 ⟨some 6, .load 7 true (.t 1), none⟩,
 ⟨some 7, .call false zuj_ [(.t 6)], none⟩,
 ⟨some 4, .cp (.t 7), none⟩] (none))
 (.seq (.seq (.region [
 ⟨some 5, .cp (.c (.s (.int .i64 0))), none⟩] (none))
 (.block 0
 (.loop zuu_)))
 (.seq (.region [
 ⟨some 21, .cp (.t 3), none⟩,
 ⟨some 2, .cp (.t 21), none⟩] (none))
 .ret))))) }
def zlu_ : XF := { np := 2, results := [(.inl 4, .v)], body :=
 (.seq (.region [
 ⟨some 2, .box false (.t 0), none⟩,
 ⟨some 4, .cp (.c (.s (.int .i64 0))), none⟩] (none))
 (.seq (.region [
 ⟨some 5, .faddr (.t 2) 0, none⟩,
 ⟨some 6, .load 1 false (.t 5), none⟩,
 ⟨some 7, .cp (.t 1), none⟩,
 ⟨some 8, .iaddr 3 (.t 6) (.t 7), none⟩,
 ⟨some 9, .faddr (.t 8) 0, none⟩,
 ⟨some 10, .load 1 false (.t 9), none⟩,
 ⟨some 11, .bin .rem (.t 10) (.c (.s (.int .u8 64))), none⟩,
 ⟨some 12, .conv .i64 (.t 11), none⟩,
 ⟨some 13, .bin .shl (.t 12) (.c (.s (.int .u64 20))), none⟩,
 ⟨some 14, .bin .add (.t 13) (.c (.s (.int .i64 1))), none⟩,
 ⟨some 15, .cp (.t 1), none⟩,
 ⟨some 16, .bin .add (.t 14) (.t 15), none⟩,
 ⟨some 4, .cp (.t 16), none⟩] (none))
 .ret)) }
def zlv_ : XF := { np := 2, results := [(.inl 4, .v)], body :=
 (.seq (.region [
 ⟨some 2, .box false (.t 0), none⟩,
 ⟨some 4, .cp (.c (.s (.int .i64 0))), none⟩] (none))
 (.seq (.region [
 ⟨some 5, .cp (.t 1), none⟩,
 ⟨some 6, .conv .u64 (.t 5), none⟩,
 ⟨some 7, .bin .add (.t 6) (.c (.s (.int .u64 3))), none⟩,
 ⟨some 8, .bin .rem (.t 7) (.c (.s (.int .u64 4))), none⟩,
 ⟨some 9, .faddr (.t 2) 1, none⟩,
 ⟨some 10, .iaddrA 4 1 (.t 9) (.t 8), none⟩,
 ⟨some 11, .load 1 false (.t 10), none⟩,
 ⟨some 12, .conv .i64 (.t 11), none⟩,
 ⟨some 13, .bin .rem (.t 12) (.c (.s (.int .i64 21))), none⟩,
 ⟨some 4, .cp (.t 13), none⟩] (none))
 .ret)) }
def zlw_ : XC :=
 (.seq (.seq (.region [
 ⟨some 31, .cp (.t 6), none⟩,
 ⟨some 32, .bin .gtr (.t 31) (.c (.s (.int .i64 0))), none⟩,
 ⟨some 33, .cp (.t 32), none⟩,
 ⟨some 34, .cp (.t 3), some (33, true)⟩,
 ⟨some 35, .cp (.t 6), some (33, true)⟩,
 ⟨some 36, .bin .sub (.t 35) (.c (.s (.int .i64 1))), some (33, true)⟩,
 ⟨some 37, .iaddr 3 (.t 34) (.t 36), some (33, true)⟩,
 ⟨some 38, .faddr (.t 37) 0, some (33, true)⟩,
 ⟨some 39, .load 1 false (.t 38), some (33, true)⟩,
 ⟨some 40, .faddr (.t 5) 0, some (33, true)⟩,
 ⟨some 41, .load 1 false (.t 40), some (33, true)⟩,
 ⟨some 42, .bin .gtr (.t 39) (.t 41), some (33, true)⟩,
 ⟨some 43, .pick (.t 33) (.t 42) (.c (.s (.bool false))), none⟩] (some []))
 (.cond (.t 43)
 .skip
 (.exit 2)))
 (.block 3
 (.region [
 ⟨some 44, .cp (.t 6), none⟩,
 ⟨some 45, .bin .sub (.t 44) (.c (.s (.int .i64 1))), none⟩,
 ⟨some 6, .cp (.t 45), none⟩] (none))))
def zpu_ : XC :=
 (.seq (.seq (.region [
 ⟨some 7, .cp (.t 4), none⟩,
 ⟨some 8, .faddr (.t 1) 0, none⟩,
 ⟨some 9, .load 1 false (.t 8), none⟩,
 ⟨some 10, .len false (.t 9), none⟩,
 ⟨some 11, .bin .lss (.t 7) (.t 10), none⟩] (none))
 (.cond (.t 11)
 .skip
 (.exit 0)))
 (.seq (.block 1
 (.seq (.seq (.region [
 ⟨some 14, .faddr (.t 1) 0, none⟩,
 ⟨some 15, .load 1 false (.t 14), none⟩,
 ⟨some 16, .cp (.t 4), none⟩,
 ⟨some 17, .iaddr 3 (.t 15) (.t 16), none⟩,
 ⟨some 18, .faddr (.t 17) 2, none⟩,
 ⟨some 19, .load 1 false (.t 18), none⟩,
 ⟨some 20, .len false (.t 19), none⟩,
 ⟨some 21, .bin .eql (.t 20) (.c (.s (.int .i64 0))), none⟩] (none))
 (.cond (.t 21)
 (.exit 1)
 .skip))
 (.seq (.region [
 ⟨some 22, .load 7 true (.t 1), none⟩,
 ⟨some 23, .cp (.t 4), none⟩,
 ⟨some 24, .call false zek_ [(.t 22), (.t 23)], none⟩,
 ⟨some 25, .load 7 true (.t 1), none⟩,
 ⟨some 26, .cp (.t 4), none⟩,
 ⟨some 27, .call false zph_ [(.t 25), (.t 26), (.c (.s (.bool false)))], none⟩,
 ⟨some 28, .build false [.s (.int .i64 0), .s (.int .i64 0), .s (.slice none 0 0)] [(0, 1, (.t 24)), (1, 1, (.c (.s (.int .i64 1)))), (2, 1, (.t 27))], none⟩,
 ⟨some 5, .alloc [.s (.int .i64 0), .s (.int .i64 0), .s (.slice none 0 0)], none⟩,
 ⟨none, .store 3 (.t 5) (.t 28), none⟩] (some [(2, some 3), (7, some 0), (7, some 3)]))
 (.seq (.region [
 ⟨some 29, .cp (.t 3), none⟩,
 ⟨some 30, .len false (.t 29), none⟩,
 ⟨some 6, .cp (.t 30), none⟩] (none))
 (.seq (.block 2
 (.loop zlw_))
 (.region [
 ⟨some 46, .bslice true 3 [], none⟩,
 ⟨some 47, .cp (.t 3), none⟩,
 ⟨some 48, .cp (.t 6), none⟩,
 ⟨some 49, .slLst 3 (.t 47) none (some (.t 48)), none⟩,
 ⟨some 50, .append 3 3518437208883 (.t 46) (.t 49), none⟩,
 ⟨some 51, .load 3 true (.t 5), none⟩,
 ⟨some 52, .bslice false 3 [(.t 51)], none⟩,
 ⟨some 53, .append 3 3518437208883 (.t 50) (.t 52), none⟩,
 ⟨some 54, .cp (.t 3), none⟩,
 ⟨some 55, .cp (.t 6), none⟩,
 ⟨some 56, .slLst 3 (.t 54) (some (.t 55)) none, none⟩,
 ⟨some 57, .append 3 3518437208883 (.t 53) (.t 56), none⟩,
 ⟨some 3, .cp (.t 57), none⟩] (some [(0, some 3), (0, some 5), (0, some 10), (4, some 5), (4, some 10), (7, some 10)])))))))
 (.region [
 ⟨some 12, .cp (.t 4), none⟩,
 ⟨some 13, .bin .add (.t 12) (.c (.s (.int .i64 1))), none⟩,
 ⟨some 4, .cp (.t 13), none⟩] (none))))
def zlx_ : XF := { np := 1, results := [(.inl 2, .v)], body :=
 (.seq (.region [
 ⟨some 1, .box false (.t 0), none⟩,
 ⟨some 2, .cp (.c (.s (.slice none 0 0))), none⟩] (none))
 (.seq (.region [
 ⟨some 3, .cp (.c (.s (.slice none 0 0))), none⟩] (none))
 (.seq (.seq (.region [
 ⟨some 4, .cp (.c (.s (.int .i64 0))), none⟩] (none))
 (.block 0
 (.loop zpu_)))
 (.seq (.region [
 ⟨some 58, .cp (.t 3), none⟩,
 ⟨some 2, .cp (.t 58), none⟩] (none))
 .ret)))) }
def zhx_ : XC :=
 (.seq (.seq (.region [
 ⟨some 22, .cp (.t 10), none⟩,
 ⟨some 23, .faddr (.t 3) 0, none⟩,
 ⟨some 24, .load 1 false (.t 23), none⟩,
 ⟨some 25, .cp (.t 1), none⟩,
 ⟨some 26, .iaddr 3 (.t 24) (.t 25), none⟩,
 ⟨some 27, .faddr (.t 26) 2, none⟩,
 ⟨some 28, .load 1 false (.t 27), none⟩,
 ⟨some 29, .len false (.t 28), none⟩,
 ⟨some 30, .bin .lss (.t 22) (.t 29), none⟩] (none))
 (.cond (.t 30)
 .skip
 (.exit 0)))
 (.seq (.block 1
 (.seq (.region [
 ⟨some 33, .load 7 true (.t 3), none⟩,
 ⟨some 34, .cp (.t 1), none⟩,
 ⟨some 35, .cp (.t 10), none⟩,
 ⟨some 36, .cp (.t 8), none⟩,
 ⟨some 37, .cp (.t 9), none⟩,
 ⟨some 38, .call false zum_ [(.t 33), (.t 34), (.t 35), (.t 36), (.t 37)], none⟩,
 ⟨some 11, .alloc [.s (.int .i64 0), .s (.int .i64 0), .s (.int .i64 0), .s (.int .i64 0), .s (.int .i64 0), .s (.int .i64 0), .s (.string ⟨#[]⟩), .s (.string ⟨#[]⟩), .s (.string ⟨#[]⟩), .s (.int .i64 0), .s (.int .i64 0), .s (.bool false), .s (.slice none 0 0), .s (.slice none 0 0)], none⟩,
 ⟨none, .store 14 (.t 11) (.t 38), none⟩] (none))
 (.seq (.seq (.region [
 ⟨some 39, .cp (.t 2), none⟩,
 ⟨some 40, .un .not (.t 39), none⟩] (none))
 (.cond (.t 40)
 (.seq (.region [
 ⟨some 41, .load 7 true (.t 3), none⟩,
 ⟨some 42, .faddr (.t 11) 4, none⟩,
 ⟨some 43, .load 1 false (.t 42), none⟩,
 ⟨some 44, .call false zha_ [(.t 41), (.t 43)], none⟩,
 ⟨some 12, .cp (.t 44), none⟩] (none))
 (.seq (.seq (.region [
 ⟨some 45, .faddr (.t 3) 6, none⟩,
 ⟨some 46, .load 1 false (.t 45), none⟩,
 ⟨some 47, .bin .gtr (.t 46) (.c (.s (.int .u8 0))), none⟩,
 ⟨some 48, .cp (.t 47), none⟩,
 ⟨some 49, .faddr (.t 3) 6, some (48, true)⟩,
 ⟨some 50, .load 1 false (.t 49), some (48, true)⟩,
 ⟨some 51, .conv .i64 (.t 50), some (48, true)⟩,
 ⟨some 52, .bin .rem (.t 51) (.c (.s (.int .i64 8))), some (48, true)⟩,
 ⟨some 53, .cp (.t 10), some (48, true)⟩,
 ⟨some 54, .bin .eql (.t 52) (.t 53), some (48, true)⟩,
 ⟨some 55, .pick (.t 48) (.t 54) (.c (.s (.bool false))), none⟩,
 ⟨some 56, .cp (.t 55), none⟩,
 ⟨some 57, .faddr (.t 3) 6, some (56, true)⟩,
 ⟨some 58, .load 1 false (.t 57), some (56, true)⟩,
 ⟨some 59, .conv .i64 (.t 58), some (56, true)⟩,
 ⟨some 60, .bin .quo (.t 59) (.c (.s (.int .i64 8))), some (56, true)⟩,
 ⟨some 61, .bin .rem (.t 60) (.c (.s (.int .i64 3))), some (56, true)⟩,
 ⟨some 62, .cp (.t 1), some (56, true)⟩,
 ⟨some 63, .bin .eql (.t 61) (.t 62), some (56, true)⟩,
 ⟨some 64, .pick (.t 56) (.t 63) (.c (.s (.bool false))), none⟩] (none))
 (.cond (.t 64)
 (.region [
 ⟨some 65, .cp (.t 12), none⟩,
 ⟨some 66, .bin .add (.t 65) (.c (.s (.int .i64 500))), none⟩,
 ⟨some 12, .cp (.t 66), none⟩] (none))
 .skip))
 (.region [
 ⟨some 67, .faddr (.t 11) 9, none⟩,
 ⟨some 68, .load 1 false (.t 67), none⟩,
 ⟨some 69, .cp (.t 12), none⟩,
 ⟨some 70, .bin .add (.t 68) (.t 69), none⟩,
 ⟨some 71, .faddr (.t 11) 10, none⟩,
 ⟨some 72, .load 1 false (.t 71), none⟩,
 ⟨some 73, .cp (.t 12), none⟩,
 ⟨some 74, .bin .add (.t 72) (.t 73), none⟩,
 ⟨some 75, .faddr (.t 11) 9, none⟩,
 ⟨none, .store 1 (.t 75) (.t 70), none⟩,
 ⟨some 76, .faddr (.t 11) 10, none⟩,
 ⟨none, .store 1 (.t 76) (.t 74), none⟩] (none))))
 .skip))
 (.region [
 ⟨some 77, .cp (.t 7), none⟩,
 ⟨some 78, .load 14 true (.t 11), none⟩,
 ⟨some 79, .bslice false 14 [(.t 78)], none⟩,
 ⟨some 80, .append 14 837723144972 (.t 77) (.t 79), none⟩,
 ⟨some 7, .cp (.t 80), none⟩] (none)))))
 (.region [
 ⟨some 31, .cp (.t 10), none⟩,
 ⟨some 32, .bin .add (.t 31) (.c (.s (.int .i64 1))), none⟩,
 ⟨some 10, .cp (.t 32), none⟩] (none))))
def zly_ : XF := { np := 3, results := [(.inl 6, .v)], body :=
 (.seq (.region [
 ⟨some 3, .box false (.t 0), none⟩,
 ⟨some 6, .cp (.c (.s (.slice none 0 0))), none⟩] (none))
 (.seq (.region [
 ⟨some 7, .cp (.c (.s (.slice none 0 0))), none⟩] (none))
 (.seq (.region [
 ⟨some 14, .faddr (.t 3) 0, none⟩,
 ⟨some 15, .load 1 false (.t 14), none⟩,
 ⟨some 16, .cp (.t 1), none⟩,
 ⟨some 17, .iaddr 3 (.t 15) (.t 16), none⟩,
 ⟨some 18, .load 3 true (.t 17), none⟩,
 ⟨some 19, .call false zul_ [(.t 18)], none⟩,
 ⟨some 13, .cp (.t 19), none⟩,
 ⟨some 20, .extract (.t 13) 0, none⟩,
 ⟨some 21, .extract (.t 13) 1, none⟩,
 ⟨some 8, .cp (.t 20), none⟩,
 ⟨some 9, .cp (.t 21), none⟩] (none))
 (.seq (.seq (.region [
 ⟨some 10, .cp (.c (.s (.int .i64 0))), none⟩] (none))
 (.block 0
 (.loop zhx_)))
 (.seq (.region [
 ⟨some 81, .cp (.t 7), none⟩,
 ⟨some 6, .cp (.t 81), none⟩] (none))
 .ret))))) }
def zhy_ : XC :=
 (.seq (.seq (.region [
 ⟨some 10, .cp (.t 4), none⟩,
 ⟨some 11, .faddr (.t 1) 2, none⟩,
 ⟨some 12, .load 1 false (.t 11), none⟩,
 ⟨some 13, .len false (.t 12), none⟩,
 ⟨some 14, .bin .lss (.t 10) (.t 13), none⟩] (none))
 (.cond (.t 14)
 .skip
 (.exit 0)))
 (.seq (.block 1
 (.seq (.region [
 ⟨some 17, .faddr (.t 1) 2, none⟩,
 ⟨some 18, .load 1 false (.t 17), none⟩,
 ⟨some 19, .cp (.t 4), none⟩,
 ⟨some 20, .iaddr 11 (.t 18) (.t 19), none⟩,
 ⟨some 21, .load 11 true (.t 20), none⟩,
 ⟨some 5, .alloc [.s (.int .u8 0), .s (.int .u8 0), .s (.int .u8 0), .s (.int .u8 0), .s (.int .u8 0), .s (.int .u8 0), .s (.int .u8 0), .s (.int .u8 0), .s (.int .u8 0), .s (.int .u8 0), .s (.bool false)], none⟩,
 ⟨none, .store 11 (.t 5) (.t 21), none⟩] (none))
 (.seq (.region [
 ⟨some 22, .faddr (.t 1) 1, none⟩,
 ⟨some 23, .load 1 false (.t 22), none⟩,
 ⟨some 24, .bin .rem (.t 23) (.c (.s (.int .u8 32))), none⟩,
 ⟨some 25, .conv .i64 (.t 24), none⟩,
 ⟨some 26, .bin .add (.c (.s (.int .i64 1000))) (.t 25), none⟩,
 ⟨some 6, .cp (.t 26), none⟩] (none))
 (.seq (.seq (.region [
 ⟨some 27, .faddr (.t 5) 0, none⟩,
 ⟨some 28, .load 1 false (.t 27), none⟩,
 ⟨some 29, .conv .i64 (.t 28), none⟩,
 ⟨some 30, .cp (.t 4), none⟩,
 ⟨some 31, .bin .add (.t 30) (.c (.s (.int .i64 1))), none⟩,
 ⟨some 32, .bin .rem (.t 29) (.t 31), none⟩,
 ⟨some 7, .cp (.t 32), none⟩] (none))
 (.seq (.region [
 ⟨some 33, .cp (.t 7), none⟩,
 ⟨some 34, .cp (.t 4), none⟩,
 ⟨some 35, .bin .lss (.t 33) (.t 34), none⟩] (none))
 (.cond (.t 35)
 (.region [
 ⟨some 36, .cp (.t 2), none⟩,
 ⟨some 37, .cp (.t 7), none⟩,
 ⟨some 38, .iaddr 1 (.t 36) (.t 37), none⟩,
 ⟨some 39, .load 1 false (.t 38), none⟩,
 ⟨some 6, .cp (.t 39), none⟩] (none))
 .skip)))
 (.seq (.seq (.region [
 ⟨some 40, .cp (.t 4), none⟩,
 ⟨some 41, .bin .gtr (.t 40) (.c (.s (.int .i64 0))), none⟩] (none))
 (.cond (.t 41)
 (.region [
 ⟨some 42, .cp (.t 6), none⟩,
 ⟨some 43, .faddr (.t 5) 6, none⟩,
 ⟨some 44, .load 1 false (.t 43), none⟩,
 ⟨some 45, .bin .rem (.t 44) (.c (.s (.int .u8 32))), none⟩,
 ⟨some 46, .conv .i64 (.t 45), none⟩,
 ⟨some 47, .bin .add (.t 42) (.t 46), none⟩,
 ⟨some 6, .cp (.t 47), none⟩] (none))
 .skip))
 (.region [
 ⟨some 48, .cp (.t 2), none⟩,
 ⟨some 49, .cp (.t 6), none⟩,
 ⟨some 50, .bslice false 1 [(.t 49)], none⟩,
 ⟨some 51, .append 1 17592186044416 (.t 48) (.t 50), none⟩,
 ⟨some 52, .cp (.t 3), none⟩,
 ⟨some 53, .cp (.t 6), none⟩,
 ⟨some 54, .faddr (.t 5) 7, none⟩,
 ⟨some 55, .load 1 false (.t 54), none⟩,
 ⟨some 56, .bin .rem (.t 55) (.c (.s (.int .u8 32))), none⟩,
 ⟨some 57, .conv .i64 (.t 56), none⟩,
 ⟨some 58, .bin .add (.t 53) (.t 57), none⟩,
 ⟨some 59, .bslice false 1 [(.t 58)], none⟩,
 ⟨some 60, .append 1 17592186044416 (.t 52) (.t 59), none⟩,
 ⟨some 2, .cp (.t 51), none⟩,
 ⟨some 3, .cp (.t 60), none⟩] (some [(3, some 7)])))))))
 (.region [
 ⟨some 15, .cp (.t 4), none⟩,
 ⟨some 16, .bin .add (.t 15) (.c (.s (.int .i64 1))), none⟩,
 ⟨some 4, .cp (.t 16), none⟩] (none))))
def zdp_ : XC :=
 (.seq (.seq (.region [
 ⟨some 65, .cp (.t 8), none⟩,
 ⟨some 66, .bin .gtr (.t 65) (.c (.s (.int .i64 0))), none⟩] (none))
 (.cond (.t 66)
 .skip
 (.exit 2)))
 (.seq (.block 3
 (.seq (.region [
 ⟨some 69, .faddr (.t 1) 2, none⟩,
 ⟨some 70, .load 1 false (.t 69), none⟩,
 ⟨some 71, .cp (.t 8), none⟩,
 ⟨some 72, .iaddr 11 (.t 70) (.t 71), none⟩,
 ⟨some 73, .faddr (.t 72) 0, none⟩,
 ⟨some 74, .load 1 false (.t 73), none⟩,
 ⟨some 75, .conv .i64 (.t 74), none⟩,
 ⟨some 76, .cp (.t 8), none⟩,
 ⟨some 77, .bin .add (.t 76) (.c (.s (.int .i64 1))), none⟩,
 ⟨some 78, .bin .rem (.t 75) (.t 77), none⟩,
 ⟨some 9, .cp (.t 78), none⟩] (none))
 (.seq (.region [
 ⟨some 79, .cp (.t 9), none⟩,
 ⟨some 80, .cp (.t 8), none⟩,
 ⟨some 81, .bin .lss (.t 79) (.t 80), none⟩,
 ⟨some 82, .cp (.t 81), none⟩,
 ⟨some 83, .faddr (.t 1) 2, some (82, true)⟩,
 ⟨some 84, .load 1 false (.t 83), some (82, true)⟩,
 ⟨some 85, .cp (.t 8), some (82, true)⟩,
 ⟨some 86, .iaddr 11 (.t 84) (.t 85), some (82, true)⟩,
 ⟨some 87, .load 11 true (.t 86), some (82, true)⟩,
 ⟨some 88, .call false zjs_ [(.t 87)], some (82, true)⟩,
 ⟨some 89, .bin .eql (.t 88) (.c (.s (.int .i64 3))), some (82, true)⟩,
 ⟨some 90, .pick (.t 82) (.t 89) (.c (.s (.bool false))), none⟩,
 ⟨some 91, .cp (.t 90), none⟩,
 ⟨some 92, .faddr (.t 1) 2, some (91, true)⟩,
 ⟨some 93, .load 1 false (.t 92), some (91, true)⟩,
 ⟨some 94, .cp (.t 9), some (91, true)⟩,
 ⟨some 95, .iaddr 11 (.t 93) (.t 94), some (91, true)⟩,
 ⟨some 96, .load 11 true (.t 95), some (91, true)⟩,
 ⟨some 97, .call false zjs_ [(.t 96)], some (91, true)⟩,
 ⟨some 98, .bin .eql (.t 97) (.c (.s (.int .i64 2))), some (91, true)⟩,
 ⟨some 99, .pick (.t 91) (.t 98) (.c (.s (.bool false))), none⟩,
 ⟨some 100, .cp (.t 99), none⟩,
 ⟨some 101, .faddr (.t 1) 2, some (100, true)⟩,
 ⟨some 102, .load 1 false (.t 101), some (100, true)⟩,
 ⟨some 103, .cp (.t 9), some (100, true)⟩,
 ⟨some 104, .iaddr 11 (.t 102) (.t 103), some (100, true)⟩,
 ⟨some 105, .faddr (.t 104) 10, some (100, true)⟩,
 ⟨some 106, .load 1 false (.t 105), some (100, true)⟩,
 ⟨some 107, .un .not (.t 106), some (100, true)⟩,
 ⟨some 108, .pick (.t 100) (.t 107) (.c (.s (.bool false))), none⟩] (none))
 (.cond (.t 108)
 (.region [
 ⟨some 109, .cp (.t 3), none⟩,
 ⟨some 110, .cp (.t 9), none⟩,
 ⟨some 111, .cp (.t 3), none⟩,
 ⟨some 112, .cp (.t 9), none⟩,
 ⟨some 113, .iaddr 1 (.t 111) (.t 112), none⟩,
 ⟨some 114, .load 1 false (.t 113), none⟩,
 ⟨some 115, .cp (.t 3), none⟩,
 ⟨some 116, .cp (.t 8), none⟩,
 ⟨some 117, .iaddr 1 (.t 115) (.t 116), none⟩,
 ⟨some 118, .load 1 false (.t 117), none⟩,
 ⟨some 119, .minmax true [(.t 114), (.t 118)], none⟩,
 ⟨some 120, .iaddr 1 (.t 109) (.t 110), none⟩,
 ⟨none, .store 1 (.t 120) (.t 119), none⟩] (some []))
 .skip))))
 (.region [
 ⟨some 67, .cp (.t 8), none⟩,
 ⟨some 68, .bin .sub (.t 67) (.c (.s (.int .i64 1))), none⟩,
 ⟨some 8, .cp (.t 68), none⟩] (none))))
def zlz_ : XF := { np := 1, results := [(.inl 2, .v), (.inl 3, .v)], body :=
 (.seq (.region [
 ⟨some 1, .box false (.t 0), none⟩,
 ⟨some 2, .cp (.c (.s (.slice none 0 0))), none⟩,
 ⟨some 3, .cp (.c (.s (.slice none 0 0))), none⟩] (none))
 (.seq (.seq (.region [
 ⟨some 4, .cp (.c (.s (.int .i64 0))), none⟩] (none))
 (.block 0
 (.loop zhy_)))
 (.seq (.seq (.region [
 ⟨some 61, .faddr (.t 1) 2, none⟩,
 ⟨some 62, .load 1 false (.t 61), none⟩,
 ⟨some 63, .len false (.t 62), none⟩,
 ⟨some 64, .bin .sub (.t 63) (.c (.s (.int .i64 1))), none⟩,
 ⟨some 8, .cp (.t 64), none⟩] (none))
 (.block 2
 (.loop zdp_)))
 (.seq (.region [
 ⟨some 121, .cp (.t 2), none⟩,
 ⟨some 122, .cp (.t 3), none⟩,
 ⟨some 2, .cp (.t 121), none⟩,
 ⟨some 3, .cp (.t 122), none⟩] (none))
 .ret)))) }
def zct_ : XF := { np := 5, results := [(.inr (10, 14, true), .v)], body :=
 (.seq (.region [
 ⟨some 5, .box false (.t 0), none⟩,
 ⟨some 10, .alloc [.s (.int .i64 0), .s (.int .i64 0), .s (.int .i64 0), .s (.int .i64 0), .s (.int .i64 0), .s (.int .i64 0), .s (.string ⟨#[]⟩), .s (.string ⟨#[]⟩), .s (.string ⟨#[]⟩), .s (.int .i64 0), .s (.int .i64 0), .s (.bool false), .s (.slice none 0 0), .s (.slice none 0 0)], none⟩] (none))
 (.seq (.region [
 ⟨some 15, .faddr (.t 5) 0, none⟩,
 ⟨some 16, .load 1 false (.t 15), none⟩,
 ⟨some 17, .cp (.t 1), none⟩,
 ⟨some 18, .iaddr 3 (.t 16) (.t 17), none⟩,
 ⟨some 19, .faddr (.t 18) 2, none⟩,
 ⟨some 20, .load 1 false (.t 19), none⟩,
 ⟨some 21, .cp (.t 2), none⟩,
 ⟨some 22, .iaddr 11 (.t 20) (.t 21), none⟩,
 ⟨some 23, .load 11 true (.t 22), none⟩,
 ⟨some 11, .alloc [.s (.int .u8 0), .s (.int .u8 0), .s (.int .u8 0), .s (.int .u8 0), .s (.int .u8 0), .s (.int .u8 0), .s (.int .u8 0), .s (.int .u8 0), .s (.int .u8 0), .s (.int .u8 0), .s (.bool false)], none⟩,
 ⟨none, .store 11 (.t 11) (.t 23), none⟩] (none))
 (.seq (.region [
 ⟨some 24, .load 7 true (.t 5), none⟩,
 ⟨some 25, .cp (.t 1), none⟩,
 ⟨some 26, .call false zek_ [(.t 24), (.t 25)], none⟩,
 ⟨some 27, .cp (.t 2), none⟩,
 ⟨some 28, .bin .add (.t 27) (.c (.s (.int .i64 1))), none⟩,
 ⟨some 29, .faddr (.t 11) 1, none⟩,
 ⟨some 30, .load 1 false (.t 29), none⟩,
 ⟨some 31, .bin .rem (.t 30) (.c (.s (.int .u8 4))), none⟩,
 ⟨some 32, .conv .i64 (.t 31), none⟩,
 ⟨some 33, .bin .add (.c (.s (.int .i64 1))) (.t 32), none⟩,
 ⟨some 34, .load 11 true (.t 11), none⟩,
 ⟨some 35, .call false zjs_ [(.t 34)], none⟩,
 ⟨some 36, .faddr (.t 11) 10, none⟩,
 ⟨some 37, .load 1 false (.t 36), none⟩,
 ⟨some 38, .cp (.t 3), none⟩,
 ⟨some 39, .cp (.t 2), none⟩,
 ⟨some 40, .iaddr 1 (.t 38) (.t 39), none⟩,
 ⟨some 41, .load 1 false (.t 40), none⟩,
 ⟨some 42, .cp (.t 4), none⟩,
 ⟨some 43, .cp (.t 2), none⟩,
 ⟨some 44, .iaddr 1 (.t 42) (.t 43), none⟩,
 ⟨some 45, .load 1 false (.t 44), none⟩,
 ⟨some 46, .build false [.s (.int .i64 0), .s (.int .i64 0), .s (.int .i64 0), .s (.int .i64 0), .s (.int .i64 0), .s (.int .i64 0), .s (.string ⟨#[]⟩), .s (.string ⟨#[]⟩), .s (.string ⟨#[]⟩), .s (.int .i64 0), .s (.int .i64 0), .s (.bool false), .s (.slice none 0 0), .s (.slice none 0 0)] [(0, 1, (.t 26)), (1, 1, (.t 28)), (4, 1, (.t 33)), (5, 1, (.t 35)), (11, 1, (.t 37)), (9, 1, (.t 41)), (10, 1, (.t 45))], none⟩,
 ⟨some 12, .alloc [.s (.int .i64 0), .s (.int .i64 0), .s (.int .i64 0), .s (.int .i64 0), .s (.int .i64 0), .s (.int .i64 0), .s (.string ⟨#[]⟩), .s (.string ⟨#[]⟩), .s (.string ⟨#[]⟩), .s (.int .i64 0), .s (.int .i64 0), .s (.bool false), .s (.slice none 0 0), .s (.slice none 0 0)], none⟩,
 ⟨none, .store 14 (.t 12) (.t 46), none⟩] (some [(2, none), (11, none), (23, some 0), (23, some 6), (23, some 10), (23, some 13), (23, some 16), (23, some 17), (23, some 20), (23, some 21)]))
 (.seq (.region [
 ⟨some 47, .bslice false 1 [(.c (.s (.string ⟨#[97, 112, 105]⟩))), (.c (.s (.string ⟨#[100, 98]⟩))), (.c (.s (.string ⟨#[119, 101, 98]⟩))), (.c (.s (.string ⟨#[99, 97, 99, 104, 101]⟩)))], none⟩,
 ⟨some 48, .faddr (.t 11) 3, none⟩,
 ⟨some 49, .load 1 false (.t 48), none⟩,
 ⟨some 50, .bin .rem (.t 49) (.c (.s (.int .u8 4))), none⟩,
 ⟨some 51, .iaddr 1 (.t 47) (.t 50), none⟩,
 ⟨some 52, .load 1 false (.t 51), none⟩,
 ⟨some 53, .faddr (.t 12) 6, none⟩,
 ⟨none, .store 1 (.t 53) (.t 52), none⟩] (none))
 (.seq (.region [
 ⟨some 54, .bslice false 1 [(.c (.s (.string ⟨#[118, 49]⟩))), (.c (.s (.string ⟨#[118, 50]⟩))), (.c (.s (.string ⟨#[]⟩)))], none⟩,
 ⟨some 55, .faddr (.t 11) 4, none⟩,
 ⟨some 56, .load 1 false (.t 55), none⟩,
 ⟨some 57, .bin .rem (.t 56) (.c (.s (.int .u8 3))), none⟩,
 ⟨some 58, .iaddr 1 (.t 54) (.t 57), none⟩,
 ⟨some 59, .load 1 false (.t 58), none⟩,
 ⟨some 60, .faddr (.t 12) 7, none⟩,
 ⟨none, .store 1 (.t 60) (.t 59), none⟩] (none))
 (.seq (.region [
 ⟨some 61, .bslice false 1 [(.c (.s (.string ⟨#[103, 101, 116]⟩))), (.c (.s (.string ⟨#[112, 117, 116]⟩))), (.c (.s (.string ⟨#[108, 105, 115, 116]⟩)))], none⟩,
 ⟨some 62, .faddr (.t 11) 5, none⟩,
 ⟨some 63, .load 1 false (.t 62), none⟩,
 ⟨some 64, .bin .rem (.t 63) (.c (.s (.int .u8 3))), none⟩,
 ⟨some 65, .iaddr 1 (.t 61) (.t 64), none⟩,
 ⟨some 66, .load 1 false (.t 65), none⟩,
 ⟨some 67, .faddr (.t 12) 8, none⟩,
 ⟨none, .store 1 (.t 67) (.t 66), none⟩] (none))
 (.seq (.seq (.region [
 ⟨some 68, .faddr (.t 11) 0, none⟩,
 ⟨some 69, .load 1 false (.t 68), none⟩,
 ⟨some 70, .conv .i64 (.t 69), none⟩,
 ⟨some 71, .cp (.t 2), none⟩,
 ⟨some 72, .bin .add (.t 71) (.c (.s (.int .i64 1))), none⟩,
 ⟨some 73, .bin .rem (.t 70) (.t 72), none⟩,
 ⟨some 13, .cp (.t 73), none⟩] (none))
 (.seq (.region [
 ⟨some 74, .cp (.t 13), none⟩,
 ⟨some 75, .cp (.t 2), none⟩,
 ⟨some 76, .bin .lss (.t 74) (.t 75), none⟩] (none))
 (.cond (.t 76)
 (.region [
 ⟨some 77, .cp (.t 13), none⟩,
 ⟨some 78, .bin .add (.t 77) (.c (.s (.int .i64 1))), none⟩,
 ⟨some 79, .faddr (.t 12) 2, none⟩,
 ⟨none, .store 1 (.t 79) (.t 78), none⟩] (none))
 (.seq (.region [
 ⟨some 80, .cp (.t 2), none⟩,
 ⟨some 81, .bin .gtr (.t 80) (.c (.s (.int .i64 0))), none⟩] (none))
 (.cond (.t 81)
 (.region [
 ⟨some 82, .faddr (.t 12) 2, none⟩,
 ⟨none, .store 1 (.t 82) (.c (.s (.int .i64 100))), none⟩] (none))
 .skip)))))
 (.seq (.seq (.region [
 ⟨some 83, .faddr (.t 11) 8, none⟩,
 ⟨some 84, .load 1 false (.t 83), none⟩,
 ⟨some 85, .bin .rem (.t 84) (.c (.s (.int .u8 16))), none⟩,
 ⟨some 86, .conv .i64 (.t 85), none⟩,
 ⟨some 14, .cp (.t 86), none⟩] (none))
 (.seq (.region [
 ⟨some 87, .cp (.t 14), none⟩,
 ⟨some 88, .cp (.t 2), none⟩,
 ⟨some 89, .bin .lss (.t 87) (.t 88), none⟩,
 ⟨some 90, .cp (.t 89), none⟩,
 ⟨some 91, .cp (.t 3), some (90, true)⟩,
 ⟨some 92, .cp (.t 14), some (90, true)⟩,
 ⟨some 93, .iaddr 1 (.t 91) (.t 92), some (90, true)⟩,
 ⟨some 94, .load 1 false (.t 93), some (90, true)⟩,
 ⟨some 95, .cp (.t 3), some (90, true)⟩,
 ⟨some 96, .cp (.t 2), some (90, true)⟩,
 ⟨some 97, .iaddr 1 (.t 95) (.t 96), some (90, true)⟩,
 ⟨some 98, .load 1 false (.t 97), some (90, true)⟩,
 ⟨some 99, .bin .leq (.t 94) (.t 98), some (90, true)⟩,
 ⟨some 100, .pick (.t 90) (.t 99) (.c (.s (.bool false))), none⟩] (some []))
 (.cond (.t 100)
 (.region [
 ⟨some 101, .faddr (.t 12) 0, none⟩,
 ⟨some 102, .load 1 false (.t 101), none⟩,
 ⟨some 103, .cp (.t 14), none⟩,
 ⟨some 104, .bin .add (.t 103) (.c (.s (.int .i64 1))), none⟩,
 ⟨some 105, .build false [.s (.int .i64 0), .s (.int .i64 0)] [(0, 1, (.t 102)), (1, 1, (.t 104))], none⟩,
 ⟨some 106, .bslice false 2 [(.t 105)], none⟩,
 ⟨some 107, .faddr (.t 12) 13, none⟩,
 ⟨none, .store 1 (.t 107) (.t 106), none⟩] (none))
 .skip)))
 (.seq (.region [
 ⟨some 108, .load 11 true (.t 11), none⟩,
 ⟨some 109, .call false zun_ [(.t 108)], none⟩,
 ⟨some 110, .faddr (.t 12) 12, none⟩,
 ⟨none, .store 1 (.t 110) (.t 109), none⟩] (none))
 (.seq (.region [
 ⟨some 111, .load 14 true (.t 12), none⟩,
 ⟨none, .store 14 (.t 10) (.t 111), none⟩] (none))
 .ret)))))))))) }
def zma_ : XF := { np := 1, results := [(.inl 2, .v)], body :=
 (.seq (.region [
 ⟨some 1, .box false (.t 0), none⟩,
 ⟨some 2, .cp (.c (.s (.int .i64 0))), none⟩] (none))
 (.seq (.region [
 ⟨some 3, .faddr (.t 1) 2, none⟩,
 ⟨some 4, .load 1 false (.t 3), none⟩,
 ⟨some 5, .bin .rem (.t 4) (.c (.s (.int .u8 5))), none⟩,
 ⟨some 6, .conv .i64 (.t 5), none⟩,
 ⟨some 7, .bin .add (.c (.s (.int .i64 1))) (.t 6), none⟩,
 ⟨some 2, .cp (.t 7), none⟩] (none))
 .ret)) }
def zmb_ : XF := { np := 1, results := [(.inl 2, .v)], body :=
 (.seq (.region [
 ⟨some 1, .box false (.t 0), none⟩,
 ⟨some 2, .cp (.c (.s (.slice none 0 0))), none⟩] (none))
 (.seq (.region [
 ⟨some 4, .faddr (.t 1) 9, none⟩,
 ⟨some 5, .load 1 false (.t 4), none⟩,
 ⟨some 6, .bin .quo (.t 5) (.c (.s (.int .u8 4))), none⟩,
 ⟨some 7, .bin .rem (.t 6) (.c (.s (.int .u8 2))), none⟩,
 ⟨some 8, .conv .i64 (.t 7), none⟩,
 ⟨some 9, .build false [.s (.int .i64 0), .s (.string ⟨#[]⟩), .s (.int .i64 0)] [(0, 1, (.c (.s (.int .i64 3)))), (2, 1, (.t 8))], none⟩,
 ⟨some 10, .build false [.s (.string ⟨#[]⟩), .s (.int .i64 0), .s (.string ⟨#[]⟩), .s (.int .i64 0)] [(0, 1, (.c (.s (.string ⟨#[111, 107]⟩)))), (1, 3, (.t 9))], none⟩,
 ⟨some 11, .faddr (.t 1) 9, none⟩,
 ⟨some 12, .load 1 false (.t 11), none⟩,
 ⟨some 13, .conv .i64 (.t 12), none⟩,
 ⟨some 14, .bin .sub (.t 13) (.c (.s (.int .i64 100))), none⟩,
 ⟨some 15, .build false [.s (.int .i64 0), .s (.string ⟨#[]⟩), .s (.int .i64 0)] [(0, 1, (.c (.s (.int .i64 2)))), (2, 1, (.t 14))], none⟩,
 ⟨some 16, .build false [.s (.string ⟨#[]⟩), .s (.int .i64 0), .s (.string ⟨#[]⟩), .s (.int .i64 0)] [(0, 1, (.c (.s (.string ⟨#[115, 105, 122, 101]⟩)))), (1, 3, (.t 15))], none⟩,
 ⟨some 17, .bslice false 1 [(.c (.s (.string ⟨#[97]⟩))), (.c (.s (.string ⟨#[98]⟩))), (.c (.s (.string ⟨#[119, 101, 115, 116, 32, 49]⟩)))], none⟩,
 ⟨some 18, .faddr (.t 1) 9, none⟩,
 ⟨some 19, .load 1 false (.t 18), none⟩,
 ⟨some 20, .bin .quo (.t 19) (.c (.s (.int .u8 8))), none⟩,
 ⟨some 21, .bin .rem (.t 20) (.c (.s (.int .u8 3))), none⟩,
 ⟨some 22, .iaddr 1 (.t 17) (.t 21), none⟩,
 ⟨some 23, .load 1 false (.t 22), none⟩,
 ⟨some 24, .build false [.s (.int .i64 0), .s (.string ⟨#[]⟩), .s (.int .i64 0)] [(0, 1, (.c (.s (.int .i64 1)))), (1, 1, (.t 23))], none⟩,
 ⟨some 25, .build false [.s (.string ⟨#[]⟩), .s (.int .i64 0), .s (.string ⟨#[]⟩), .s (.int .i64 0)] [(0, 1, (.c (.s (.string ⟨#[122, 111, 110, 101]⟩)))), (1, 3, (.t 24))], none⟩,
 ⟨some 26, .bslice false 4 [(.t 10), (.t 16), (.t 25)], none⟩,
 ⟨some 3, .cp (.t 26), none⟩] (some []))
 (.seq (.region [
 ⟨some 27, .cp (.t 3), none⟩,
 ⟨some 28, .faddr (.t 1) 9, none⟩,
 ⟨some 29, .load 1 false (.t 28), none⟩,
 ⟨some 30, .bin .rem (.t 29) (.c (.s (.int .u8 4))), none⟩,
 ⟨some 31, .slLst 4 (.t 27) none (some (.t 30)), none⟩,
 ⟨some 2, .cp (.t 31), none⟩] (none))
 .ret))) }
def zpv_ : XC :=
 (.seq (.seq (.region [
 ⟨some 49, .cp (.t 12), none⟩,
 ⟨some 50, .cp (.t 1), none⟩,
 ⟨some 51, .len false (.t 50), none⟩,
 ⟨some 52, .bin .lss (.t 49) (.t 51), none⟩] (none))
 (.cond (.t 52)
 .skip
 (.exit 0)))
 (.seq (.block 1
 (.region [
 ⟨some 55, .cp (.t 7), none⟩,
 ⟨some 56, .cp (.t 11), none⟩,
 ⟨some 57, .cp (.t 1), none⟩,
 ⟨some 58, .cp (.t 12), none⟩,
 ⟨some 59, .iaddr 3 (.t 57) (.t 58), none⟩,
 ⟨some 60, .load 3 true (.t 59), none⟩,
 ⟨some 61, .call false zoz_ [(.t 56), (.t 60)], none⟩,
 ⟨some 62, .call false zdn_ [(.t 55), (.t 61)], none⟩] (none)))
 (.region [
 ⟨some 53, .cp (.t 12), none⟩,
 ⟨some 54, .bin .add (.t 53) (.c (.s (.int .i64 1))), none⟩,
 ⟨some 12, .cp (.t 54), none⟩] (none))))
def zpw_ : XC :=
 (.seq (.seq (.region [
 ⟨some 63, .cp (.t 13), none⟩,
 ⟨some 64, .cp (.t 2), none⟩,
 ⟨some 65, .len false (.t 64), none⟩,
 ⟨some 66, .bin .lss (.t 63) (.t 65), none⟩] (none))
 (.cond (.t 66)
 .skip
 (.exit 2)))
 (.seq (.block 3
 (.region [
 ⟨some 69, .cp (.t 9), none⟩,
 ⟨some 70, .cp (.t 11), none⟩,
 ⟨some 71, .cp (.t 2), none⟩,
 ⟨some 72, .cp (.t 13), none⟩,
 ⟨some 73, .iaddr 3 (.t 71) (.t 72), none⟩,
 ⟨some 74, .load 3 true (.t 73), none⟩,
 ⟨some 75, .call false zoz_ [(.t 70), (.t 74)], none⟩,
 ⟨some 76, .call false zdn_ [(.t 69), (.t 75)], none⟩] (none)))
 (.region [
 ⟨some 67, .cp (.t 13), none⟩,
 ⟨some 68, .bin .add (.t 67) (.c (.s (.int .i64 1))), none⟩,
 ⟨some 13, .cp (.t 68), none⟩] (none))))
def zem_ : XF := { np := 3, results := [(.inl 6, .v)], body :=
 (.seq (.region [
 ⟨some 3, .box false (.t 0), none⟩,
 ⟨some 6, .cp (.c (.s (.bool false))), none⟩] (none))
 (.seq (.seq (.region [
 ⟨some 21, .call false zoy_ [], none⟩,
 ⟨some 22, .un .not (.t 21), none⟩,
 ⟨some 23, .cp (.t 22), none⟩,
 ⟨some 24, .load 7 true (.t 3), some (23, false)⟩,
 ⟨some 25, .call false zto_ [(.t 24)], some (23, false)⟩,
 ⟨some 26, .un .not (.t 25), some (23, false)⟩,
 ⟨some 27, .pick (.t 23) (.c (.s (.bool true))) (.t 26), none⟩,
 ⟨some 28, .cp (.t 27), none⟩,
 ⟨some 29, .cp (.t 1), some (28, false)⟩,
 ⟨some 30, .len false (.t 29), some (28, false)⟩,
 ⟨some 31, .bin .gtr (.t 30) (.c (.s (.int .i64 6))), some (28, false)⟩,
 ⟨some 32, .pick (.t 28) (.c (.s (.bool true))) (.t 31), none⟩,
 ⟨some 33, .cp (.t 32), none⟩,
 ⟨some 34, .cp (.t 2), some (33, false)⟩,
 ⟨some 35, .len false (.t 34), some (33, false)⟩,
 ⟨some 36, .bin .gtr (.t 35) (.c (.s (.int .i64 6))), some (33, false)⟩,
 ⟨some 37, .pick (.t 33) (.c (.s (.bool true))) (.t 36), none⟩] (none))
 (.cond (.t 37)
 (.seq (.region [
 ⟨some 38, .call false zoy_ [], none⟩,
 ⟨some 6, .cp (.t 38), none⟩] (none))
 .ret)
 .skip))
 (.seq (.region [
 ⟨some 40, .call false zjn_ [(.c (.s (.int .i64 1)))], none⟩,
 ⟨some 39, .cp (.t 40), none⟩,
 ⟨some 41, .extract (.t 39) 0, none⟩,
 ⟨some 42, .extract (.t 39) 1, none⟩,
 ⟨some 7, .cp (.t 41), none⟩,
 ⟨some 8, .cp (.t 42), none⟩] (none))
 (.seq (.region [
 ⟨some 44, .call false zjn_ [(.c (.s (.int .i64 1)))], none⟩,
 ⟨some 43, .cp (.t 44), none⟩,
 ⟨some 45, .extract (.t 43) 0, none⟩,
 ⟨some 46, .extract (.t 43) 1, none⟩,
 ⟨some 9, .cp (.t 45), none⟩,
 ⟨some 10, .cp (.t 46), none⟩] (none))
 (.seq (.region [
 ⟨some 47, .load 7 true (.t 3), none⟩,
 ⟨some 48, .call false ztp_ [(.t 47)], none⟩,
 ⟨some 11, .cp (.t 48), none⟩] (none))
 (.seq (.seq (.region [
 ⟨some 12, .cp (.c (.s (.int .i64 0))), none⟩] (none))
 (.block 0
 (.loop zpv_)))
 (.seq (.seq (.region [
 ⟨some 13, .cp (.c (.s (.int .i64 0))), none⟩] (none))
 (.block 2
 (.loop zpw_)))
 (.seq (.region [
 ⟨some 77, .cp (.t 7), none⟩,
 ⟨some 78, .call false zpa_ [(.t 77)], none⟩,
 ⟨some 79, .cp (.t 9), none⟩,
 ⟨some 80, .call false zpa_ [(.t 79)], none⟩,
 ⟨some 14, .cp (.t 78), none⟩,
 ⟨some 15, .cp (.t 80), none⟩] (none))
 (.seq (.region [
 ⟨some 82, .cp (.t 14), none⟩,
 ⟨some 83, .cp (.t 9), none⟩,
 ⟨some 84, .call false zjo_ [(.t 82), (.t 83)], none⟩,
 ⟨some 81, .cp (.t 84), none⟩,
 ⟨some 85, .extract (.t 81) 0, none⟩,
 ⟨some 86, .extract (.t 81) 1, none⟩,
 ⟨some 16, .cp (.t 85), none⟩,
 ⟨some 17, .cp (.t 86), none⟩] (none))
 (.seq (.region [
 ⟨some 88, .cp (.t 15), none⟩,
 ⟨some 89, .cp (.t 7), none⟩,
 ⟨some 90, .call false zjo_ [(.t 88), (.t 89)], none⟩,
 ⟨some 87, .cp (.t 90), none⟩,
 ⟨some 91, .extract (.t 87) 0, none⟩,
 ⟨some 92, .extract (.t 87) 1, none⟩,
 ⟨some 18, .cp (.t 91), none⟩,
 ⟨some 19, .cp (.t 92), none⟩] (none))
 (.seq (.region [
 ⟨some 93, .cp (.t 7), none⟩,
 ⟨some 94, .call false zbz_ [(.t 93)], none⟩,
 ⟨some 95, .cp (.t 9), none⟩,
 ⟨some 96, .call false zbz_ [(.t 95)], none⟩,
 ⟨some 97, .call false zsz_ [(.t 94), (.t 96)], none⟩,
 ⟨some 20, .cp (.t 97), none⟩] (none))
 (.seq (.region [
 ⟨some 98, .cp (.t 17), none⟩,
 ⟨some 99, .bin .eql (.t 98) (.c (.s (.int .i64 0))), none⟩,
 ⟨some 100, .cp (.t 99), none⟩,
 ⟨some 101, .cp (.t 19), some (100, true)⟩,
 ⟨some 102, .bin .eql (.t 101) (.c (.s (.int .i64 0))), some (100, true)⟩,
 ⟨some 103, .pick (.t 100) (.t 102) (.c (.s (.bool false))), none⟩,
 ⟨some 104, .cp (.t 103), none⟩,
 ⟨some 105, .cp (.t 14), some (104, true)⟩,
 ⟨some 106, .cp (.t 15), some (104, true)⟩,
 ⟨some 107, .call false ztq_ [(.t 105), (.t 106)], some (104, true)⟩,
 ⟨some 108, .pick (.t 104) (.t 107) (.c (.s (.bool false))), none⟩,
 ⟨some 109, .cp (.t 108), none⟩,
 ⟨some 110, .cp (.t 14), some (109, true)⟩,
 ⟨some 111, .call false zbz_ [(.t 110)], some (109, true)⟩,
 ⟨some 112, .cp (.t 20), some (109, true)⟩,
 ⟨some 113, .call false zts_ [(.t 111), (.t 112)], some (109, true)⟩,
 ⟨some 114, .pick (.t 109) (.t 113) (.c (.s (.bool false))), none⟩,
 ⟨some 115, .cp (.t 114), none⟩,
 ⟨some 116, .cp (.t 16), some (115, true)⟩,
 ⟨some 117, .cp (.t 20), some (115, true)⟩,
 ⟨some 118, .len false (.t 117), some (115, true)⟩,
 ⟨some 119, .cp (.t 7), some (115, true)⟩,
 ⟨some 120, .call false zbz_ [(.t 119)], some (115, true)⟩,
 ⟨some 121, .len false (.t 120), some (115, true)⟩,
 ⟨some 122, .bin .sub (.t 118) (.t 121), some (115, true)⟩,
 ⟨some 123, .bin .eql (.t 116) (.t 122), some (115, true)⟩,
 ⟨some 124, .pick (.t 115) (.t 123) (.c (.s (.bool false))), none⟩,
 ⟨some 125, .cp (.t 124), none⟩,
 ⟨some 126, .cp (.t 18), some (125, true)⟩,
 ⟨some 127, .cp (.t 20), some (125, true)⟩,
 ⟨some 128, .len false (.t 127), some (125, true)⟩,
 ⟨some 129, .cp (.t 9), some (125, true)⟩,
 ⟨some 130, .call false zbz_ [(.t 129)], some (125, true)⟩,
 ⟨some 131, .len false (.t 130), some (125, true)⟩,
 ⟨some 132, .bin .sub (.t 128) (.t 131), some (125, true)⟩,
 ⟨some 133, .bin .eql (.t 126) (.t 132), some (125, true)⟩,
 ⟨some 134, .pick (.t 125) (.t 133) (.c (.s (.bool false))), none⟩,
 ⟨some 6, .cp (.t 134), none⟩] (none))
 .ret)))))))))))) }
def zmc_ : XF := { np := 0, results := [(.inl 0, .v)], body :=
 (.seq (.region [
 ⟨some 0, .cp (.c (.s (.bool false))), none⟩] (none))
 (.seq (.region [
 ⟨some 8, .call false zjn_ [(.c (.s (.int .i64 1)))], none⟩,
 ⟨some 7, .cp (.t 8), none⟩,
 ⟨some 9, .extract (.t 7) 0, none⟩,
 ⟨some 10, .extract (.t 7) 1, none⟩,
 ⟨some 1, .cp (.t 9), none⟩,
 ⟨some 2, .cp (.t 10), none⟩] (none))
 (.seq (.seq (.region [
 ⟨some 11, .cp (.t 2), none⟩,
 ⟨some 12, .bin .neq (.t 11) (.c (.s (.int .i64 0))), none⟩,
 ⟨some 13, .cp (.t 12), none⟩,
 ⟨some 14, .cp (.t 1), some (13, false)⟩,
 ⟨some 15, .eqv .p false (.t 14) (.c (.s (.pointer none))), some (13, false)⟩,
 ⟨some 16, .pick (.t 13) (.c (.s (.bool true))) (.t 15), none⟩] (none))
 (.cond (.t 16)
 (.seq (.region [
 ⟨some 0, .cp (.c (.s (.bool false))), none⟩] (none))
 .ret)
 .skip))
 (.seq (.region [
 ⟨some 18, .cp (.t 1), none⟩,
 ⟨some 19, .call false zgy_ [(.c (.s (.int .i64 1)))], none⟩,
 ⟨some 20, .call false zgy_ [(.c (.s (.int .i64 2)))], none⟩,
 ⟨some 21, .bslice false 14 [(.t 19), (.t 20)], none⟩,
 ⟨some 22, .call false zdn_ [(.t 18), (.t 21)], none⟩,
 ⟨some 17, .cp (.t 22), none⟩,
 ⟨some 23, .extract (.t 17) 0, none⟩,
 ⟨some 24, .extract (.t 17) 1, none⟩,
 ⟨some 3, .cp (.t 23), none⟩,
 ⟨some 4, .cp (.t 24), none⟩] (none))
 (.seq (.region [
 ⟨some 26, .cp (.t 1), none⟩,
 ⟨some 27, .call false zgy_ [(.c (.s (.int .i64 2)))], none⟩,
 ⟨some 28, .call false zgy_ [(.c (.s (.int .i64 3)))], none⟩,
 ⟨some 29, .bslice false 14 [(.t 27), (.t 28)], none⟩,
 ⟨some 30, .call false zdn_ [(.t 26), (.t 29)], none⟩,
 ⟨some 25, .cp (.t 30), none⟩,
 ⟨some 31, .extract (.t 25) 0, none⟩,
 ⟨some 32, .extract (.t 25) 1, none⟩,
 ⟨some 5, .cp (.t 31), none⟩,
 ⟨some 6, .cp (.t 32), none⟩] (none))
 (.seq (.region [
 ⟨some 33, .cp (.t 4), none⟩,
 ⟨some 34, .bin .eql (.t 33) (.c (.s (.int .i64 0))), none⟩,
 ⟨some 35, .cp (.t 34), none⟩,
 ⟨some 36, .cp (.t 6), some (35, true)⟩,
 ⟨some 37, .bin .eql (.t 36) (.c (.s (.int .i64 0))), some (35, true)⟩,
 ⟨some 38, .pick (.t 35) (.t 37) (.c (.s (.bool false))), none⟩,
 ⟨some 39, .cp (.t 38), none⟩,
 ⟨some 40, .cp (.t 3), some (39, true)⟩,
 ⟨some 41, .bin .eql (.t 40) (.c (.s (.int .i64 2))), some (39, true)⟩,
 ⟨some 42, .pick (.t 39) (.t 41) (.c (.s (.bool false))), none⟩,
 ⟨some 43, .cp (.t 42), none⟩,
 ⟨some 44, .cp (.t 5), some (43, true)⟩,
 ⟨some 45, .bin .eql (.t 44) (.c (.s (.int .i64 1))), some (43, true)⟩,
 ⟨some 46, .pick (.t 43) (.t 45) (.c (.s (.bool false))), none⟩,
 ⟨some 47, .cp (.t 46), none⟩,
 ⟨some 48, .cp (.t 1), some (47, true)⟩,
 ⟨some 49, .call false ztt_ [(.t 48)], some (47, true)⟩,
 ⟨some 50, .len false (.t 49), some (47, true)⟩,
 ⟨some 51, .bin .eql (.t 50) (.c (.s (.int .i64 2))), some (47, true)⟩,
 ⟨some 52, .pick (.t 47) (.t 51) (.c (.s (.bool false))), none⟩,
 ⟨some 53, .cp (.t 52), none⟩,
 ⟨some 54, .cp (.t 1), some (53, true)⟩,
 ⟨some 55, .call false zbz_ [(.t 54)], some (53, true)⟩,
 ⟨some 56, .len false (.t 55), some (53, true)⟩,
 ⟨some 57, .bin .eql (.t 56) (.c (.s (.int .i64 3))), some (53, true)⟩,
 ⟨some 58, .pick (.t 53) (.t 57) (.c (.s (.bool false))), none⟩,
 ⟨some 59, .cp (.t 58), none⟩,
 ⟨some 60, .cp (.t 1), some (59, true)⟩,
 ⟨some 61, .call false ztr_ [(.t 60)], some (59, true)⟩,
 ⟨some 62, .bin .neq (.t 61) (.c (.s (.int .u32 0))), some (59, true)⟩,
 ⟨some 63, .pick (.t 59) (.t 62) (.c (.s (.bool false))), none⟩,
 ⟨some 0, .cp (.t 63), none⟩] (none))
 .ret)))))) }
def zmd_ : XF := { np := 1, results := [(.inl 2, .o), (.inl 3, .v)], body :=
 (.seq (.region [
 ⟨some 2, .cp (.c (.s (.pointer none))), none⟩,
 ⟨some 3, .cp (.c (.s (.int .i64 0))), none⟩] (none))
 (.seq (.seq (.region [
 ⟨some 4, .cp (.t 0), none⟩,
 ⟨some 5, .bin .lss (.t 4) (.c (.s (.int .i64 0))), none⟩,
 ⟨some 6, .cp (.t 5), none⟩,
 ⟨some 7, .cp (.t 0), some (6, false)⟩,
 ⟨some 8, .bin .gtr (.t 7) (.c (.s (.int .i64 65536))), some (6, false)⟩,
 ⟨some 9, .pick (.t 6) (.c (.s (.bool true))) (.t 8), none⟩] (none))
 (.cond (.t 9)
 (.seq (.region [
 ⟨some 2, .cp (.c (.s (.pointer none))), none⟩,
 ⟨some 3, .cp (.c (.s (.int .i64 2))), none⟩] (none))
 .ret)
 .skip))
 (.seq (.region [
 ⟨some 10, .cp (.t 0), none⟩,
 ⟨some 11, .build false [.s (.int .i64 0), .s (.bool false), .s (.slice none 0 0)] [(0, 1, (.t 10))], none⟩,
 ⟨some 12, .box false (.t 11), none⟩,
 ⟨some 2, .cp (.t 12), none⟩,
 ⟨some 3, .cp (.c (.s (.int .i64 0))), none⟩] (none))
 .ret))) }
def zuv_ : XC :=
 (.seq (.seq (.region [
 ⟨some 12, .cp (.t 3), none⟩,
 ⟨some 13, .faddr (.t 1) 0, none⟩,
 ⟨some 14, .load 1 false (.t 13), none⟩,
 ⟨some 15, .len false (.t 14), none⟩,
 ⟨some 16, .bin .lss (.t 12) (.t 15), none⟩] (none))
 (.cond (.t 16)
 .skip
 (.exit 0)))
 (.seq (.block 1
 (.region [
 ⟨some 19, .faddr (.t 1) 0, none⟩,
 ⟨some 20, .load 1 false (.t 19), none⟩,
 ⟨some 21, .cp (.t 3), none⟩,
 ⟨some 22, .faddr (.t 1) 0, none⟩,
 ⟨some 23, .load 1 false (.t 22), none⟩,
 ⟨some 24, .cp (.t 3), none⟩,
 ⟨some 25, .iaddr 3 (.t 23) (.t 24), none⟩,
 ⟨some 26, .faddr (.t 25) 0, none⟩,
 ⟨some 27, .load 1 false (.t 26), none⟩,
 ⟨some 28, .bin .rem (.t 27) (.c (.s (.int .u8 16))), none⟩,
 ⟨some 29, .bin .add (.c (.s (.int .u8 16))) (.t 28), none⟩,
 ⟨some 30, .iaddr 3 (.t 20) (.t 21), none⟩,
 ⟨some 31, .faddr (.t 30) 0, none⟩,
 ⟨none, .store 1 (.t 31) (.t 29), none⟩] (some [])))
 (.region [
 ⟨some 17, .cp (.t 3), none⟩,
 ⟨some 18, .bin .add (.t 17) (.c (.s (.int .i64 1))), none⟩,
 ⟨some 3, .cp (.t 18), none⟩] (none))))
def zuw_ : XC :=
 (.seq (.seq (.region [
 ⟨some 34, .cp (.t 6), none⟩,
 ⟨some 35, .cp (.t 5), none⟩,
 ⟨some 36, .len false (.t 35), none⟩,
 ⟨some 37, .bin .lss (.t 34) (.t 36), none⟩] (none))
 (.cond (.t 37)
 .skip
 (.exit 2)))
 (.seq (.block 3
 (.region [
 ⟨some 40, .cp (.t 4), none⟩,
 ⟨some 41, .cp (.t 5), none⟩,
 ⟨some 42, .cp (.t 6), none⟩,
 ⟨some 43, .iaddr 4 (.t 41) (.t 42), none⟩,
 ⟨some 44, .faddr (.t 43) 2, none⟩,
 ⟨some 45, .load 1 false (.t 44), none⟩,
 ⟨some 46, .append 14 837723144972 (.t 40) (.t 45), none⟩,
 ⟨some 4, .cp (.t 46), none⟩] (none)))
 (.region [
 ⟨some 38, .cp (.t 6), none⟩,
 ⟨some 39, .bin .add (.t 38) (.c (.s (.int .i64 1))), none⟩,
 ⟨some 6, .cp (.t 39), none⟩] (none))))
def zme_ : XF := { np := 1, results := [(.inl 2, .v)], body :=
 (.seq (.region [
 ⟨some 1, .box false (.t 0), none⟩,
 ⟨some 2, .cp (.c (.s (.slice none 0 0))), none⟩] (none))
 (.seq (.region [
 ⟨some 7, .bslice true 3 [], none⟩,
 ⟨some 8, .faddr (.t 1) 0, none⟩,
 ⟨some 9, .load 1 false (.t 8), none⟩,
 ⟨some 10, .append 3 4398046511104 (.t 7) (.t 9), none⟩,
 ⟨some 11, .faddr (.t 1) 0, none⟩,
 ⟨none, .storeR (.t 11) (.t 10), none⟩] (none))
 (.seq (.seq (.region [
 ⟨some 3, .cp (.c (.s (.int .i64 0))), none⟩] (none))
 (.block 0
 (.loop zuv_)))
 (.seq (.region [
 ⟨some 4, .cp (.c (.s (.slice none 0 0))), none⟩] (none))
 (.seq (.region [
 ⟨some 32, .load 7 true (.t 1), none⟩,
 ⟨some 33, .call false zpb_ [(.t 32), (.c (.s (.int .u8 3)))], none⟩,
 ⟨some 5, .cp (.t 33), none⟩] (none))
 (.seq (.seq (.region [
 ⟨some 6, .cp (.c (.s (.int .i64 0))), none⟩] (none))
 (.block 2
 (.loop zuw_)))
 (.seq (.region [
 ⟨some 47, .cp (.t 4), none⟩,
 ⟨some 2, .cp (.t 47), none⟩] (none))
 .ret))))))) }
def zmf_ : XC :=
 (.seq (.region [
 ⟨some 24, .bin .lss (.t 23) (.t 22), none⟩] (none))
 (.seq (.cond (.t 24)
 .skip
 (.exit 1))
 (.seq (.block 2
 (.seq (.region [
 ⟨some 25, .iaddr 14 (.t 21) (.t 23), none⟩,
 ⟨some 26, .load 14 true (.t 25), none⟩,
 ⟨some 7, .alloc [.s (.int .i64 0), .s (.int .i64 0), .s (.int .i64 0), .s (.int .i64 0), .s (.int .i64 0), .s (.int .i64 0), .s (.string ⟨#[]⟩), .s (.string ⟨#[]⟩), .s (.string ⟨#[]⟩), .s (.int .i64 0), .s (.int .i64 0), .s (.bool false), .s (.slice none 0 0), .s (.slice none 0 0)], none⟩,
 ⟨none, .store 14 (.t 7) (.t 26), none⟩] (none))
 (.seq (.region [
 ⟨some 27, .load 14 true (.t 7), none⟩,
 ⟨some 28, .call false zjj_ [(.t 27)], none⟩,
 ⟨some 8, .cp (.t 28), none⟩] (none))
 (.seq (.region [
 ⟨some 29, .cp (.t 8), none⟩,
 ⟨some 30, .bin .neq (.t 29) (.c (.s (.int .i64 0))), none⟩] (none))
 (.cond (.t 30)
 (.seq (.region [
 ⟨some 31, .cp (.t 8), none⟩,
 ⟨some 4, .cp (.c (.s (.int .i64 0))), none⟩,
 ⟨some 5, .cp (.t 31), none⟩] (none))
 .ret)
 .skip)))))
 (.region [
 ⟨some 32, .bin .add (.t 23) (.c (.s (.int .i64 1))), none⟩,
 ⟨some 23, .cp (.t 32), none⟩] (none)))))
def zen_ : XF := { np := 2, results := [(.inl 4, .v), (.inl 5, .v)], body :=
 (.seq (.region [
 ⟨some 4, .cp (.c (.s (.int .i64 0))), none⟩,
 ⟨some 5, .cp (.c (.s (.int .i64 0))), none⟩] (none))
 (.seq (.block 0
 (.seq (.region [
 ⟨some 14, .cp (.t 0), none⟩,
 ⟨some 15, .eqv .p false (.t 14) (.c (.s (.pointer none))), none⟩,
 ⟨some 13, .cp (.t 15), none⟩] (none))
 (.cond (.t 13)
 (.seq (.region [
 ⟨some 4, .cp (.c (.s (.int .i64 0))), none⟩,
 ⟨some 5, .cp (.c (.s (.int .i64 1))), none⟩] (none))
 .ret)
 (.seq (.region [
 ⟨some 17, .cp (.t 0), none⟩,
 ⟨some 18, .nilchk (.t 17), none⟩,
 ⟨some 19, .faddr (.t 18) 1, none⟩,
 ⟨some 20, .load 1 false (.t 19), none⟩,
 ⟨some 16, .cp (.t 20), none⟩] (none))
 (.cond (.t 16)
 (.seq (.region [
 ⟨some 4, .cp (.c (.s (.int .i64 0))), none⟩,
 ⟨some 5, .cp (.c (.s (.int .i64 31))), none⟩] (none))
 .ret)
 .skip)))))
 (.seq (.seq (.region [
 ⟨some 21, .cp (.t 1), none⟩,
 ⟨some 22, .len false (.t 21), none⟩,
 ⟨some 23, .cp (.c (.s (.int .i64 0))), none⟩] (none))
 (.block 1
 (.loop zmf_)))
 (.seq (.seq (.region [
 ⟨some 33, .cp (.t 1), none⟩,
 ⟨some 34, .cp (.t 0), none⟩,
 ⟨some 35, .mkfn false zgz_ [(.t 34)] [], none⟩,
 ⟨some 36, .call false ztv_ [(.t 33), (.t 35)], none⟩] (none))
 (.cond (.t 36)
 (.seq (.region [
 ⟨some 4, .cp (.c (.s (.int .i64 0))), none⟩,
 ⟨some 5, .cp (.c (.s (.int .i64 17))), none⟩] (none))
 .ret)
 .skip))
 (.seq (.region [
 ⟨some 37, .cp (.t 0), none⟩,
 ⟨some 38, .call false zbz_ [(.t 37)], none⟩,
 ⟨some 9, .alloc [.s (.slice none 0 0)], none⟩,
 ⟨none, .store 1 (.t 9) (.t 38), none⟩] (none))
 (.seq (.region [
 ⟨some 39, .cp (.t 1), none⟩,
 ⟨some 40, .call true zfj_ [(.t 39)], none⟩,
 ⟨some 41, .mkfn false zdo_ [] [(.t 9)], none⟩,
 ⟨some 42, .call false zjp_ [(.t 40), (.t 41)], none⟩,
 ⟨some 10, .cp (.t 42), none⟩] (none))
 (.seq (.region [
 ⟨some 44, .cp (.t 10), none⟩,
 ⟨some 45, .call false ztu_ [(.t 44)], none⟩,
 ⟨some 43, .cp (.t 45), none⟩,
 ⟨some 46, .extract (.t 43) 0, none⟩,
 ⟨some 47, .extract (.t 43) 1, none⟩,
 ⟨some 11, .cp (.t 46), none⟩,
 ⟨some 12, .cp (.t 47), none⟩] (none))
 (.seq (.block 3
 (.seq (.region [
 ⟨some 49, .cp (.t 12), none⟩,
 ⟨some 50, .bin .neq (.t 49) (.c (.s (.int .i64 0))), none⟩,
 ⟨some 48, .cp (.t 50), none⟩] (none))
 (.cond (.t 48)
 (.seq (.region [
 ⟨some 51, .cp (.t 12), none⟩,
 ⟨some 4, .cp (.c (.s (.int .i64 0))), none⟩,
 ⟨some 5, .cp (.t 51), none⟩] (none))
 .ret)
 (.seq (.region [
 ⟨some 53, .cp (.t 10), none⟩,
 ⟨some 54, .len false (.t 53), none⟩,
 ⟨some 55, .bin .eql (.t 54) (.c (.s (.int .i64 0))), none⟩,
 ⟨some 52, .cp (.t 55), none⟩] (none))
 (.cond (.t 52)
 (.seq (.region [
 ⟨some 4, .cp (.c (.s (.int .i64 0))), none⟩,
 ⟨some 5, .cp (.c (.s (.int .i64 0))), none⟩] (none))
 .ret)
 (.seq (.region [
 ⟨some 57, .cp (.t 0), none⟩,
 ⟨some 58, .nilchk (.t 57), none⟩,
 ⟨some 59, .faddr (.t 58) 2, none⟩,
 ⟨some 60, .load 1 false (.t 59), none⟩,
 ⟨some 61, .len false (.t 60), none⟩,
 ⟨some 62, .bin .geq (.t 61) (.c (.s (.int .i64 64))), none⟩,
 ⟨some 56, .cp (.t 62), none⟩] (none))
 (.cond (.t 56)
 (.seq (.region [
 ⟨some 4, .cp (.c (.s (.int .i64 0))), none⟩,
 ⟨some 5, .cp (.c (.s (.int .i64 6))), none⟩] (none))
 .ret)
 .skip)))))))
 (.seq (.region [
 ⟨some 63, .cp (.t 0), none⟩,
 ⟨some 64, .cp (.t 0), none⟩,
 ⟨some 65, .nilchk (.t 64), none⟩,
 ⟨some 66, .faddr (.t 65) 2, none⟩,
 ⟨some 67, .load 1 false (.t 66), none⟩,
 ⟨some 68, .cp (.t 11), none⟩,
 ⟨some 69, .bslice true 1 [(.t 68)], none⟩,
 ⟨some 70, .append 1 17592186044416 (.t 67) (.t 69), none⟩,
 ⟨some 71, .nilchk (.t 63), none⟩,
 ⟨some 72, .faddr (.t 71) 2, none⟩,
 ⟨none, .store 1 (.t 72) (.t 70), none⟩] (none))
 (.seq (.region [
 ⟨some 73, .cp (.t 10), none⟩,
 ⟨some 74, .len false (.t 73), none⟩,
 ⟨some 4, .cp (.t 74), none⟩,
 ⟨some 5, .cp (.c (.s (.int .i64 0))), none⟩] (none))
 .ret)))))))))) }
def zpx_ : XC :=
 (.seq (.seq (.region [
 ⟨some 7, .cp (.t 6), none⟩,
 ⟨some 8, .faddr (.t 3) 2, none⟩,
 ⟨some 9, .load 1 false (.t 8), none⟩,
 ⟨some 10, .bin .rem (.t 9) (.c (.s (.int .u8 6))), none⟩,
 ⟨some 11, .conv .i64 (.t 10), none⟩,
 ⟨some 12, .bin .add (.c (.s (.int .i64 1))) (.t 11), none⟩,
 ⟨some 13, .bin .lss (.t 7) (.t 12), none⟩,
 ⟨some 14, .cp (.t 13), none⟩,
 ⟨some 15, .cp (.t 0), some (14, true)⟩,
 ⟨some 16, .len false (.t 15), some (14, true)⟩,
 ⟨some 17, .bin .gtr (.t 16) (.c (.s (.int .i64 0))), some (14, true)⟩,
 ⟨some 18, .pick (.t 14) (.t 17) (.c (.s (.bool false))), none⟩] (none))
 (.cond (.t 18)
 .skip
 (.exit 0)))
 (.seq (.block 1
 (.region [
 ⟨some 21, .cp (.t 5), none⟩,
 ⟨some 22, .cp (.t 0), none⟩,
 ⟨some 23, .faddr (.t 3) 1, none⟩,
 ⟨some 24, .load 1 false (.t 23), none⟩,
 ⟨some 25, .conv .i64 (.t 24), none⟩,
 ⟨some 26, .cp (.t 6), none⟩,
 ⟨some 27, .bin .add (.t 25) (.t 26), none⟩,
 ⟨some 28, .cp (.t 0), none⟩,
 ⟨some 29, .len false (.t 28), none⟩,
 ⟨some 30, .bin .rem (.t 27) (.t 29), none⟩,
 ⟨some 31, .iaddr 14 (.t 22) (.t 30), none⟩,
 ⟨some 32, .load 14 true (.t 31), none⟩,
 ⟨some 33, .bslice false 14 [(.t 32)], none⟩,
 ⟨some 34, .append 14 837723144972 (.t 21) (.t 33), none⟩,
 ⟨some 5, .cp (.t 34), none⟩] (none)))
 (.region [
 ⟨some 19, .cp (.t 6), none⟩,
 ⟨some 20, .bin .add (.t 19) (.c (.s (.int .i64 1))), none⟩,
 ⟨some 6, .cp (.t 20), none⟩] (none))))
def zhz_ : XF := { np := 2, results := [(.inl 4, .v)], body :=
 (.seq (.region [
 ⟨some 3, .box false (.t 1), none⟩,
 ⟨some 4, .cp (.c (.s (.slice none 0 0))), none⟩] (none))
 (.seq (.region [
 ⟨some 5, .cp (.c (.s (.slice none 0 0))), none⟩] (none))
 (.seq (.seq (.region [
 ⟨some 6, .cp (.c (.s (.int .i64 0))), none⟩] (none))
 (.block 0
 (.loop zpx_)))
 (.seq (.region [
 ⟨some 35, .cp (.t 5), none⟩,
 ⟨some 4, .cp (.t 35), none⟩] (none))
 .ret)))) }
def zia_ : XF := { np := 1, results := [(.inl 2, .o)], body :=
 (.seq (.region [
 ⟨some 2, .cp (.c (.s (.pointer none))), none⟩] (none))
 (.seq (.seq (.region [
 ⟨some 3, .cp (.t 0), none⟩,
 ⟨some 4, .eqv .p false (.t 3) (.c (.s (.pointer none))), none⟩] (none))
 (.cond (.t 4)
 (.seq (.region [
 ⟨some 2, .cp (.c (.s (.pointer none))), none⟩] (none))
 .ret)
 .skip))
 (.seq (.region [
 ⟨some 5, .cp (.t 0), none⟩,
 ⟨some 6, .nilchk (.t 5), none⟩,
 ⟨some 7, .faddr (.t 6) 0, none⟩,
 ⟨some 8, .load 1 false (.t 7), none⟩,
 ⟨some 9, .cp (.t 0), none⟩,
 ⟨some 10, .nilchk (.t 9), none⟩,
 ⟨some 11, .faddr (.t 10) 1, none⟩,
 ⟨some 12, .load 1 false (.t 11), none⟩,
 ⟨some 13, .cp (.t 0), none⟩,
 ⟨some 14, .nilchk (.t 13), none⟩,
 ⟨some 15, .faddr (.t 14) 2, none⟩,
 ⟨some 16, .load 1 false (.t 15), none⟩,
 ⟨some 17, .call true zjq_ [(.t 16)], none⟩,
 ⟨some 18, .buildR [.s (.int .i64 0), .s (.bool false), .s (.slice none 0 0)] [(0, 1, (.t 8)), (1, 1, (.t 12)), (2, 1, (.t 17))], none⟩,
 ⟨some 19, .box false (.t 18), none⟩,
 ⟨some 2, .cp (.t 19), none⟩] (some [(12, some 3), (12, some 7)]))
 .ret))) }
def zib_ : XF := { np := 2, results := [(.inl 4, .v), (.inl 5, .v)], body :=
 (.seq (.region [
 ⟨some 4, .cp (.c (.s (.int .i64 0))), none⟩,
 ⟨some 5, .cp (.c (.s (.int .i64 0))), none⟩] (none))
 (.seq (.block 0
 (.seq (.region [
 ⟨some 7, .cp (.t 0), none⟩,
 ⟨some 8, .eqv .p false (.t 7) (.c (.s (.pointer none))), none⟩,
 ⟨some 9, .cp (.t 8), none⟩,
 ⟨some 10, .cp (.t 1), some (9, false)⟩,
 ⟨some 11, .eqv .p false (.t 10) (.c (.s (.pointer none))), some (9, false)⟩,
 ⟨some 12, .pick (.t 9) (.c (.s (.bool true))) (.t 11), none⟩,
 ⟨some 6, .cp (.t 12), none⟩] (none))
 (.cond (.t 6)
 (.seq (.region [
 ⟨some 4, .cp (.c (.s (.int .i64 0))), none⟩,
 ⟨some 5, .cp (.c (.s (.int .i64 1))), none⟩] (none))
 .ret)
 (.seq (.region [
 ⟨some 14, .cp (.t 0), none⟩,
 ⟨some 15, .nilchk (.t 14), none⟩,
 ⟨some 16, .faddr (.t 15) 0, none⟩,
 ⟨some 17, .load 1 false (.t 16), none⟩,
 ⟨some 18, .cp (.t 1), none⟩,
 ⟨some 19, .nilchk (.t 18), none⟩,
 ⟨some 20, .faddr (.t 19) 0, none⟩,
 ⟨some 21, .load 1 false (.t 20), none⟩,
 ⟨some 22, .bin .neq (.t 17) (.t 21), none⟩,
 ⟨some 13, .cp (.t 22), none⟩] (some []))
 (.cond (.t 13)
 (.seq (.region [
 ⟨some 4, .cp (.c (.s (.int .i64 0))), none⟩,
 ⟨some 5, .cp (.c (.s (.int .i64 17))), none⟩] (none))
 .ret)
 .skip)))))
 (.seq (.region [
 ⟨some 23, .cp (.t 0), none⟩,
 ⟨some 24, .cp (.t 1), none⟩,
 ⟨some 25, .call false zbz_ [(.t 24)], none⟩,
 ⟨some 26, .call false zdn_ [(.t 23), (.t 25)], none⟩,
 ⟨some 27, .extract (.t 26) 0, none⟩,
 ⟨some 28, .extract (.t 26) 1, none⟩,
 ⟨some 4, .cp (.t 27), none⟩,
 ⟨some 5, .cp (.t 28), none⟩] (none))
 .ret))) }
def zft_ : XF := { np := 2, results := [(.inl 4, .v)], body :=
 (.seq (.region [
 ⟨some 4, .cp (.c (.s (.bool false))), none⟩] (none))
 (.seq (.seq (.region [
 ⟨some 5, .cp (.t 0), none⟩,
 ⟨some 6, .eqv .p false (.t 5) (.c (.s (.pointer none))), none⟩,
 ⟨some 7, .cp (.t 6), none⟩,
 ⟨some 8, .cp (.t 1), some (7, false)⟩,
 ⟨some 9, .eqv .p false (.t 8) (.c (.s (.pointer none))), some (7, false)⟩,
 ⟨some 10, .pick (.t 7) (.c (.s (.bool true))) (.t 9), none⟩] (none))
 (.cond (.t 10)
 (.seq (.region [
 ⟨some 11, .cp (.t 0), none⟩,
 ⟨some 12, .cp (.t 1), none⟩,
 ⟨some 13, .eqv .p false (.t 11) (.t 12), none⟩,
 ⟨some 4, .cp (.t 13), none⟩] (none))
 .ret)
 .skip))
 (.seq (.region [
 ⟨some 14, .cp (.t 0), none⟩,
 ⟨some 15, .nilchk (.t 14), none⟩,
 ⟨some 16, .faddr (.t 15) 0, none⟩,
 ⟨some 17, .load 1 false (.t 16), none⟩,
 ⟨some 18, .cp (.t 1), none⟩,
 ⟨some 19, .nilchk (.t 18), none⟩,
 ⟨some 20, .faddr (.t 19) 0, none⟩,
 ⟨some 21, .load 1 false (.t 20), none⟩,
 ⟨some 22, .bin .eql (.t 17) (.t 21), none⟩,
 ⟨some 23, .cp (.t 22), none⟩,
 ⟨some 24, .cp (.t 0), some (23, true)⟩,
 ⟨some 25, .nilchk (.t 24), some (23, true)⟩,
 ⟨some 26, .faddr (.t 25) 1, some (23, true)⟩,
 ⟨some 27, .load 1 false (.t 26), some (23, true)⟩,
 ⟨some 28, .cp (.t 1), some (23, true)⟩,
 ⟨some 29, .nilchk (.t 28), some (23, true)⟩,
 ⟨some 30, .faddr (.t 29) 1, some (23, true)⟩,
 ⟨some 31, .load 1 false (.t 30), some (23, true)⟩,
 ⟨some 32, .eqv .b false (.t 27) (.t 31), some (23, true)⟩,
 ⟨some 33, .pick (.t 23) (.t 32) (.c (.s (.bool false))), none⟩,
 ⟨some 34, .cp (.t 33), none⟩,
 ⟨some 35, .cp (.t 0), some (34, true)⟩,
 ⟨some 36, .call false zbz_ [(.t 35)], some (34, true)⟩,
 ⟨some 37, .cp (.t 1), some (34, true)⟩,
 ⟨some 38, .call false zbz_ [(.t 37)], some (34, true)⟩,
 ⟨some 39, .call false ztx_ [(.t 36), (.t 38), (.c (.fn zck_ [] []))], some (34, true)⟩,
 ⟨some 40, .pick (.t 34) (.t 39) (.c (.s (.bool false))), none⟩,
 ⟨some 4, .cp (.t 40), none⟩] (some []))
 .ret))) }
def zux_ : XC :=
 (.seq (.region [
 ⟨some 10, .bin .lss (.t 9) (.t 8), none⟩] (none))
 (.seq (.cond (.t 10)
 .skip
 (.exit 0))
 (.seq (.block 1
 (.seq (.region [
 ⟨some 11, .iaddr 14 (.t 7) (.t 9), none⟩,
 ⟨some 12, .load 14 true (.t 11), none⟩,
 ⟨some 5, .alloc [.s (.int .i64 0), .s (.int .i64 0), .s (.int .i64 0), .s (.int .i64 0), .s (.int .i64 0), .s (.int .i64 0), .s (.string ⟨#[]⟩), .s (.string ⟨#[]⟩), .s (.string ⟨#[]⟩), .s (.int .i64 0), .s (.int .i64 0), .s (.bool false), .s (.slice none 0 0), .s (.slice none 0 0)], none⟩,
 ⟨none, .store 14 (.t 5) (.t 12), none⟩] (none))
 (.region [
 ⟨some 13, .cp (.t 3), none⟩,
 ⟨some 14, .load 14 true (.t 5), none⟩,
 ⟨some 15, .call false zsu_ [(.t 14)], none⟩,
 ⟨some 16, .bslice false 1 [(.t 15)], none⟩,
 ⟨some 17, .append 1 8796093022208 (.t 13) (.t 16), none⟩,
 ⟨some 3, .cp (.t 17), none⟩] (none))))
 (.region [
 ⟨some 18, .bin .add (.t 9) (.c (.s (.int .i64 1))), none⟩,
 ⟨some 9, .cp (.t 18), none⟩] (none)))))
def zmg_ : XF := { np := 1, results := [(.inl 2, .v)], body :=
 (.seq (.region [
 ⟨some 2, .cp (.c (.s (.int .u32 0))), none⟩] (none))
 (.seq (.region [
 ⟨some 3, .cp (.c (.s (.slice none 0 0))), none⟩] (none))
 (.seq (.seq (.region [
 ⟨some 6, .cp (.t 0), none⟩,
 ⟨some 7, .call false zbz_ [(.t 6)], none⟩,
 ⟨some 8, .len false (.t 7), none⟩,
 ⟨some 9, .cp (.c (.s (.int .i64 0))), none⟩] (none))
 (.block 0
 (.loop zux_)))
 (.seq (.seq (.region [
 ⟨some 19, .cp (.t 3), none⟩,
 ⟨some 20, .len false (.t 19), none⟩,
 ⟨some 21, .bin .eql (.t 20) (.c (.s (.int .i64 0))), none⟩] (none))
 (.cond (.t 21)
 (.seq (.region [
 ⟨some 2, .cp (.c (.s (.int .u32 0))), none⟩] (none))
 .ret)
 .skip))
 (.seq (.region [
 ⟨some 22, .cp (.t 3), none⟩,
 ⟨some 23, .call false zty_ [(.t 22)], none⟩,
 ⟨some 24, .cp (.t 3), none⟩,
 ⟨some 25, .len false (.t 24), none⟩,
 ⟨some 26, .bin .sub (.t 25) (.c (.s (.int .i64 1))), none⟩,
 ⟨some 27, .iaddr 1 (.t 23) (.t 26), none⟩,
 ⟨some 28, .load 1 false (.t 27), none⟩,
 ⟨some 2, .cp (.t 28), none⟩] (none))
 .ret))))) }
def zic_ : XF := { np := 1, results := [(.inl 2, .v)], body :=
 (.seq (.region [
 ⟨some 2, .cp (.c (.s (.slice none 0 0))), none⟩] (none))
 (.seq (.seq (.region [
 ⟨some 3, .cp (.t 0), none⟩,
 ⟨some 4, .eqv .p false (.t 3) (.c (.s (.pointer none))), none⟩] (none))
 (.cond (.t 4)
 (.seq (.region [
 ⟨some 2, .cp (.c (.s (.slice none 0 0))), none⟩] (none))
 .ret)
 .skip))
 (.seq (.region [
 ⟨some 5, .cp (.t 0), none⟩,
 ⟨some 6, .nilchk (.t 5), none⟩,
 ⟨some 7, .faddr (.t 6) 2, none⟩,
 ⟨some 8, .load 1 false (.t 7), none⟩,
 ⟨some 9, .call false ztz_ [(.t 8)], none⟩,
 ⟨some 2, .cp (.t 9), none⟩] (none))
 .ret))) }
def zmh_ : XF := { np := 1, results := [(.inr (2, 14, true), .v)], body :=
 (.seq (.region [
 ⟨some 2, .alloc [.s (.int .i64 0), .s (.int .i64 0), .s (.int .i64 0), .s (.int .i64 0), .s (.int .i64 0), .s (.int .i64 0), .s (.string ⟨#[]⟩), .s (.string ⟨#[]⟩), .s (.string ⟨#[]⟩), .s (.int .i64 0), .s (.int .i64 0), .s (.bool false), .s (.slice none 0 0), .s (.slice none 0 0)], none⟩] (none))
 (.seq (.region [
 ⟨some 3, .cp (.t 0), none⟩,
 ⟨some 4, .build false [.s (.int .i64 0), .s (.int .i64 0), .s (.int .i64 0), .s (.int .i64 0), .s (.int .i64 0), .s (.int .i64 0), .s (.string ⟨#[]⟩), .s (.string ⟨#[]⟩), .s (.string ⟨#[]⟩), .s (.int .i64 0), .s (.int .i64 0), .s (.bool false), .s (.slice none 0 0), .s (.slice none 0 0)] [(0, 1, (.c (.s (.int .i64 16777217)))), (1, 1, (.t 3)), (4, 1, (.c (.s (.int .i64 1)))), (5, 1, (.c (.s (.int .i64 3)))), (6, 1, (.c (.s (.string ⟨#[115]⟩)))), (8, 1, (.c (.s (.string ⟨#[111]⟩))))], none⟩,
 ⟨none, .store 14 (.t 2) (.t 4), none⟩] (none))
 .ret)) }
def zpy_ : XC :=
 (.seq (.seq (.region [
 ⟨some 11, .cp (.t 5), none⟩,
 ⟨some 12, .cp (.t 0), none⟩,
 ⟨some 13, .len false (.t 12), none⟩,
 ⟨some 14, .bin .lss (.t 11) (.t 13), none⟩] (none))
 (.cond (.t 14)
 .skip
 (.exit 0)))
 (.seq (.block 1
 (.seq (.region [
 ⟨some 17, .cp (.t 0), none⟩,
 ⟨some 18, .cp (.t 5), none⟩,
 ⟨some 19, .iaddr 14 (.t 17) (.t 18), none⟩,
 ⟨some 20, .load 14 true (.t 19), none⟩,
 ⟨some 21, .cp (.t 1), none⟩,
 ⟨some 22, .cp (.t 5), none⟩,
 ⟨some 23, .iaddr 14 (.t 21) (.t 22), none⟩,
 ⟨some 24, .load 14 true (.t 23), none⟩,
 ⟨some 25, .call false zck_ [(.t 20), (.t 24)], none⟩,
 ⟨some 26, .un .not (.t 25), none⟩] (some []))
 (.cond (.t 26)
 (.seq (.region [
 ⟨some 4, .cp (.c (.s (.bool false))), none⟩] (none))
 .ret)
 .skip)))
 (.region [
 ⟨some 15, .cp (.t 5), none⟩,
 ⟨some 16, .bin .add (.t 15) (.c (.s (.int .i64 1))), none⟩,
 ⟨some 5, .cp (.t 16), none⟩] (none))))
def zid_ : XF := { np := 2, results := [(.inl 4, .v)], body :=
 (.seq (.region [
 ⟨some 4, .cp (.c (.s (.bool false))), none⟩] (none))
 (.seq (.seq (.region [
 ⟨some 6, .cp (.t 0), none⟩,
 ⟨some 7, .len false (.t 6), none⟩,
 ⟨some 8, .cp (.t 1), none⟩,
 ⟨some 9, .len false (.t 8), none⟩,
 ⟨some 10, .bin .neq (.t 7) (.t 9), none⟩] (none))
 (.cond (.t 10)
 (.seq (.region [
 ⟨some 4, .cp (.c (.s (.bool false))), none⟩] (none))
 .ret)
 .skip))
 (.seq (.seq (.region [
 ⟨some 5, .cp (.c (.s (.int .i64 0))), none⟩] (none))
 (.block 0
 (.loop zpy_)))
 (.seq (.region [
 ⟨some 4, .cp (.c (.s (.bool true))), none⟩] (none))
 .ret)))) }
def zie_ : XF := { np := 1, results := [(.inl 2, .v)], body :=
 (.seq (.region [
 ⟨some 2, .cp (.c (.s (.slice none 0 0))), none⟩] (none))
 (.seq (.seq (.region [
 ⟨some 3, .cp (.t 0), none⟩,
 ⟨some 4, .eqv .p false (.t 3) (.c (.s (.pointer none))), none⟩] (none))
 (.cond (.t 4)
 (.seq (.region [
 ⟨some 2, .cp (.c (.s (.slice none 0 0))), none⟩] (none))
 .ret)
 .skip))
 (.seq (.region [
 ⟨some 5, .cp (.t 0), none⟩,
 ⟨some 6, .nilchk (.t 5), none⟩,
 ⟨some 7, .faddr (.t 6) 2, none⟩,
 ⟨some 8, .load 1 false (.t 7), none⟩,
 ⟨some 9, .call false zjq_ [(.t 8)], none⟩,
 ⟨some 2, .cp (.t 9), none⟩] (none))
 .ret))) }
def zmi_ : XF := { np := 2, results := [(.inl 4, .v)], body :=
 (.seq (.region [
 ⟨some 4, .cp (.c (.s (.bool false))), none⟩] (none))
 (.seq (.region [
 ⟨some 5, .cp (.t 0), none⟩,
 ⟨some 6, .cp (.t 1), none⟩,
 ⟨some 7, .call false zjr_ [(.t 5), (.t 6)], none⟩,
 ⟨some 8, .bin .geq (.t 7) (.c (.s (.int .i64 0))), none⟩,
 ⟨some 4, .cp (.t 8), none⟩] (none))
 .ret)) }
def zmj_ : XF := { np := 2, results := [(.inl 4, .v)], body :=
 (.seq (.region [
 ⟨some 3, .box false (.t 1), none⟩,
 ⟨some 4, .cp (.c (.s (.bool false))), none⟩] (none))
 (.seq (.region [
 ⟨some 5, .faddr (.t 3) 0, none⟩,
 ⟨some 6, .load 1 false (.t 5), none⟩,
 ⟨some 7, .call false zon_ [(.t 6)], none⟩,
 ⟨some 8, .cp (.t 0), none⟩,
 ⟨some 9, .nilchk (.t 8), none⟩,
 ⟨some 10, .faddr (.t 9) 0, none⟩,
 ⟨some 11, .load 1 false (.t 10), none⟩,
 ⟨some 12, .bin .neq (.t 7) (.t 11), none⟩,
 ⟨some 4, .cp (.t 12), none⟩] (some [(2, some 6)]))
 .ret)) }
def zpz_ : XC :=
 (.seq (.seq (.region [
 ⟨some 16, .cp (.t 6), none⟩,
 ⟨some 17, .cp (.t 0), none⟩,
 ⟨some 18, .len false (.t 17), none⟩,
 ⟨some 19, .bin .lss (.t 16) (.t 18), none⟩] (none))
 (.cond (.t 19)
 .skip
 (.exit 0)))
 (.seq (.block 1
 (.seq (.region [
 ⟨some 22, .cp (.t 0), none⟩,
 ⟨some 23, .cp (.t 6), none⟩,
 ⟨some 24, .iaddr 14 (.t 22) (.t 23), none⟩,
 ⟨some 25, .load 14 true (.t 24), none⟩,
 ⟨some 7, .alloc [.s (.int .i64 0), .s (.int .i64 0), .s (.int .i64 0), .s (.int .i64 0), .s (.int .i64 0), .s (.int .i64 0), .s (.string ⟨#[]⟩), .s (.string ⟨#[]⟩), .s (.string ⟨#[]⟩), .s (.int .i64 0), .s (.int .i64 0), .s (.bool false), .s (.slice none 0 0), .s (.slice none 0 0)], none⟩,
 ⟨none, .store 14 (.t 7) (.t 25), none⟩] (none))
 (.seq (.region [
 ⟨some 26, .cp (.t 1), none⟩,
 ⟨some 27, .load 14 true (.t 7), none⟩,
 ⟨some 28, .callv false (.t 26) [(.t 27)], none⟩,
 ⟨some 29, .un .not (.t 28), none⟩] (none))
 (.cond (.t 29)
 (.seq (.region [
 ⟨some 30, .cp (.t 0), none⟩,
 ⟨some 31, .cp (.t 5), none⟩,
 ⟨some 32, .load 14 true (.t 7), none⟩,
 ⟨some 33, .iaddr 14 (.t 30) (.t 31), none⟩,
 ⟨none, .store 14 (.t 33) (.t 32), none⟩] (none))
 (.region [
 ⟨some 34, .cp (.t 5), none⟩,
 ⟨some 35, .bin .add (.t 34) (.c (.s (.int .i64 1))), none⟩,
 ⟨some 5, .cp (.t 35), none⟩] (none)))
 .skip))))
 (.region [
 ⟨some 20, .cp (.t 6), none⟩,
 ⟨some 21, .bin .add (.t 20) (.c (.s (.int .i64 1))), none⟩,
 ⟨some 6, .cp (.t 21), none⟩] (none))))
def zfu_ : XF := { np := 2, results := [(.inl 4, .v)], body :=
 (.seq (.region [
 ⟨some 4, .cp (.c (.s (.slice none 0 0))), none⟩] (none))
 (.seq (.region [
 ⟨some 8, .cp (.t 0), none⟩,
 ⟨some 9, .cp (.t 1), none⟩,
 ⟨some 10, .call false zjr_ [(.t 8), (.t 9)], none⟩,
 ⟨some 5, .cp (.t 10), none⟩] (none))
 (.seq (.seq (.region [
 ⟨some 11, .cp (.t 5), none⟩,
 ⟨some 12, .bin .eql (.t 11) (.c (.s (.int .i64 (-1)))), none⟩] (none))
 (.cond (.t 12)
 (.seq (.region [
 ⟨some 13, .cp (.t 0), none⟩,
 ⟨some 4, .cp (.t 13), none⟩] (none))
 .ret)
 .skip))
 (.seq (.seq (.region [
 ⟨some 14, .cp (.t 5), none⟩,
 ⟨some 15, .bin .add (.t 14) (.c (.s (.int .i64 1))), none⟩,
 ⟨some 6, .cp (.t 15), none⟩] (none))
 (.block 0
 (.loop zpz_)))
 (.seq (.region [
 ⟨some 36, .cp (.t 0), none⟩,
 ⟨some 37, .cp (.t 5), none⟩,
 ⟨some 38, .slLst 14 (.t 36) (some (.t 37)) none, none⟩,
 ⟨none, .clear 14 (.agg [.s (.int .i64 0), .s (.int .i64 0), .s (.int .i64 0), .s (.int .i64 0), .s (.int .i64 0), .s (.int .i64 0), .s (.string ⟨#[]⟩), .s (.string ⟨#[]⟩), .s (.string ⟨#[]⟩), .s (.int .i64 0), .s (.int .i64 0), .s (.bool false), .s (.slice none 0 0), .s (.slice none 0 0)]) (.t 38), none⟩] (none))
 (.seq (.region [
 ⟨some 39, .cp (.t 0), none⟩,
 ⟨some 40, .cp (.t 5), none⟩,
 ⟨some 41, .slFrz 14 (.t 39) none (some (.t 40)), none⟩,
 ⟨some 4, .cp (.t 41), none⟩] (none))
 .ret)))))) }
def zmk_ : XF := { np := 2, results := [(.inl 3, .v)], body :=
 (.seq (.region [
 ⟨some 2, .box false (.t 0), none⟩,
 ⟨some 3, .cp (.c (.s (.bool false))), none⟩] (none))
 (.seq (.region [
 ⟨some 7, .load 1 false (.t 1), none⟩,
 ⟨some 8, .load 14 true (.t 2), none⟩,
 ⟨some 9, .call false ztw_ [(.t 7), (.t 8), (.c (.fn zdg_ [] []))], none⟩,
 ⟨some 6, .cp (.t 9), none⟩,
 ⟨some 10, .extract (.t 6) 0, none⟩,
 ⟨some 11, .extract (.t 6) 1, none⟩,
 ⟨some 4, .cp (.t 10), none⟩,
 ⟨some 5, .cp (.t 11), none⟩] (none))
 (.seq (.region [
 ⟨some 12, .cp (.t 5), none⟩,
 ⟨some 3, .cp (.t 12), none⟩] (none))
 .ret))) }
def zml_ : XC :=
 (.seq (.seq (.region [
 ⟨some 15, .cp (.t 9), none⟩,
 ⟨some 16, .cp (.t 10), none⟩,
 ⟨some 17, .bin .lss (.t 15) (.t 16), none⟩] (none))
 (.cond (.t 17)
 .skip
 (.exit 0)))
 (.block 1
 (.seq (.region [
 ⟨some 18, .cp (.t 9), none⟩,
 ⟨some 19, .cp (.t 10), none⟩,
 ⟨some 20, .bin .add (.t 18) (.t 19), none⟩,
 ⟨some 21, .conv .u64 (.t 20), none⟩,
 ⟨some 22, .bin .shr (.t 21) (.c (.s (.int .u64 1))), none⟩,
 ⟨some 23, .conv .i64 (.t 22), none⟩,
 ⟨some 11, .cp (.t 23), none⟩] (none))
 (.seq (.region [
 ⟨some 24, .cp (.t 2), none⟩,
 ⟨some 25, .cp (.t 0), none⟩,
 ⟨some 26, .cp (.t 11), none⟩,
 ⟨some 27, .iaddr 14 (.t 25) (.t 26), none⟩,
 ⟨some 28, .load 14 true (.t 27), none⟩,
 ⟨some 29, .load 14 true (.t 4), none⟩,
 ⟨some 30, .callv false (.t 24) [(.t 28), (.t 29)], none⟩,
 ⟨some 31, .bin .lss (.t 30) (.c (.s (.int .i64 0))), none⟩] (some []))
 (.cond (.t 31)
 (.region [
 ⟨some 32, .cp (.t 11), none⟩,
 ⟨some 33, .bin .add (.t 32) (.c (.s (.int .i64 1))), none⟩,
 ⟨some 9, .cp (.t 33), none⟩] (none))
 (.region [
 ⟨some 34, .cp (.t 11), none⟩,
 ⟨some 10, .cp (.t 34), none⟩] (none)))))))
def zmm_ : XF := { np := 3, results := [(.inl 6, .v), (.inl 7, .v)], body :=
 (.seq (.region [
 ⟨some 4, .box false (.t 1), none⟩,
 ⟨some 6, .cp (.c (.s (.int .i64 0))), none⟩,
 ⟨some 7, .cp (.c (.s (.bool false))), none⟩] (none))
 (.seq (.region [
 ⟨some 12, .cp (.t 0), none⟩,
 ⟨some 13, .len false (.t 12), none⟩,
 ⟨some 8, .cp (.t 13), none⟩] (none))
 (.seq (.region [
 ⟨some 14, .cp (.t 8), none⟩,
 ⟨some 9, .cp (.c (.s (.int .i64 0))), none⟩,
 ⟨some 10, .cp (.t 14), none⟩] (none))
 (.seq (.block 0
 (.loop zml_))
 (.seq (.region [
 ⟨some 35, .cp (.t 9), none⟩,
 ⟨some 36, .cp (.t 9), none⟩,
 ⟨some 37, .cp (.t 8), none⟩,
 ⟨some 38, .bin .lss (.t 36) (.t 37), none⟩,
 ⟨some 39, .cp (.t 38), none⟩,
 ⟨some 40, .cp (.t 2), some (39, true)⟩,
 ⟨some 41, .cp (.t 0), some (39, true)⟩,
 ⟨some 42, .cp (.t 9), some (39, true)⟩,
 ⟨some 43, .iaddr 14 (.t 41) (.t 42), some (39, true)⟩,
 ⟨some 44, .load 14 true (.t 43), some (39, true)⟩,
 ⟨some 45, .load 14 true (.t 4), some (39, true)⟩,
 ⟨some 46, .callv false (.t 40) [(.t 44), (.t 45)], some (39, true)⟩,
 ⟨some 47, .bin .eql (.t 46) (.c (.s (.int .i64 0))), some (39, true)⟩,
 ⟨some 48, .pick (.t 39) (.t 47) (.c (.s (.bool false))), none⟩,
 ⟨some 6, .cp (.t 35), none⟩,
 ⟨some 7, .cp (.t 48), none⟩] (some []))
 .ret))))) }
def zif_ : XF := { np := 1, results := [(.inl 2, .v)], body :=
 (.seq (.region [
 ⟨some 2, .cp (.c (.s (.slice none 0 0))), none⟩] (none))
 (.seq (.seq (.region [
 ⟨some 3, .cp (.t 0), none⟩,
 ⟨some 4, .eqv .s false (.t 3) (.c (.s (.slice none 0 0))), none⟩] (none))
 (.cond (.t 4)
 (.seq (.region [
 ⟨some 2, .cp (.c (.s (.slice none 0 0))), none⟩] (none))
 .ret)
 .skip))
 (.seq (.region [
 ⟨some 5, .bslice true 1 [], none⟩,
 ⟨some 6, .cp (.t 0), none⟩,
 ⟨some 7, .append 1 17592186044416 (.t 5) (.t 6), none⟩,
 ⟨some 2, .cp (.t 7), none⟩] (none))
 .ret))) }
def zuy_ : XC :=
 (.seq (.region [
 ⟨some 13, .bin .lss (.t 12) (.t 11), none⟩] (none))
 (.seq (.cond (.t 13)
 .skip
 (.exit 0))
 (.seq (.block 1
 (.seq (.region [
 ⟨some 14, .iaddr 1 (.t 10) (.t 12), none⟩,
 ⟨some 15, .load 1 false (.t 14), none⟩,
 ⟨some 6, .cp (.t 15), none⟩] (none))
 (.seq (.region [
 ⟨some 16, .cp (.t 4), none⟩,
 ⟨some 17, .cp (.t 6), none⟩,
 ⟨some 18, .call false zue_ [(.t 16), (.t 17)], none⟩,
 ⟨some 4, .cp (.t 18), none⟩] (none))
 (.region [
 ⟨some 19, .cp (.t 3), none⟩,
 ⟨some 20, .cp (.t 4), none⟩,
 ⟨some 21, .bslice false 1 [(.t 20)], none⟩,
 ⟨some 22, .append 1 35184372088832 (.t 19) (.t 21), none⟩,
 ⟨some 3, .cp (.t 22), none⟩] (none)))))
 (.region [
 ⟨some 23, .bin .add (.t 12) (.c (.s (.int .i64 1))), none⟩,
 ⟨some 12, .cp (.t 23), none⟩] (none)))))
def zmn_ : XF := { np := 1, results := [(.inl 2, .v)], body :=
 (.seq (.region [
 ⟨some 2, .cp (.c (.s (.slice none 0 0))), none⟩] (none))
 (.seq (.region [
 ⟨some 7, .cp (.t 0), none⟩,
 ⟨some 8, .len false (.t 7), none⟩,
 ⟨some 9, .mkslice 1 (.s (.int .u32 0)) 35184372088832 (.c (.s (.int .i64 0))) (.t 8), none⟩,
 ⟨some 3, .cp (.t 9), none⟩] (none))
 (.seq (.region [
 ⟨some 4, .cp (.c (.s (.int .u32 0))), none⟩] (none))
 (.seq (.seq (.region [
 ⟨some 10, .cp (.t 0), none⟩,
 ⟨some 11, .len false (.t 10), none⟩,
 ⟨some 12, .cp (.c (.s (.int .i64 0))), none⟩] (none))
 (.block 0
 (.loop zuy_)))
 (.seq (.region [
 ⟨some 24, .cp (.t 3), none⟩,
 ⟨some 2, .cp (.t 24), none⟩] (none))
 .ret))))) }
def zuz_ : XC :=
 (.seq (.region [
 ⟨some 9, .bin .lss (.t 8) (.t 7), none⟩] (none))
 (.seq (.cond (.t 9)
 .skip
 (.exit 0))
 (.seq (.block 1
 (.seq (.region [
 ⟨some 10, .iaddr 1 (.t 6) (.t 8), none⟩,
 ⟨some 11, .load 1 false (.t 10), none⟩,
 ⟨some 5, .cp (.t 11), none⟩] (none))
 (.region [
 ⟨some 12, .cp (.t 3), none⟩,
 ⟨some 13, .cp (.t 5), none⟩,
 ⟨some 14, .call false zua_ [(.t 13)], none⟩,
 ⟨some 15, .append 14 837723144972 (.t 12) (.t 14), none⟩,
 ⟨some 3, .cp (.t 15), none⟩] (none))))
 (.region [
 ⟨some 16, .bin .add (.t 8) (.c (.s (.int .i64 1))), none⟩,
 ⟨some 8, .cp (.t 16), none⟩] (none)))))
def zmo_ : XF := { np := 1, results := [(.inl 2, .v)], body :=
 (.seq (.region [
 ⟨some 2, .cp (.c (.s (.slice none 0 0))), none⟩] (none))
 (.seq (.region [
 ⟨some 3, .cp (.c (.s (.slice none 0 0))), none⟩] (none))
 (.seq (.seq (.region [
 ⟨some 6, .cp (.t 0), none⟩,
 ⟨some 7, .len false (.t 6), none⟩,
 ⟨some 8, .cp (.c (.s (.int .i64 0))), none⟩] (none))
 (.block 0
 (.loop zuz_)))
 (.seq (.region [
 ⟨some 17, .cp (.t 3), none⟩,
 ⟨some 18, .call false zfj_ [(.t 17)], none⟩,
 ⟨some 2, .cp (.t 18), none⟩] (none))
 .ret)))) }
def zqa_ : XC :=
 (.seq (.region [
 ⟨some 9, .bin .lss (.t 8) (.t 7), none⟩] (none))
 (.seq (.cond (.t 9)
 .skip
 (.exit 0))
 (.seq (.block 1
 (.seq (.region [
 ⟨some 10, .cp (.t 8), none⟩,
 ⟨some 5, .cp (.t 10), none⟩] (none))
 (.seq (.region [
 ⟨some 11, .cp (.t 1), none⟩,
 ⟨some 12, .cp (.t 0), none⟩,
 ⟨some 13, .cp (.t 5), none⟩,
 ⟨some 14, .iaddr 14 (.t 12) (.t 13), none⟩,
 ⟨some 15, .load 14 true (.t 14), none⟩,
 ⟨some 16, .callv false (.t 11) [(.t 15)], none⟩] (none))
 (.cond (.t 16)
 (.seq (.region [
 ⟨some 17, .cp (.t 5), none⟩,
 ⟨some 4, .cp (.t 17), none⟩] (none))
 .ret)
 .skip))))
 (.region [
 ⟨some 18, .bin .add (.t 8) (.c (.s (.int .i64 1))), none⟩,
 ⟨some 8, .cp (.t 18), none⟩] (none)))))
def zmp_ : XF := { np := 2, results := [(.inl 4, .v)], body :=
 (.seq (.region [
 ⟨some 4, .cp (.c (.s (.int .i64 0))), none⟩] (none))
 (.seq (.seq (.region [
 ⟨some 6, .cp (.t 0), none⟩,
 ⟨some 7, .len false (.t 6), none⟩,
 ⟨some 8, .cp (.c (.s (.int .i64 0))), none⟩] (none))
 (.block 0
 (.loop zqa_)))
 (.seq (.region [
 ⟨some 4, .cp (.c (.s (.int .i64 (-1)))), none⟩] (none))
 .ret))) }
def zva_ : XC :=
 (.seq (.region [
 ⟨some 11, .bin .lss (.t 10) (.c (.s (.int .i64 4))), none⟩] (none))
 (.seq (.cond (.t 11)
 .skip
 (.exit 0))
 (.seq (.block 1
 (.seq (.region [
 ⟨some 12, .cp (.t 10), none⟩,
 ⟨some 6, .cp (.t 12), none⟩] (none))
 (.region [
 ⟨some 13, .cp (.t 5), none⟩,
 ⟨some 14, .cp (.t 0), none⟩,
 ⟨some 15, .cp (.t 6), none⟩,
 ⟨some 16, .bin .mul (.c (.s (.int .i64 8))) (.t 15), none⟩,
 ⟨some 17, .bin .shr (.t 14) (.t 16), none⟩,
 ⟨some 18, .conv .u8 (.t 17), none⟩,
 ⟨some 19, .bslice false 1 [(.t 18)], none⟩,
 ⟨some 20, .append 1 140737488355328 (.t 13) (.t 19), none⟩,
 ⟨some 5, .cp (.t 20), none⟩] (none))))
 (.region [
 ⟨some 21, .bin .add (.t 10) (.c (.s (.int .i64 1))), none⟩,
 ⟨some 10, .cp (.t 21), none⟩] (none)))))
def zvb_ : XC :=
 (.seq (.region [
 ⟨some 26, .bin .lss (.t 25) (.c (.s (.int .i64 8))), none⟩] (none))
 (.seq (.cond (.t 26)
 .skip
 (.exit 2))
 (.seq (.block 3
 (.seq (.region [
 ⟨some 27, .cp (.t 25), none⟩,
 ⟨some 8, .cp (.t 27), none⟩] (none))
 (.region [
 ⟨some 28, .cp (.t 5), none⟩,
 ⟨some 29, .cp (.t 7), none⟩,
 ⟨some 30, .cp (.t 8), none⟩,
 ⟨some 31, .bin .mul (.c (.s (.int .i64 8))) (.t 30), none⟩,
 ⟨some 32, .bin .shr (.t 29) (.t 31), none⟩,
 ⟨some 33, .conv .u8 (.t 32), none⟩,
 ⟨some 34, .bslice false 1 [(.t 33)], none⟩,
 ⟨some 35, .append 1 140737488355328 (.t 28) (.t 34), none⟩,
 ⟨some 5, .cp (.t 35), none⟩] (none))))
 (.region [
 ⟨some 36, .bin .add (.t 25) (.c (.s (.int .i64 1))), none⟩,
 ⟨some 25, .cp (.t 36), none⟩] (none)))))
def zmq_ : XF := { np := 2, results := [(.inl 4, .v)], body :=
 (.seq (.region [
 ⟨some 4, .cp (.c (.s (.int .u32 0))), none⟩] (none))
 (.seq (.region [
 ⟨some 9, .mkslice 1 (.s (.int .u8 0)) 140737488355328 (.c (.s (.int .i64 0))) (.c (.s (.int .i64 12))), none⟩,
 ⟨some 5, .cp (.t 9), none⟩] (none))
 (.seq (.seq (.region [
 ⟨some 10, .cp (.c (.s (.int .i64 0))), none⟩] (none))
 (.block 0
 (.loop zva_)))
 (.seq (.region [
 ⟨some 22, .cp (.t 1), none⟩,
 ⟨some 23, .len true (.t 22), none⟩,
 ⟨some 24, .conv .u64 (.t 23), none⟩,
 ⟨some 7, .cp (.t 24), none⟩] (none))
 (.seq (.seq (.region [
 ⟨some 25, .cp (.c (.s (.int .i64 0))), none⟩] (none))
 (.block 2
 (.loop zvb_)))
 (.seq (.region [
 ⟨some 37, .cp (.t 5), none⟩,
 ⟨some 38, .toStr (.t 37), none⟩,
 ⟨some 39, .call false zui_ [(.t 38)], none⟩,
 ⟨some 40, .cp (.t 1), none⟩,
 ⟨some 41, .call false zpg_ [(.t 39), (.t 40)], none⟩,
 ⟨some 4, .cp (.t 41), none⟩] (none))
 .ret)))))) }
def zqb_ : XC :=
 (.seq (.region [
 ⟨some 21, .bin .lss (.t 20) (.c (.s (.int .i64 8))), none⟩] (none))
 (.seq (.cond (.t 21)
 .skip
 (.exit 2))
 (.seq (.block 3
 (.region [
 ⟨some 22, .cp (.t 5), none⟩,
 ⟨some 23, .call false zuk_ [(.t 22)], none⟩,
 ⟨some 5, .cp (.t 23), none⟩] (none)))
 (.region [
 ⟨some 24, .bin .add (.t 20) (.c (.s (.int .i64 1))), none⟩,
 ⟨some 20, .cp (.t 24), none⟩] (none)))))
def zvc_ : XC :=
 (.seq (.region [
 ⟨some 12, .bin .lss (.t 11) (.t 10), none⟩] (none))
 (.seq (.cond (.t 12)
 .skip
 (.exit 0))
 (.seq (.block 1
 (.seq (.region [
 ⟨some 13, .cp (.t 11), none⟩,
 ⟨some 6, .cp (.t 13), none⟩] (none))
 (.seq (.region [
 ⟨some 14, .cp (.t 5), none⟩,
 ⟨some 15, .cp (.t 1), none⟩,
 ⟨some 16, .cp (.t 6), none⟩,
 ⟨some 17, .idxS (.t 15) (.t 16), none⟩,
 ⟨some 18, .conv .u32 (.t 17), none⟩,
 ⟨some 19, .bin .xor (.t 14) (.t 18), none⟩,
 ⟨some 5, .cp (.t 19), none⟩] (none))
 (.seq (.region [
 ⟨some 20, .cp (.c (.s (.int .i64 0))), none⟩] (none))
 (.block 2
 (.loop zqb_))))))
 (.region [
 ⟨some 25, .bin .add (.t 11) (.c (.s (.int .i64 1))), none⟩,
 ⟨some 11, .cp (.t 25), none⟩] (none)))))
def zmr_ : XF := { np := 2, results := [(.inl 4, .v)], body :=
 (.seq (.region [
 ⟨some 4, .cp (.c (.s (.int .u32 0))), none⟩] (none))
 (.seq (.region [
 ⟨some 7, .cp (.t 0), none⟩,
 ⟨some 8, .un .xor (.t 7), none⟩,
 ⟨some 5, .cp (.t 8), none⟩] (none))
 (.seq (.seq (.region [
 ⟨some 9, .cp (.t 1), none⟩,
 ⟨some 10, .len true (.t 9), none⟩,
 ⟨some 11, .cp (.c (.s (.int .i64 0))), none⟩] (none))
 (.block 0
 (.loop zvc_)))
 (.seq (.region [
 ⟨some 26, .cp (.t 5), none⟩,
 ⟨some 27, .un .xor (.t 26), none⟩,
 ⟨some 4, .cp (.t 27), none⟩] (none))
 .ret)))) }
def zms_ : XF := { np := 1, results := [(.inl 2, .v)], body :=
 (.seq (.region [
 ⟨some 2, .cp (.c (.s (.int .u32 0))), none⟩] (none))
 (.seq (.region [
 ⟨some 3, .cp (.t 0), none⟩,
 ⟨some 4, .call false zpg_ [(.c (.s (.int .u32 0))), (.t 3)], none⟩,
 ⟨some 2, .cp (.t 4), none⟩] (none))
 .ret)) }
def zig_ : XF := { np := 1, results := [(.inl 2, .v)], body :=
 (.seq (.region [
 ⟨some 2, .cp (.c (.s (.int .u32 0))), none⟩] (none))
 (.seq (.seq (.region [
 ⟨some 3, .cp (.t 0), none⟩,
 ⟨some 4, .bin .and (.t 3) (.c (.s (.int .u32 1))), none⟩,
 ⟨some 5, .bin .eql (.t 4) (.c (.s (.int .u32 1))), none⟩] (none))
 (.cond (.t 5)
 (.seq (.region [
 ⟨some 6, .cp (.t 0), none⟩,
 ⟨some 7, .bin .shr (.t 6) (.c (.s (.int .u64 1))), none⟩,
 ⟨some 8, .bin .xor (.t 7) (.c (.s (.int .u32 2197175160))), none⟩,
 ⟨some 2, .cp (.t 8), none⟩] (none))
 .ret)
 .skip))
 (.seq (.region [
 ⟨some 9, .cp (.t 0), none⟩,
 ⟨some 10, .bin .shr (.t 9) (.c (.s (.int .u64 1))), none⟩,
 ⟨some 2, .cp (.t 10), none⟩] (none))
 .ret))) }
def XPL : List (Option XF) := [none, none, none, none, none, none, none, none, none, some zju_, some zhc_, none, none, none, none, none, none, none, none, none, none, none, none, none, none, none, none, none, none, none, some zjv_, none, none, some zjw_, some zhd_, some zjx_, none, none, none, none, none, none, none, none, none, none, none, some zhe_, some zjy_, none, none, none, none, none, none, some zjz_, none, none, some zka_, none, none, none, none, none, none, none, none, none, none, none, none, none, none, none, none, none, some zkc_, none, none, some zke_, some zkg_, none, none, none, none, none, none, none, none, none, none, none, none, none, none, none, none, none, none, none, none, none, none, none, none, none, none, none, none, none, none, none, none, none, none, none, none, none, none, none, none, none, none, none, none, none, none, none, none, none, none, none, none, none, none, none, none, none, none, none, none, none, none, none, none, none, none, none, none, none, none, none, none, none, none, none, none, some zba_, none, none, some zkh_, none, some zki_, none, some zkj_, none, none, none, none, none, none, some zax_, none, none, none, none, none, none, none, none, some zkk_, some zkl_, none, none, some zhf_, none, some zkm_, none, none, some zfm_, some zfn_, some zkn_, some zhg_, some zhh_, none, some zko_, some zkp_, some zfp_, some zhi_, some zkq_, some zkr_, some zks_, none, none, none, none, none, none, some zku_, none, none, none, some zkv_, some zfq_, some zkw_, some zky_, none, some zkz_, some zla_, some zlb_, some zlc_, some zld_, none, none, some zle_, some zfr_, some zhl_, some zhm_, some zuo_, some zhn_, some zho_, some zhp_, some zup_, some zuq_, some zur_, none, none, none, none, none, none, none, none, none, none, none, none, none, none, none, none, none, none, some zem_, none, none, none, none, none, some zmc_, some zlk_, some zmd_, some zme_, some zen_, some zhz_, some zia_, some zib_, some zft_, some zmg_, some zic_, none, some zmh_, none, none, some zid_, none, none, none, none, none, none, none, none, none, none, none, none, none, none, none, none, none, none, none, some zie_, none, some zhq_, none, none, some zll_, some zmi_, some zmj_, some zfu_, some zmk_, some zmm_, some zif_, some zhv_, some zmn_, some zmo_, none, some zlh_, none, none, none, none, none, none, none, none, none, none, none, none, none, none, some zlj_, some zlm_, some zln_, some zlp_, none, none, none, none, none, none, none, none, none, none, none, none, none, none, none, none, none, none, none, none, none, none, none, some zhw_, some zlr_, some zmp_, some zmq_, some zli_, none, none, none, none, none, none, none, none, none, none, none, some zls_, some zlq_, none, none, none, none, none, none, none, none, none, none, none, none, none, none, none, some zlt_, some zlu_, some zlv_, some zmr_, some zms_, none, none, none, none, none, none, none, none, none, none, none, none, none, none, none, none, none, none, none, none, none, none, none, none, none, none, none, none, none, some zlx_, some zig_, none, none, none, none, none, none, none, none, none, none, none, none, none, none, none, none, none, none, none, none, none, none, some zly_, none, none, none, none, none, none, none, some zlz_, some zct_, none, none, some zma_, some zmb_, none, none, none, none, none, none, none, none, none, none, none, none, none, none, none, none, none, none, none, none, none, none, none, none, none, none, none, none, none, none, none, none, none, none, none, none, none, none, none, none, none, none, none, none, none, none, none, none, none, none, none, none, none, none, none, none, none, none, none, none, none, none, none]
def XP : Nat → Option XF := fun n => XPL.getD n none
theorem zbxf_ : XP zdf_ = some zju_ := rfl
theorem zbxg_ : XP zst_ = some zhc_ := rfl
theorem zbxh_ : XP zsu_ = some zjv_ := rfl
theorem zbxi_ : XP zom_ = some zjw_ := rfl
theorem zbxj_ : XP zej_ = some zhd_ := rfl
theorem zbxk_ : XP zsv_ = some zjx_ := rfl
theorem zbxl_ : XP zsw_ = some zhe_ := rfl
theorem zbxm_ : XP zdj_ = some zjy_ := rfl
theorem zbxn_ : XP zjg_ = some zjz_ := rfl
theorem zbxo_ : XP zdk_ = some zka_ := rfl
theorem zbxp_ : XP zdl_ = some zkc_ := rfl
theorem zbxq_ : XP zjh_ = some zke_ := rfl
theorem zbxr_ : XP zji_ = some zkg_ := rfl
theorem zbf_ : XP zjj_ = some zba_ := rfl
theorem zbxs_ : XP zdg_ = some zkh_ := rfl
theorem zbxt_ : XP zck_ = some zki_ := rfl
theorem zbxu_ : XP zgu_ = some zkj_ := rfl
theorem zbxv_ : XP zsx_ = some zax_ := rfl
theorem zbxw_ : XP zsy_ = some zkk_ := rfl
theorem zbxx_ : XP zon_ = some zkl_ := rfl
theorem zbxy_ : XP zfj_ = some zhf_ := rfl
theorem zbxz_ : XP zsz_ = some zkm_ := rfl
theorem zbya_ : XP zgv_ = some zfm_ := rfl
theorem zbyb_ : XP zgw_ = some zfn_ := rfl
theorem zbyc_ : XP zta_ = some zkn_ := rfl
theorem zbyd_ : XP ztb_ = some zhg_ := rfl
theorem zbye_ : XP ztc_ = some zhh_ := rfl
theorem zbyf_ : XP zgx_ = some zko_ := rfl
theorem zbyg_ : XP zoo_ = some zkp_ := rfl
theorem zbyh_ : XP zfk_ = some zfp_ := rfl
theorem zbyi_ : XP zdm_ = some zhi_ := rfl
theorem zbyj_ : XP zop_ = some zkq_ := rfl
theorem zbyk_ : XP ztd_ = some zkr_ := rfl
theorem zbyl_ : XP zte_ = some zks_ := rfl
theorem zbym_ : XP zoq_ = some zku_ := rfl
theorem zbyn_ : XP ztf_ = some zkv_ := rfl
theorem zvd_ : XP ztg_ = some zfq_ := rfl
theorem zbyo_ : XP zor_ = some zkw_ := rfl
theorem zbyp_ : XP zth_ = some zky_ := rfl
theorem zbyq_ : XP zos_ = some zkz_ := rfl
theorem zbyr_ : XP zot_ = some zla_ := rfl
theorem zbys_ : XP zti_ = some zlb_ := rfl
theorem zbyt_ : XP zjk_ = some zlc_ := rfl
theorem zbyu_ : XP ztj_ = some zld_ := rfl
theorem zbyv_ : XP ztk_ = some zle_ := rfl
theorem zve_ : XP zjl_ = some zfr_ := rfl
theorem zbyw_ : XP ztl_ = some zhl_ := rfl
theorem zbbn_ : XP zfl_ = some zhm_ := rfl
theorem zbbo_ : XP zou_ = some zuo_ := rfl
theorem zbyx_ : XP zov_ = some zhn_ := rfl
theorem zbyy_ : XP zow_ = some zho_ := rfl
theorem zbyz_ : XP ztm_ = some zhp_ := rfl
theorem zbbp_ : XP zox_ = some zup_ := rfl
theorem zbza_ : XP ztn_ = some zur_ := rfl
theorem zbbq_ : XP zjm_ = some zem_ := rfl
theorem zbzb_ : XP zoy_ = some zmc_ := rfl
theorem zbzc_ : XP zto_ = some zlk_ := rfl
theorem zbzd_ : XP zjn_ = some zmd_ := rfl
theorem zbze_ : XP ztp_ = some zme_ := rfl
theorem zqc_ : XP zdn_ = some zen_ := rfl
theorem zbzf_ : XP zoz_ = some zhz_ := rfl
theorem zbbr_ : XP zpa_ = some zia_ := rfl
theorem zbbs_ : XP zjo_ = some zib_ := rfl
theorem zbzg_ : XP ztq_ = some zft_ := rfl
theorem zbzh_ : XP ztr_ = some zmg_ := rfl
theorem zbzi_ : XP zbz_ = some zic_ := rfl
theorem zbzj_ : XP zgy_ = some zmh_ := rfl
theorem zbzk_ : XP zts_ = some zid_ := rfl
theorem zbbt_ : XP ztt_ = some zie_ := rfl
theorem zbzl_ : XP ztu_ = some zhq_ := rfl
theorem zbzm_ : XP zpb_ = some zll_ := rfl
theorem zbzn_ : XP ztv_ = some zmi_ := rfl
theorem zbzo_ : XP zgz_ = some zmj_ := rfl
theorem zvf_ : XP zjp_ = some zfu_ := rfl
theorem zbzp_ : XP zdo_ = some zmk_ := rfl
theorem zbzq_ : XP ztw_ = some zmm_ := rfl
theorem zbbu_ : XP zjq_ = some zif_ := rfl
theorem zbzr_ : XP ztx_ = some zhv_ := rfl
theorem zbzs_ : XP zty_ = some zmn_ := rfl
theorem zbzt_ : XP ztz_ = some zmo_ := rfl
theorem zbzu_ : XP zua_ = some zlh_ := rfl
theorem zbzv_ : XP zpc_ = some zlj_ := rfl
theorem zbzw_ : XP zpd_ = some zlm_ := rfl
theorem zbzx_ : XP zpe_ = some zln_ := rfl
theorem zbzy_ : XP zub_ = some zlp_ := rfl
theorem zbzz_ : XP zuc_ = some zhw_ := rfl
theorem zcaa_ : XP zud_ = some zlr_ := rfl
theorem zcab_ : XP zjr_ = some zmp_ := rfl
theorem zcac_ : XP zue_ = some zmq_ := rfl
theorem zcad_ : XP zuf_ = some zli_ := rfl
theorem zcae_ : XP zug_ = some zls_ := rfl
theorem zcaf_ : XP zpf_ = some zlq_ := rfl
theorem zcag_ : XP zuh_ = some zlt_ := rfl
theorem zcah_ : XP zek_ = some zlu_ := rfl
theorem zcai_ : XP zha_ = some zlv_ := rfl
theorem zcaj_ : XP zpg_ = some zmr_ := rfl
theorem zcak_ : XP zui_ = some zms_ := rfl
theorem zcal_ : XP zuj_ = some zlx_ := rfl
theorem zcam_ : XP zuk_ = some zig_ := rfl
theorem zcan_ : XP zph_ = some zly_ := rfl
theorem zcao_ : XP zul_ = some zlz_ := rfl
theorem zcap_ : XP zum_ = some zct_ := rfl
theorem zcaq_ : XP zjs_ = some zma_ := rfl
theorem zcar_ : XP zun_ = some zmb_ := rfl
end Go.Proofs.Sl
