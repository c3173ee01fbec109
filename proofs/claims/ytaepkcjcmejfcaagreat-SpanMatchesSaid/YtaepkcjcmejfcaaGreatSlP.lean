/- A part of the proof. -/
import Derived.Test.YtaepkcjcmejfcaaGreatSlA
set_option linter.unusedVariables false
set_option linter.unusedSimpArgs false
set_option linter.unnecessarySimpa false
namespace Go.Proofs.Sl
set_option maxRecDepth 100000
def zoa_ : Nat := 156
def zkj_ : Nat := 157
def zob_ : Nat := 159
def zhl_ : Nat := 160
def zsc_ : Nat := 161
def zgi_ : Nat := 162
def zoc_ : Nat := 163
def zir_ : Nat := 164
def zsd_ : Nat := 165
def zod_ : Nat := 166
def zse_ : Nat := 167
def zay_ : Nat := 168
def zbh_ : Nat := 169
def zbv_ : Nat := 170
def zoe_ : Nat := 171
def zof_ : Nat := 173
def zsf_ : Nat := 174
def zsg_ : Nat := 176
def zsh_ : Nat := 177
def zog_ : Nat := 180
def zoh_ : Nat := 181
def zsi_ : Nat := 182
def zsj_ : Nat := 183
def zsk_ : Nat := 184
def zoi_ : Nat := 187
def zis_ : Nat := 189
def zec_ : Nat := 190
def zsl_ : Nat := 191
def zsm_ : Nat := 192
def zsn_ : Nat := 193
def zit_ : Nat := 195
def zoj_ : Nat := 196
def zgj_ : Nat := 197
def zed_ : Nat := 198
def zkk_ : Nat := 199
def zso_ : Nat := 200
def zsp_ : Nat := 201
def zbz_ : Nat := 202
def zhm_ : Nat := 203
def ziu_ : Nat := 204
def ziv_ : Nat := 205
def zdd_ : Nat := 206
def zsq_ : Nat := 207
def zok_ : Nat := 208
def zsr_ : Nat := 209
def zss_ : Nat := 210
def zst_ : Nat := 211
def zkl_ : Nat := 212
def zol_ : Nat := 213
def zom_ : Nat := 214
def zon_ : Nat := 216
def zoo_ : Nat := 217
def zop_ : Nat := 218
def zsu_ : Nat := 219
def zkm_ : Nat := 220
def zoq_ : Nat := 221
def zsv_ : Nat := 222
def zkn_ : Nat := 223
def zsw_ : Nat := 224
def zko_ : Nat := 225
def zsx_ : Nat := 226
def zgk_ : Nat := 227
def zsy_ : Nat := 229
def zsz_ : Nat := 230
def zta_ : Nat := 231
def zor_ : Nat := 232
def zcw_ : Nat := 233
def ztb_ : Nat := 234
def ztc_ : Nat := 275
def zos_ : Nat := 276
def zdw_ : Nat := 312
def zde_ : Nat := 313
def zgl_ : Nat := 314
def zot_ : Nat := 316
def ztd_ : Nat := 358
def zdq_ : Nat := 359
def zou_ : Nat := 360
def zov_ : Nat := 361
def zkp_ : Nat := 362
def zte_ : Nat := 368
def ztf_ : Nat := 390
def ztg_ : Nat := 391
def zow_ : Nat := 421
def zox_ : Nat := 520
def zth_ : Nat := 522
def zoy_ : Nat := 524
def ziw_ : Nat := 525
def zkq_ : Nat := 526
def zhn_ : Nat := 45
def zix_ : Nat := 62
def zoz_ : XC :=
 (.seq (.seq (.region [
 ⟨some 35, .cp (.t 10), none⟩,
 ⟨some 36, .cp (.t 9), none⟩,
 ⟨some 37, .len false (.t 36), none⟩,
 ⟨some 38, .bin .lss (.t 35) (.t 37), none⟩] (none))
 (.cond (.t 38)
 .skip
 (.exit 2)))
 (.seq (.block 3
 (.region [
 ⟨some 41, .cp (.t 8), none⟩,
 ⟨some 42, .cp (.t 9), none⟩,
 ⟨some 43, .cp (.t 10), none⟩,
 ⟨some 44, .iaddr 1 (.t 42) (.t 43), none⟩,
 ⟨some 45, .load 1 false (.t 44), none⟩,
 ⟨some 46, .cp (.t 5), none⟩,
 ⟨some 47, .cp (.t 7), none⟩,
 ⟨some 48, .iaddr 14 (.t 46) (.t 47), none⟩,
 ⟨some 49, .load 14 true (.t 48), none⟩,
 ⟨some 50, .cp (.t 9), none⟩,
 ⟨some 51, .cp (.t 10), none⟩,
 ⟨some 52, .iaddr 1 (.t 50) (.t 51), none⟩,
 ⟨some 53, .load 1 false (.t 52), none⟩,
 ⟨some 54, .call false zbv_ [(.t 49), (.t 53)], none⟩,
 ⟨some 55, .build false [.s (.string ⟨#[]⟩), .s (.int .i64 0), .s (.string ⟨#[]⟩), .s (.int .i64 0)] [(0, 1, (.t 45)), (1, 3, (.t 54))], none⟩,
 ⟨some 56, .bslice false 4 [(.t 55)], none⟩,
 ⟨some 57, .append 4 2932031007402 (.t 41) (.t 56), none⟩,
 ⟨some 8, .cp (.t 57), none⟩] (some [(13, some 3), (13, some 4)])))
 (.region [
 ⟨some 39, .cp (.t 10), none⟩,
 ⟨some 40, .bin .add (.t 39) (.c (.s (.int .i64 1))), none⟩,
 ⟨some 10, .cp (.t 40), none⟩] (none))))
def zpa_ : XC :=
 (.seq (.seq (.region [
 ⟨some 27, .cp (.t 7), none⟩,
 ⟨some 28, .cp (.t 5), none⟩,
 ⟨some 29, .len false (.t 28), none⟩,
 ⟨some 30, .bin .lss (.t 27) (.t 29), none⟩] (none))
 (.cond (.t 30)
 .skip
 (.exit 0)))
 (.seq (.block 1
 (.seq (.region [
 ⟨some 33, .bslice true 4 [], none⟩,
 ⟨some 8, .cp (.t 33), none⟩] (none))
 (.seq (.region [
 ⟨some 34, .call false zse_ [], none⟩,
 ⟨some 9, .cp (.t 34), none⟩] (none))
 (.seq (.seq (.region [
 ⟨some 10, .cp (.c (.s (.int .i64 0))), none⟩] (none))
 (.block 2
 (.loop zoz_)))
 (.seq (.region [
 ⟨some 58, .load 7 true (.t 3), none⟩,
 ⟨some 59, .cp (.t 8), none⟩,
 ⟨some 60, .cp (.t 5), none⟩,
 ⟨some 61, .cp (.t 7), none⟩,
 ⟨some 62, .iaddr 14 (.t 60) (.t 61), none⟩,
 ⟨some 63, .faddr (.t 62) 12, none⟩,
 ⟨some 64, .load 1 false (.t 63), none⟩,
 ⟨some 65, .build true [.s (.slice none 0 0), .s (.slice none 0 0)] [(0, 1, (.t 59)), (1, 1, (.t 64))], none⟩,
 ⟨some 66, .mkifc zhn_ (.t 65), none⟩,
 ⟨some 67, .call false zgl_ [(.t 58), (.t 66)], none⟩,
 ⟨some 11, .cp (.t 67), none⟩] (some [(7, some 0)]))
 (.seq (.seq (.region [
 ⟨some 68, .load 7 true (.t 3), none⟩,
 ⟨some 69, .cp (.t 5), none⟩,
 ⟨some 70, .cp (.t 7), none⟩,
 ⟨some 71, .iaddr 14 (.t 69) (.t 70), none⟩,
 ⟨some 72, .load 14 true (.t 71), none⟩,
 ⟨some 73, .call false zot_ [(.t 68), (.t 72)], none⟩,
 ⟨some 74, .cp (.t 11), none⟩,
 ⟨some 75, .eqv .b true (.t 73) (.t 74), none⟩] (some []))
 (.cond (.t 75)
 (.seq (.region [
 ⟨some 4, .cp (.c (.s (.bool false))), none⟩] (none))
 .ret)
 .skip))
 (.seq (.region [
 ⟨some 76, .cp (.t 11), none⟩] (none))
 (.cond (.t 76)
 (.region [
 ⟨some 77, .cp (.t 6), none⟩,
 ⟨some 78, .cp (.t 5), none⟩,
 ⟨some 79, .cp (.t 7), none⟩,
 ⟨some 80, .iaddr 14 (.t 78) (.t 79), none⟩,
 ⟨some 81, .load 14 true (.t 80), none⟩,
 ⟨some 82, .bslice false 14 [(.t 81)], none⟩,
 ⟨some 83, .append 14 837723144972 (.t 77) (.t 82), none⟩,
 ⟨some 6, .cp (.t 83), none⟩] (none))
 .skip))))))))
 (.region [
 ⟨some 31, .cp (.t 7), none⟩,
 ⟨some 32, .bin .add (.t 31) (.c (.s (.int .i64 1))), none⟩,
 ⟨some 7, .cp (.t 32), none⟩] (none))))
def zho_ : XF := { np := 2, results := [(.inl 4, .v)], body :=
 (.seq (.region [
 ⟨some 3, .box false (.t 1), none⟩,
 ⟨some 4, .cp (.c (.s (.bool false))), none⟩] (none))
 (.seq (.seq (.region [
 ⟨some 12, .call false zoa_ [], none⟩,
 ⟨some 13, .un .not (.t 12), none⟩,
 ⟨some 14, .cp (.t 13), none⟩,
 ⟨some 15, .load 7 true (.t 3), some (14, false)⟩,
 ⟨some 16, .call false ztc_ [(.t 15)], some (14, false)⟩,
 ⟨some 17, .bin .neq (.t 16) (.c (.s (.int .i64 0))), some (14, false)⟩,
 ⟨some 18, .pick (.t 14) (.c (.s (.bool true))) (.t 17), none⟩,
 ⟨some 19, .cp (.t 18), none⟩,
 ⟨some 20, .load 7 true (.t 3), some (19, false)⟩,
 ⟨some 21, .call false zos_ [(.t 20)], some (19, false)⟩,
 ⟨some 22, .bin .gtr (.t 21) (.c (.s (.int .i64 16))), some (19, false)⟩,
 ⟨some 23, .pick (.t 19) (.c (.s (.bool true))) (.t 22), none⟩] (none))
 (.cond (.t 23)
 (.seq (.region [
 ⟨some 24, .call false zoa_ [], none⟩,
 ⟨some 4, .cp (.t 24), none⟩] (none))
 .ret)
 .skip))
 (.seq (.region [
 ⟨some 25, .cp (.t 0), none⟩,
 ⟨some 26, .call false zsi_ [(.t 25)], none⟩,
 ⟨some 5, .cp (.t 26), none⟩] (none))
 (.seq (.region [
 ⟨some 6, .cp (.c (.s (.slice none 0 0))), none⟩] (none))
 (.seq (.seq (.region [
 ⟨some 7, .cp (.c (.s (.int .i64 0))), none⟩] (none))
 (.block 0
 (.loop zpa_)))
 (.seq (.region [
 ⟨some 84, .load 7 true (.t 3), none⟩,
 ⟨some 85, .cp (.t 5), none⟩,
 ⟨some 86, .call false zth_ [(.t 84), (.t 85)], none⟩,
 ⟨some 87, .cp (.t 6), none⟩,
 ⟨some 88, .call false zsj_ [(.t 86), (.t 87)], none⟩,
 ⟨some 4, .cp (.t 88), none⟩] (none))
 .ret)))))) }
def zkr_ : XF := { np := 0, results := [(.inl 0, .v)], body :=
 (.seq (.region [
 ⟨some 0, .cp (.c (.s (.bool false))), none⟩] (none))
 (.seq (.region [
 ⟨some 6, .build false [.s (.int .i64 0), .s (.int .i64 0), .s (.int .i64 0), .s (.int .i64 0), .s (.int .i64 0), .s (.int .i64 0), .s (.string ⟨#[]⟩), .s (.string ⟨#[]⟩), .s (.string ⟨#[]⟩), .s (.int .i64 0), .s (.int .i64 0), .s (.bool false), .s (.slice none 0 0), .s (.slice none 0 0)] [(0, 1, (.c (.s (.int .i64 1)))), (1, 1, (.c (.s (.int .i64 2)))), (3, 1, (.c (.s (.int .i64 1)))), (4, 1, (.c (.s (.int .i64 1)))), (5, 1, (.c (.s (.int .i64 3)))), (6, 1, (.c (.s (.string ⟨#[115]⟩)))), (8, 1, (.c (.s (.string ⟨#[111]⟩)))), (9, 1, (.c (.s (.int .i64 4)))), (10, 1, (.c (.s (.int .i64 9))))], none⟩,
 ⟨some 1, .alloc [.s (.int .i64 0), .s (.int .i64 0), .s (.int .i64 0), .s (.int .i64 0), .s (.int .i64 0), .s (.int .i64 0), .s (.string ⟨#[]⟩), .s (.string ⟨#[]⟩), .s (.string ⟨#[]⟩), .s (.int .i64 0), .s (.int .i64 0), .s (.bool false), .s (.slice none 0 0), .s (.slice none 0 0)], none⟩,
 ⟨none, .store 14 (.t 1) (.t 6), none⟩] (none))
 (.seq (.region [
 ⟨some 7, .load 14 true (.t 1), none⟩,
 ⟨some 2, .alloc [.s (.int .i64 0), .s (.int .i64 0), .s (.int .i64 0), .s (.int .i64 0), .s (.int .i64 0), .s (.int .i64 0), .s (.string ⟨#[]⟩), .s (.string ⟨#[]⟩), .s (.string ⟨#[]⟩), .s (.int .i64 0), .s (.int .i64 0), .s (.bool false), .s (.slice none 0 0), .s (.slice none 0 0)], none⟩,
 ⟨none, .store 14 (.t 2) (.t 7), none⟩] (none))
 (.seq (.region [
 ⟨some 8, .faddr (.t 2) 3, none⟩,
 ⟨none, .store 1 (.t 8) (.c (.s (.int .i64 0))), none⟩,
 ⟨some 9, .faddr (.t 2) 10, none⟩,
 ⟨none, .store 1 (.t 9) (.c (.s (.int .i64 12))), none⟩] (none))
 (.seq (.region [
 ⟨some 10, .load 14 true (.t 2), none⟩,
 ⟨some 11, .load 14 true (.t 1), none⟩,
 ⟨some 12, .bslice false 14 [(.t 10), (.t 11)], none⟩,
 ⟨some 13, .call false zoi_ [(.t 12)], none⟩,
 ⟨some 3, .cp (.t 13), none⟩] (none))
 (.seq (.region [
 ⟨some 15, .load 14 true (.t 1), none⟩,
 ⟨some 16, .build false [.s (.int .i64 0), .s (.int .i64 0), .s (.int .i64 0), .s (.int .i64 0), .s (.int .i64 0), .s (.int .i64 0), .s (.string ⟨#[]⟩), .s (.string ⟨#[]⟩), .s (.string ⟨#[]⟩), .s (.int .i64 0), .s (.int .i64 0), .s (.bool false), .s (.slice none 0 0), .s (.slice none 0 0)] [(0, 14, (.t 15))], none⟩,
 ⟨some 17, .call false zay_ [(.t 16), (.c (.s (.string ⟨#[100, 117, 114, 97, 116, 105, 111, 110]⟩))), (.c (.s (.string ⟨#[]⟩)))], none⟩,
 ⟨some 14, .cp (.t 17), none⟩,
 ⟨some 18, .extract (.t 14) 0, none⟩,
 ⟨some 19, .extract (.t 14) 1, none⟩,
 ⟨some 4, .alloc [.s (.int .i64 0), .s (.string ⟨#[]⟩), .s (.int .i64 0)], none⟩,
 ⟨none, .store 3 (.t 4) (.t 18), none⟩,
 ⟨some 5, .cp (.t 19), none⟩] (none))
 (.seq (.region [
 ⟨some 20, .load 14 true (.t 1), none⟩,
 ⟨some 21, .call false zkj_ [(.t 20)], none⟩,
 ⟨some 22, .bin .eql (.t 21) (.c (.s (.int .i64 0))), none⟩,
 ⟨some 23, .cp (.t 22), none⟩,
 ⟨some 24, .cp (.t 3), some (23, true)⟩,
 ⟨some 25, .len false (.t 24), some (23, true)⟩,
 ⟨some 26, .bin .eql (.t 25) (.c (.s (.int .i64 1))), some (23, true)⟩,
 ⟨some 27, .pick (.t 23) (.t 26) (.c (.s (.bool false))), none⟩,
 ⟨some 28, .cp (.t 27), none⟩,
 ⟨some 29, .cp (.t 3), some (28, true)⟩,
 ⟨some 30, .iaddr 14 (.t 29) (.c (.s (.int .i64 0))), some (28, true)⟩,
 ⟨some 31, .faddr (.t 30) 10, some (28, true)⟩,
 ⟨some 32, .load 1 false (.t 31), some (28, true)⟩,
 ⟨some 33, .bin .eql (.t 32) (.c (.s (.int .i64 9))), some (28, true)⟩,
 ⟨some 34, .pick (.t 28) (.t 33) (.c (.s (.bool false))), none⟩,
 ⟨some 35, .cp (.t 34), none⟩,
 ⟨some 36, .cp (.t 5), some (35, true)⟩,
 ⟨some 37, .pick (.t 35) (.t 36) (.c (.s (.bool false))), none⟩,
 ⟨some 38, .cp (.t 37), none⟩,
 ⟨some 39, .load 3 true (.t 4), some (38, true)⟩,
 ⟨some 40, .build false [.s (.int .i64 0), .s (.string ⟨#[]⟩), .s (.int .i64 0)] [(0, 1, (.c (.s (.int .i64 2)))), (2, 1, (.c (.s (.int .i64 5))))], some (38, true)⟩,
 ⟨some 41, .eqv (.a [.i, .t, .i]) false (.t 39) (.t 40), some (38, true)⟩,
 ⟨some 42, .pick (.t 38) (.t 41) (.c (.s (.bool false))), none⟩,
 ⟨some 43, .cp (.t 42), none⟩,
 ⟨some 44, .call false zoh_ [(.c (.s (.int .i64 16777216)))], some (43, true)⟩,
 ⟨some 45, .bin .eql (.t 44) (.c (.s (.int .i64 1))), some (43, true)⟩,
 ⟨some 46, .pick (.t 43) (.t 45) (.c (.s (.bool false))), none⟩,
 ⟨some 47, .cp (.t 46), none⟩,
 ⟨some 48, .call false zod_ [], some (47, true)⟩,
 ⟨some 49, .len false (.t 48), some (47, true)⟩,
 ⟨some 50, .bin .eql (.t 49) (.c (.s (.int .i64 15))), some (47, true)⟩,
 ⟨some 51, .pick (.t 47) (.t 50) (.c (.s (.bool false))), none⟩,
 ⟨some 0, .cp (.t 51), none⟩] (none))
 .ret))))))) }
def zks_ : XF := { np := 1, results := [(.inl 2, .v)], body :=
 (.seq (.region [
 ⟨some 1, .box false (.t 0), none⟩,
 ⟨some 2, .cp (.c (.s (.int .i64 0))), none⟩] (none))
 (.seq (.region [
 ⟨some 3, .alloc [.s (.int .i64 0)], none⟩,
 ⟨none, .store 1 (.t 3) (.c (.s (.int .i64 0))), none⟩] (none))
 (.seq (.region [
 ⟨some 4, .alloc [.s .nilFunc], none⟩] (none))
 (.seq (.region [
 ⟨some 5, .mkfn false zdw_ [] [(.t 3), (.t 4)], none⟩,
 ⟨none, .store 1 (.t 4) (.t 5), none⟩] (none))
 (.seq (.region [
 ⟨some 6, .load 1 false (.t 4), none⟩,
 ⟨some 7, .load 7 true (.t 1), none⟩,
 ⟨some 8, .callv false (.t 6) [(.t 7), (.c (.s (.int .i64 1)))], none⟩,
 ⟨some 2, .cp (.t 8), none⟩] (none))
 .ret))))) }
def zti_ : XC :=
 (.seq (.region [
 ⟨some 10, .bin .lss (.t 9) (.t 8), none⟩] (none))
 (.seq (.cond (.t 10)
 .skip
 (.exit 0))
 (.seq (.block 1
 (.seq (.region [
 ⟨some 11, .iaddr 7 (.t 7) (.t 9), none⟩,
 ⟨some 12, .load 7 true (.t 11), none⟩,
 ⟨some 5, .alloc [.s (.int .i64 0), .s (.string ⟨#[]⟩), .s (.string ⟨#[]⟩), .s (.int .i64 0), .s (.string ⟨#[]⟩), .s (.int .i64 0), .s (.slice none 0 0)], none⟩,
 ⟨none, .store 7 (.t 5) (.t 12), none⟩] (none))
 (.region [
 ⟨some 13, .cp (.t 3), none⟩,
 ⟨some 14, .load 7 true (.t 5), none⟩,
 ⟨some 15, .call false zos_ [(.t 14)], none⟩,
 ⟨some 16, .bin .add (.t 13) (.t 15), none⟩,
 ⟨some 3, .cp (.t 16), none⟩] (none))))
 (.region [
 ⟨some 17, .bin .add (.t 9) (.c (.s (.int .i64 1))), none⟩,
 ⟨some 9, .cp (.t 17), none⟩] (none)))))
def zkt_ : XF := { np := 1, results := [(.inl 2, .v)], body :=
 (.seq (.region [
 ⟨some 1, .box false (.t 0), none⟩,
 ⟨some 2, .cp (.c (.s (.int .i64 0))), none⟩] (none))
 (.seq (.region [
 ⟨some 3, .cp (.c (.s (.int .i64 1))), none⟩] (none))
 (.seq (.seq (.region [
 ⟨some 6, .faddr (.t 1) 6, none⟩,
 ⟨some 7, .load 1 false (.t 6), none⟩,
 ⟨some 8, .len false (.t 7), none⟩,
 ⟨some 9, .cp (.c (.s (.int .i64 0))), none⟩] (none))
 (.block 0
 (.loop zti_)))
 (.seq (.region [
 ⟨some 18, .cp (.t 3), none⟩,
 ⟨some 2, .cp (.t 18), none⟩] (none))
 .ret)))) }
def zpb_ : XC :=
 (.seq (.seq (.region [
 ⟨some 5, .cp (.t 4), none⟩,
 ⟨some 6, .cp (.t 0), none⟩,
 ⟨some 7, .len false (.t 6), none⟩,
 ⟨some 8, .bin .lss (.t 5) (.t 7), none⟩,
 ⟨some 9, .cp (.t 8), none⟩,
 ⟨some 10, .cp (.t 4), some (9, true)⟩,
 ⟨some 11, .bin .lss (.t 10) (.c (.s (.int .i64 12))), some (9, true)⟩,
 ⟨some 12, .pick (.t 9) (.t 11) (.c (.s (.bool false))), none⟩] (none))
 (.cond (.t 12)
 .skip
 (.exit 0)))
 (.seq (.block 1
 (.region [
 ⟨some 15, .cp (.t 3), none⟩,
 ⟨some 16, .cp (.t 0), none⟩,
 ⟨some 17, .cp (.t 4), none⟩,
 ⟨some 18, .iaddr 14 (.t 16) (.t 17), none⟩,
 ⟨some 19, .load 14 true (.t 18), none⟩,
 ⟨some 20, .call false zob_ [(.t 19)], none⟩,
 ⟨some 21, .bslice false 14 [(.t 20)], none⟩,
 ⟨some 22, .append 14 837723144972 (.t 15) (.t 21), none⟩,
 ⟨some 3, .cp (.t 22), none⟩] (none)))
 (.region [
 ⟨some 13, .cp (.t 4), none⟩,
 ⟨some 14, .bin .add (.t 13) (.c (.s (.int .i64 1))), none⟩,
 ⟨some 4, .cp (.t 14), none⟩] (none))))
def zku_ : XF := { np := 1, results := [(.inl 2, .v)], body :=
 (.seq (.region [
 ⟨some 2, .cp (.c (.s (.slice none 0 0))), none⟩] (none))
 (.seq (.region [
 ⟨some 3, .cp (.c (.s (.slice none 0 0))), none⟩] (none))
 (.seq (.seq (.region [
 ⟨some 4, .cp (.c (.s (.int .i64 0))), none⟩] (none))
 (.block 0
 (.loop zpb_)))
 (.seq (.region [
 ⟨some 23, .cp (.t 3), none⟩,
 ⟨some 2, .cp (.t 23), none⟩] (none))
 .ret)))) }
def zkv_ : XF := { np := 0, results := [(.inl 0, .v)], body :=
 (.seq (.region [
 ⟨some 0, .cp (.c (.s (.slice none 0 0))), none⟩] (none))
 (.seq (.region [
 ⟨some 1, .bslice false 1 [(.c (.s (.string ⟨#[99, 108, 111, 99, 107]⟩))), (.c (.s (.string ⟨#[100, 117, 114, 97, 116, 105, 111, 110]⟩))), (.c (.s (.string ⟨#[101, 110, 100]⟩))), (.c (.s (.string ⟨#[101, 114, 114, 111, 114]⟩))), (.c (.s (.string ⟨#[105, 100]⟩))), (.c (.s (.string ⟨#[107, 105, 110, 100]⟩))), (.c (.s (.string ⟨#[111, 112, 101, 114, 97, 116, 105, 111, 110]⟩))), (.c (.s (.string ⟨#[112, 97, 114, 101, 110, 116]⟩))), (.c (.s (.string ⟨#[114, 101, 118, 105, 115, 105, 111, 110]⟩))), (.c (.s (.string ⟨#[114, 111, 111, 116]⟩))), (.c (.s (.string ⟨#[115, 101, 114, 118, 105, 99, 101]⟩))), (.c (.s (.string ⟨#[115, 108, 111, 116]⟩))), (.c (.s (.string ⟨#[115, 116, 97, 114, 116]⟩))), (.c (.s (.string ⟨#[116, 114, 97, 99, 101]⟩))), (.c (.s (.string ⟨#[118, 101, 114, 115, 105, 111, 110]⟩)))], none⟩,
 ⟨some 0, .cp (.t 1), none⟩] (none))
 .ret)) }
def zbp_ : XF := { np := 2, results := [(.inr (4, 3, true), .v)], body :=
 (.seq (.region [
 ⟨some 2, .box false (.t 0), none⟩,
 ⟨some 4, .alloc [.s (.int .i64 0), .s (.string ⟨#[]⟩), .s (.int .i64 0)], none⟩] (none))
 (.seq (.region [
 ⟨some 9, .mkmap, none⟩,
 ⟨some 10, .faddr (.t 2) 6, none⟩,
 ⟨some 11, .load 1 false (.t 10), none⟩,
 ⟨none, .mput .t (.t 9) (.c (.s (.string ⟨#[115, 101, 114, 118, 105, 99, 101]⟩))) (.t 11), none⟩,
 ⟨some 12, .faddr (.t 2) 7, none⟩,
 ⟨some 13, .load 1 false (.t 12), none⟩,
 ⟨none, .mput .t (.t 9) (.c (.s (.string ⟨#[118, 101, 114, 115, 105, 111, 110]⟩))) (.t 13), none⟩,
 ⟨some 14, .faddr (.t 2) 8, none⟩,
 ⟨some 15, .load 1 false (.t 14), none⟩,
 ⟨none, .mput .t (.t 9) (.c (.s (.string ⟨#[111, 112, 101, 114, 97, 116, 105, 111, 110]⟩))) (.t 15), none⟩,
 ⟨some 16, .cp (.t 9), none⟩,
 ⟨some 5, .cp (.t 16), none⟩] (none))
 (.seq (.seq (.region [
 ⟨some 18, .cp (.t 5), none⟩,
 ⟨some 19, .cp (.t 1), none⟩,
 ⟨some 20, .mget .t true (.s (.string ⟨#[]⟩)) (.t 18) (.t 19), none⟩,
 ⟨some 17, .cp (.t 20), none⟩,
 ⟨some 21, .extract (.t 17) 0, none⟩,
 ⟨some 22, .extract (.t 17) 1, none⟩,
 ⟨some 6, .cp (.t 21), none⟩,
 ⟨some 7, .cp (.t 22), none⟩] (none))
 (.seq (.region [
 ⟨some 23, .cp (.t 7), none⟩] (none))
 (.cond (.t 23)
 (.seq (.region [
 ⟨some 24, .cp (.t 6), none⟩,
 ⟨some 25, .build false [.s (.int .i64 0), .s (.string ⟨#[]⟩), .s (.int .i64 0)] [(0, 1, (.c (.s (.int .i64 1)))), (1, 1, (.t 24))], none⟩,
 ⟨none, .store 3 (.t 4) (.t 25), none⟩] (none))
 .ret)
 .skip)))
 (.seq (.seq (.region [
 ⟨some 26, .cp (.t 1), none⟩] (none))
 (.block 0
 (.seq (.region [
 ⟨some 28, .bin .eql (.t 26) (.c (.s (.string ⟨#[107, 105, 110, 100]⟩))), none⟩,
 ⟨some 27, .cp (.t 28), none⟩] (none))
 (.cond (.t 27)
 (.seq (.region [
 ⟨some 29, .call false zsg_ [], none⟩,
 ⟨some 30, .faddr (.t 2) 5, none⟩,
 ⟨some 31, .load 1 false (.t 30), none⟩,
 ⟨some 32, .bin .sub (.t 31) (.c (.s (.int .i64 1))), none⟩,
 ⟨some 33, .iaddr 1 (.t 29) (.t 32), none⟩,
 ⟨some 34, .load 1 false (.t 33), none⟩,
 ⟨some 35, .build false [.s (.int .i64 0), .s (.string ⟨#[]⟩), .s (.int .i64 0)] [(0, 1, (.c (.s (.int .i64 1)))), (1, 1, (.t 34))], none⟩,
 ⟨none, .store 3 (.t 4) (.t 35), none⟩] (some [(0, some 2)]))
 .ret)
 (.seq (.region [
 ⟨some 37, .bin .eql (.t 26) (.c (.s (.string ⟨#[101, 114, 114, 111, 114]⟩))), none⟩,
 ⟨some 36, .cp (.t 37), none⟩] (none))
 (.cond (.t 36)
 (.seq (.region [
 ⟨some 38, .faddr (.t 2) 11, none⟩,
 ⟨some 39, .load 1 false (.t 38), none⟩,
 ⟨some 40, .call false ziu_ [(.t 39)], none⟩,
 ⟨some 41, .build false [.s (.int .i64 0), .s (.string ⟨#[]⟩), .s (.int .i64 0)] [(0, 1, (.c (.s (.int .i64 3)))), (2, 1, (.t 40))], none⟩,
 ⟨none, .store 3 (.t 4) (.t 41), none⟩] (none))
 .ret)
 (.seq (.region [
 ⟨some 43, .bin .eql (.t 26) (.c (.s (.string ⟨#[114, 111, 111, 116]⟩))), none⟩,
 ⟨some 42, .cp (.t 43), none⟩] (none))
 (.cond (.t 42)
 (.seq (.region [
 ⟨some 44, .faddr (.t 2) 2, none⟩,
 ⟨some 45, .load 1 false (.t 44), none⟩,
 ⟨some 46, .bin .eql (.t 45) (.c (.s (.int .i64 0))), none⟩,
 ⟨some 47, .call false ziu_ [(.t 46)], none⟩,
 ⟨some 48, .build false [.s (.int .i64 0), .s (.string ⟨#[]⟩), .s (.int .i64 0)] [(0, 1, (.c (.s (.int .i64 3)))), (2, 1, (.t 47))], none⟩,
 ⟨none, .store 3 (.t 4) (.t 48), none⟩] (none))
 .ret)
 .skip))))))))
 (.seq (.region [
 ⟨some 49, .mkmap, none⟩,
 ⟨some 50, .faddr (.t 2) 0, none⟩,
 ⟨some 51, .load 1 false (.t 50), none⟩,
 ⟨none, .mput .t (.t 49) (.c (.s (.string ⟨#[116, 114, 97, 99, 101]⟩))) (.t 51), none⟩,
 ⟨some 52, .faddr (.t 2) 1, none⟩,
 ⟨some 53, .load 1 false (.t 52), none⟩,
 ⟨none, .mput .t (.t 49) (.c (.s (.string ⟨#[105, 100]⟩))) (.t 53), none⟩,
 ⟨some 54, .faddr (.t 2) 2, none⟩,
 ⟨some 55, .load 1 false (.t 54), none⟩,
 ⟨none, .mput .t (.t 49) (.c (.s (.string ⟨#[112, 97, 114, 101, 110, 116]⟩))) (.t 55), none⟩,
 ⟨some 56, .faddr (.t 2) 3, none⟩,
 ⟨some 57, .load 1 false (.t 56), none⟩,
 ⟨none, .mput .t (.t 49) (.c (.s (.string ⟨#[114, 101, 118, 105, 115, 105, 111, 110]⟩))) (.t 57), none⟩,
 ⟨some 58, .faddr (.t 2) 4, none⟩,
 ⟨some 59, .load 1 false (.t 58), none⟩,
 ⟨none, .mput .t (.t 49) (.c (.s (.string ⟨#[99, 108, 111, 99, 107]⟩))) (.t 59), none⟩,
 ⟨some 60, .faddr (.t 2) 9, none⟩,
 ⟨some 61, .load 1 false (.t 60), none⟩,
 ⟨none, .mput .t (.t 49) (.c (.s (.string ⟨#[115, 116, 97, 114, 116]⟩))) (.t 61), none⟩,
 ⟨some 62, .faddr (.t 2) 10, none⟩,
 ⟨some 63, .load 1 false (.t 62), none⟩,
 ⟨none, .mput .t (.t 49) (.c (.s (.string ⟨#[101, 110, 100]⟩))) (.t 63), none⟩,
 ⟨some 64, .faddr (.t 2) 10, none⟩,
 ⟨some 65, .load 1 false (.t 64), none⟩,
 ⟨some 66, .faddr (.t 2) 9, none⟩,
 ⟨some 67, .load 1 false (.t 66), none⟩,
 ⟨some 68, .bin .sub (.t 65) (.t 67), none⟩,
 ⟨none, .mput .t (.t 49) (.c (.s (.string ⟨#[100, 117, 114, 97, 116, 105, 111, 110]⟩))) (.t 68), none⟩,
 ⟨some 69, .faddr (.t 2) 0, none⟩,
 ⟨some 70, .load 1 false (.t 69), none⟩,
 ⟨some 71, .bin .quo (.t 70) (.c (.s (.int .i64 1048576))), none⟩,
 ⟨none, .mput .t (.t 49) (.c (.s (.string ⟨#[115, 108, 111, 116]⟩))) (.t 71), none⟩,
 ⟨some 72, .cp (.t 49), none⟩,
 ⟨some 8, .cp (.t 72), none⟩] (none))
 (.seq (.region [
 ⟨some 73, .cp (.t 8), none⟩,
 ⟨some 74, .cp (.t 1), none⟩,
 ⟨some 75, .mget .t false (.s (.int .i64 0)) (.t 73) (.t 74), none⟩,
 ⟨some 76, .build false [.s (.int .i64 0), .s (.string ⟨#[]⟩), .s (.int .i64 0)] [(0, 1, (.c (.s (.int .i64 2)))), (2, 1, (.t 75))], none⟩,
 ⟨none, .store 3 (.t 4) (.t 76), none⟩] (none))
 .ret)))))) }
def zdr_ : XF := { np := 2, results := [(.inl 4, .v)], body :=
 (.seq (.region [
 ⟨some 2, .box false (.t 0), none⟩,
 ⟨some 3, .box false (.t 1), none⟩,
 ⟨some 4, .cp (.c (.s (.bool false))), none⟩] (none))
 (.seq (.region [
 ⟨some 10, .mkfn false zdq_ [] [(.t 3)], none⟩,
 ⟨some 5, .alloc [.s .nilFunc], none⟩,
 ⟨none, .store 1 (.t 5) (.t 10), none⟩] (none))
 (.seq (.seq (.region [
 ⟨some 11, .faddr (.t 2) 0, none⟩,
 ⟨some 12, .load 1 false (.t 11), none⟩] (none))
 (.block 0
 (.seq (.region [
 ⟨some 14, .bin .eql (.t 12) (.c (.s (.int .i64 0))), none⟩,
 ⟨some 13, .cp (.t 14), none⟩] (none))
 (.cond (.t 13)
 (.seq (.region [
 ⟨some 4, .cp (.c (.s (.bool true))), none⟩] (none))
 .ret)
 (.seq (.region [
 ⟨some 16, .bin .eql (.t 12) (.c (.s (.int .i64 1))), none⟩,
 ⟨some 15, .cp (.t 16), none⟩] (none))
 (.cond (.t 15)
 (.seq (.region [
 ⟨some 17, .faddr (.t 2) 6, none⟩,
 ⟨some 18, .load 1 false (.t 17), none⟩,
 ⟨some 19, .mkfn false zov_ [] [(.t 5)], none⟩,
 ⟨some 20, .call false zou_ [(.t 18), (.t 19)], none⟩,
 ⟨some 21, .un .not (.t 20), none⟩,
 ⟨some 4, .cp (.t 21), none⟩] (none))
 .ret)
 (.seq (.region [
 ⟨some 23, .bin .eql (.t 12) (.c (.s (.int .i64 2))), none⟩,
 ⟨some 22, .cp (.t 23), none⟩] (none))
 (.cond (.t 22)
 (.seq (.region [
 ⟨some 24, .faddr (.t 2) 6, none⟩,
 ⟨some 25, .load 1 false (.t 24), none⟩,
 ⟨some 26, .load 1 false (.t 5), none⟩,
 ⟨some 27, .call false zou_ [(.t 25), (.t 26)], none⟩,
 ⟨some 4, .cp (.t 27), none⟩] (none))
 .ret)
 (.seq (.region [
 ⟨some 29, .bin .eql (.t 12) (.c (.s (.int .i64 3))), none⟩,
 ⟨some 28, .cp (.t 29), none⟩] (none))
 (.cond (.t 28)
 (.seq (.region [
 ⟨some 30, .load 1 false (.t 5), none⟩,
 ⟨some 31, .faddr (.t 2) 6, none⟩,
 ⟨some 32, .load 1 false (.t 31), none⟩,
 ⟨some 33, .iaddr 7 (.t 32) (.c (.s (.int .i64 0))), none⟩,
 ⟨some 34, .load 7 true (.t 33), none⟩,
 ⟨some 35, .callv false (.t 30) [(.t 34)], none⟩,
 ⟨some 36, .un .not (.t 35), none⟩,
 ⟨some 4, .cp (.t 36), none⟩] (some []))
 .ret)
 (.seq (.region [
 ⟨some 38, .bin .eql (.t 12) (.c (.s (.int .i64 4))), none⟩,
 ⟨some 37, .cp (.t 38), none⟩] (none))
 (.cond (.t 37)
 (.seq (.region [
 ⟨some 40, .load 1 false (.t 3), none⟩,
 ⟨some 41, .faddr (.t 2) 2, none⟩,
 ⟨some 42, .load 1 false (.t 41), none⟩,
 ⟨some 43, .calli false [(zix_, zay_), (zhn_, ziw_)] (.t 40) [(.c (.s (.string ⟨#[97, 116, 116, 114]⟩))), (.t 42)], none⟩,
 ⟨some 39, .cp (.t 43), none⟩,
 ⟨some 44, .extract (.t 39) 0, none⟩,
 ⟨some 45, .extract (.t 39) 1, none⟩,
 ⟨some 6, .alloc [.s (.int .i64 0), .s (.string ⟨#[]⟩), .s (.int .i64 0)], none⟩,
 ⟨none, .store 3 (.t 6) (.t 44), none⟩,
 ⟨some 7, .cp (.t 45), none⟩] (none))
 (.seq (.region [
 ⟨some 46, .cp (.t 7), none⟩,
 ⟨some 4, .cp (.t 46), none⟩] (none))
 .ret))
 .skip))))))))))))
 (.seq (.region [
 ⟨some 48, .load 1 false (.t 3), none⟩,
 ⟨some 49, .faddr (.t 2) 1, none⟩,
 ⟨some 50, .load 1 false (.t 49), none⟩,
 ⟨some 51, .faddr (.t 2) 2, none⟩,
 ⟨some 52, .load 1 false (.t 51), none⟩,
 ⟨some 53, .calli false [(zix_, zay_), (zhn_, ziw_)] (.t 48) [(.t 50), (.t 52)], none⟩,
 ⟨some 47, .cp (.t 53), none⟩,
 ⟨some 54, .extract (.t 47) 0, none⟩,
 ⟨some 55, .extract (.t 47) 1, none⟩,
 ⟨some 8, .alloc [.s (.int .i64 0), .s (.string ⟨#[]⟩), .s (.int .i64 0)], none⟩,
 ⟨none, .store 3 (.t 8) (.t 54), none⟩,
 ⟨some 9, .cp (.t 55), none⟩] (none))
 (.seq (.region [
 ⟨some 56, .cp (.t 9), none⟩,
 ⟨some 57, .cp (.t 56), none⟩,
 ⟨some 58, .load 7 true (.t 2), some (57, true)⟩,
 ⟨some 59, .load 3 true (.t 8), some (57, true)⟩,
 ⟨some 60, .call false zkp_ [(.t 58), (.t 59)], some (57, true)⟩,
 ⟨some 61, .pick (.t 57) (.t 60) (.c (.s (.bool false))), none⟩,
 ⟨some 4, .cp (.t 61), none⟩] (none))
 .ret))))) }
def zkw_ : XF := { np := 2, results := [(.inl 4, .v)], body :=
 (.seq (.region [
 ⟨some 2, .box false (.t 0), none⟩,
 ⟨some 3, .box false (.t 1), none⟩,
 ⟨some 4, .cp (.c (.s (.bool false))), none⟩] (none))
 (.seq (.region [
 ⟨some 5, .load 7 true (.t 2), none⟩,
 ⟨some 6, .load 14 true (.t 3), none⟩,
 ⟨some 7, .build false [.s (.int .i64 0), .s (.int .i64 0), .s (.int .i64 0), .s (.int .i64 0), .s (.int .i64 0), .s (.int .i64 0), .s (.string ⟨#[]⟩), .s (.string ⟨#[]⟩), .s (.string ⟨#[]⟩), .s (.int .i64 0), .s (.int .i64 0), .s (.bool false), .s (.slice none 0 0), .s (.slice none 0 0)] [(0, 14, (.t 6))], none⟩,
 ⟨some 8, .mkifc zix_ (.t 7), none⟩,
 ⟨some 9, .call false zgl_ [(.t 5), (.t 8)], none⟩,
 ⟨some 4, .cp (.t 9), none⟩] (none))
 .ret)) }
def zpc_ : XC :=
 (.seq (.seq (.region [
 ⟨some 11, .cp (.t 5), none⟩,
 ⟨some 12, .cp (.t 0), none⟩,
 ⟨some 13, .len false (.t 12), none⟩,
 ⟨some 14, .bin .lss (.t 11) (.t 13), none⟩] (none))
 (.cond (.t 14)
 .skip
 (.exit 0)))
 (.seq (.block 1
 (.seq (.region [
 ⟨some 17, .cp (.t 0), none⟩,
 ⟨some 18, .cp (.t 5), none⟩,
 ⟨some 19, .iaddr 14 (.t 17) (.t 18), none⟩,
 ⟨some 20, .load 14 true (.t 19), none⟩,
 ⟨some 21, .cp (.t 1), none⟩,
 ⟨some 22, .cp (.t 5), none⟩,
 ⟨some 23, .iaddr 14 (.t 21) (.t 22), none⟩,
 ⟨some 24, .load 14 true (.t 23), none⟩,
 ⟨some 25, .call false zsc_ [(.t 20), (.t 24)], none⟩,
 ⟨some 26, .bin .neq (.t 25) (.c (.s (.int .i64 0))), none⟩] (some []))
 (.cond (.t 26)
 (.seq (.region [
 ⟨some 4, .cp (.c (.s (.bool false))), none⟩] (none))
 .ret)
 .skip)))
 (.region [
 ⟨some 15, .cp (.t 5), none⟩,
 ⟨some 16, .bin .add (.t 15) (.c (.s (.int .i64 1))), none⟩,
 ⟨some 5, .cp (.t 16), none⟩] (none))))
def ziy_ : XF := { np := 2, results := [(.inl 4, .v)], body :=
 (.seq (.region [
 ⟨some 4, .cp (.c (.s (.bool false))), none⟩] (none))
 (.seq (.seq (.region [
 ⟨some 6, .cp (.t 0), none⟩,
 ⟨some 7, .len false (.t 6), none⟩,
 ⟨some 8, .cp (.t 1), none⟩,
 ⟨some 9, .len false (.t 8), none⟩,
 ⟨some 10, .bin .neq (.t 7) (.t 9), none⟩] (none))
 (.cond (.t 10)
 (.seq (.region [
 ⟨some 4, .cp (.c (.s (.bool false))), none⟩] (none))
 .ret)
 .skip))
 (.seq (.seq (.region [
 ⟨some 5, .cp (.c (.s (.int .i64 0))), none⟩] (none))
 (.block 0
 (.loop zpc_)))
 (.seq (.region [
 ⟨some 4, .cp (.c (.s (.bool true))), none⟩] (none))
 .ret)))) }
def ziz_ : XF := { np := 2, results := [(.inl 4, .v)], body :=
 (.seq (.region [
 ⟨some 2, .box false (.t 0), none⟩,
 ⟨some 3, .box false (.t 1), none⟩,
 ⟨some 4, .cp (.c (.s (.slice none 0 0))), none⟩] (none))
 (.seq (.region [
 ⟨some 5, .load 1 false (.t 3), none⟩,
 ⟨some 6, .mkfn false zoy_ [] [(.t 2), (.t 3)], none⟩,
 ⟨some 7, .call false zkl_ [(.t 5), (.t 6)], none⟩,
 ⟨some 4, .cp (.t 7), none⟩] (none))
 .ret)) }
def zkx_ : XC :=
 (.seq (.seq (.region [
 ⟨some 74, .cp (.t 6), none⟩,
 ⟨some 75, .faddr (.t 2) 12, none⟩,
 ⟨some 76, .load 1 false (.t 75), none⟩,
 ⟨some 77, .len false (.t 76), none⟩,
 ⟨some 78, .bin .lss (.t 74) (.t 77), none⟩,
 ⟨some 79, .cp (.t 78), none⟩,
 ⟨some 80, .cp (.t 6), some (79, true)⟩,
 ⟨some 81, .faddr (.t 3) 12, some (79, true)⟩,
 ⟨some 82, .load 1 false (.t 81), some (79, true)⟩,
 ⟨some 83, .len false (.t 82), some (79, true)⟩,
 ⟨some 84, .bin .lss (.t 80) (.t 83), some (79, true)⟩,
 ⟨some 85, .pick (.t 79) (.t 84) (.c (.s (.bool false))), none⟩] (none))
 (.cond (.t 85)
 .skip
 (.exit 0)))
 (.seq (.block 1
 (.seq (.region [
 ⟨some 88, .faddr (.t 2) 12, none⟩,
 ⟨some 89, .load 1 false (.t 88), none⟩,
 ⟨some 90, .cp (.t 6), none⟩,
 ⟨some 91, .iaddr 4 (.t 89) (.t 90), none⟩,
 ⟨some 92, .load 4 true (.t 91), none⟩,
 ⟨some 93, .faddr (.t 3) 12, none⟩,
 ⟨some 94, .load 1 false (.t 93), none⟩,
 ⟨some 95, .cp (.t 6), none⟩,
 ⟨some 96, .iaddr 4 (.t 94) (.t 95), none⟩,
 ⟨some 97, .load 4 true (.t 96), none⟩,
 ⟨some 7, .alloc [.s (.string ⟨#[]⟩), .s (.int .i64 0), .s (.string ⟨#[]⟩), .s (.int .i64 0)], none⟩,
 ⟨some 8, .alloc [.s (.string ⟨#[]⟩), .s (.int .i64 0), .s (.string ⟨#[]⟩), .s (.int .i64 0)], none⟩,
 ⟨none, .store 4 (.t 7) (.t 92), none⟩,
 ⟨none, .store 4 (.t 8) (.t 97), none⟩] (some [(10, some 1), (10, some 3), (10, some 4), (10, some 6), (10, some 8), (10, some 9), (11, some 1), (11, some 3), (11, some 4), (11, some 6), (11, some 8), (11, some 9), (12, some 6), (12, some 8), (12, some 9)]))
 (.region [
 ⟨some 98, .cp (.t 5), none⟩,
 ⟨some 99, .faddr (.t 7) 0, none⟩,
 ⟨some 100, .load 1 false (.t 99), none⟩,
 ⟨some 101, .faddr (.t 8) 0, none⟩,
 ⟨some 102, .load 1 false (.t 101), none⟩,
 ⟨some 103, .call false zhm_ [(.t 100), (.t 102)], none⟩,
 ⟨some 104, .faddr (.t 7) 1, none⟩,
 ⟨some 105, .faddr (.t 104) 0, none⟩,
 ⟨some 106, .load 1 false (.t 105), none⟩,
 ⟨some 107, .faddr (.t 8) 1, none⟩,
 ⟨some 108, .faddr (.t 107) 0, none⟩,
 ⟨some 109, .load 1 false (.t 108), none⟩,
 ⟨some 110, .call false zbz_ [(.t 106), (.t 109)], none⟩,
 ⟨some 111, .faddr (.t 7) 1, none⟩,
 ⟨some 112, .faddr (.t 111) 1, none⟩,
 ⟨some 113, .load 1 false (.t 112), none⟩,
 ⟨some 114, .faddr (.t 8) 1, none⟩,
 ⟨some 115, .faddr (.t 114) 1, none⟩,
 ⟨some 116, .load 1 false (.t 115), none⟩,
 ⟨some 117, .call false zhm_ [(.t 113), (.t 116)], none⟩,
 ⟨some 118, .faddr (.t 7) 1, none⟩,
 ⟨some 119, .faddr (.t 118) 2, none⟩,
 ⟨some 120, .load 1 false (.t 119), none⟩,
 ⟨some 121, .faddr (.t 8) 1, none⟩,
 ⟨some 122, .faddr (.t 121) 2, none⟩,
 ⟨some 123, .load 1 false (.t 122), none⟩,
 ⟨some 124, .call false zbz_ [(.t 120), (.t 123)], none⟩,
 ⟨some 125, .bslice false 1 [(.t 103), (.t 110), (.t 117), (.t 124)], none⟩,
 ⟨some 126, .append 1 17592186044416 (.t 98) (.t 125), none⟩,
 ⟨some 5, .cp (.t 126), none⟩] (some [(5, none), (12, none), (19, some 22), (19, some 25)]))))
 (.region [
 ⟨some 86, .cp (.t 6), none⟩,
 ⟨some 87, .bin .add (.t 86) (.c (.s (.int .i64 1))), none⟩,
 ⟨some 6, .cp (.t 87), none⟩] (none))))
def zky_ : XC :=
 (.seq (.seq (.region [
 ⟨some 137, .cp (.t 9), none⟩,
 ⟨some 138, .faddr (.t 2) 13, none⟩,
 ⟨some 139, .load 1 false (.t 138), none⟩,
 ⟨some 140, .len false (.t 139), none⟩,
 ⟨some 141, .bin .lss (.t 137) (.t 140), none⟩,
 ⟨some 142, .cp (.t 141), none⟩,
 ⟨some 143, .cp (.t 9), some (142, true)⟩,
 ⟨some 144, .faddr (.t 3) 13, some (142, true)⟩,
 ⟨some 145, .load 1 false (.t 144), some (142, true)⟩,
 ⟨some 146, .len false (.t 145), some (142, true)⟩,
 ⟨some 147, .bin .lss (.t 143) (.t 146), some (142, true)⟩,
 ⟨some 148, .pick (.t 142) (.t 147) (.c (.s (.bool false))), none⟩] (none))
 (.cond (.t 148)
 .skip
 (.exit 2)))
 (.seq (.block 3
 (.region [
 ⟨some 151, .cp (.t 5), none⟩,
 ⟨some 152, .faddr (.t 2) 13, none⟩,
 ⟨some 153, .load 1 false (.t 152), none⟩,
 ⟨some 154, .cp (.t 9), none⟩,
 ⟨some 155, .iaddr 2 (.t 153) (.t 154), none⟩,
 ⟨some 156, .load 2 true (.t 155), none⟩,
 ⟨some 157, .faddr (.t 3) 13, none⟩,
 ⟨some 158, .load 1 false (.t 157), none⟩,
 ⟨some 159, .cp (.t 9), none⟩,
 ⟨some 160, .iaddr 2 (.t 158) (.t 159), none⟩,
 ⟨some 161, .load 2 true (.t 160), none⟩,
 ⟨some 162, .call false zsd_ [(.t 156), (.t 161)], none⟩,
 ⟨some 163, .bslice false 1 [(.t 162)], none⟩,
 ⟨some 164, .append 1 17592186044416 (.t 151) (.t 163), none⟩,
 ⟨some 5, .cp (.t 164), none⟩] (some [])))
 (.region [
 ⟨some 149, .cp (.t 9), none⟩,
 ⟨some 150, .bin .add (.t 149) (.c (.s (.int .i64 1))), none⟩,
 ⟨some 9, .cp (.t 150), none⟩] (none))))
def zkz_ : XC :=
 (.seq (.seq (.region [
 ⟨some 175, .cp (.t 10), none⟩,
 ⟨some 176, .cp (.t 5), none⟩,
 ⟨some 177, .len false (.t 176), none⟩,
 ⟨some 178, .bin .lss (.t 175) (.t 177), none⟩] (none))
 (.cond (.t 178)
 .skip
 (.exit 4)))
 (.seq (.block 5
 (.seq (.region [
 ⟨some 181, .cp (.t 5), none⟩,
 ⟨some 182, .cp (.t 10), none⟩,
 ⟨some 183, .iaddr 1 (.t 181) (.t 182), none⟩,
 ⟨some 184, .load 1 false (.t 183), none⟩,
 ⟨some 185, .bin .neq (.t 184) (.c (.s (.int .i64 0))), none⟩] (none))
 (.cond (.t 185)
 (.seq (.region [
 ⟨some 186, .cp (.t 5), none⟩,
 ⟨some 187, .cp (.t 10), none⟩,
 ⟨some 188, .iaddr 1 (.t 186) (.t 187), none⟩,
 ⟨some 189, .load 1 false (.t 188), none⟩,
 ⟨some 4, .cp (.t 189), none⟩] (none))
 .ret)
 .skip)))
 (.region [
 ⟨some 179, .cp (.t 10), none⟩,
 ⟨some 180, .bin .add (.t 179) (.c (.s (.int .i64 1))), none⟩,
 ⟨some 10, .cp (.t 180), none⟩] (none))))
def zla_ : XF := { np := 2, results := [(.inl 4, .v)], body :=
 (.seq (.region [
 ⟨some 2, .box false (.t 0), none⟩,
 ⟨some 3, .box false (.t 1), none⟩,
 ⟨some 4, .cp (.c (.s (.int .i64 0))), none⟩] (none))
 (.seq (.region [
 ⟨some 11, .faddr (.t 2) 0, none⟩,
 ⟨some 12, .load 1 false (.t 11), none⟩,
 ⟨some 13, .faddr (.t 3) 0, none⟩,
 ⟨some 14, .load 1 false (.t 13), none⟩,
 ⟨some 15, .call false zbz_ [(.t 12), (.t 14)], none⟩,
 ⟨some 16, .faddr (.t 2) 1, none⟩,
 ⟨some 17, .load 1 false (.t 16), none⟩,
 ⟨some 18, .faddr (.t 3) 1, none⟩,
 ⟨some 19, .load 1 false (.t 18), none⟩,
 ⟨some 20, .call false zbz_ [(.t 17), (.t 19)], none⟩,
 ⟨some 21, .faddr (.t 2) 3, none⟩,
 ⟨some 22, .load 1 false (.t 21), none⟩,
 ⟨some 23, .faddr (.t 3) 3, none⟩,
 ⟨some 24, .load 1 false (.t 23), none⟩,
 ⟨some 25, .call false zbz_ [(.t 22), (.t 24)], none⟩,
 ⟨some 26, .faddr (.t 2) 2, none⟩,
 ⟨some 27, .load 1 false (.t 26), none⟩,
 ⟨some 28, .faddr (.t 3) 2, none⟩,
 ⟨some 29, .load 1 false (.t 28), none⟩,
 ⟨some 30, .call false zbz_ [(.t 27), (.t 29)], none⟩,
 ⟨some 31, .faddr (.t 2) 4, none⟩,
 ⟨some 32, .load 1 false (.t 31), none⟩,
 ⟨some 33, .faddr (.t 3) 4, none⟩,
 ⟨some 34, .load 1 false (.t 33), none⟩,
 ⟨some 35, .call false zbz_ [(.t 32), (.t 34)], none⟩,
 ⟨some 36, .faddr (.t 2) 5, none⟩,
 ⟨some 37, .load 1 false (.t 36), none⟩,
 ⟨some 38, .faddr (.t 3) 5, none⟩,
 ⟨some 39, .load 1 false (.t 38), none⟩,
 ⟨some 40, .call false zbz_ [(.t 37), (.t 39)], none⟩,
 ⟨some 41, .faddr (.t 2) 6, none⟩,
 ⟨some 42, .load 1 false (.t 41), none⟩,
 ⟨some 43, .faddr (.t 3) 6, none⟩,
 ⟨some 44, .load 1 false (.t 43), none⟩,
 ⟨some 45, .call false zhm_ [(.t 42), (.t 44)], none⟩,
 ⟨some 46, .faddr (.t 2) 7, none⟩,
 ⟨some 47, .load 1 false (.t 46), none⟩,
 ⟨some 48, .faddr (.t 3) 7, none⟩,
 ⟨some 49, .load 1 false (.t 48), none⟩,
 ⟨some 50, .call false zhm_ [(.t 47), (.t 49)], none⟩,
 ⟨some 51, .faddr (.t 2) 8, none⟩,
 ⟨some 52, .load 1 false (.t 51), none⟩,
 ⟨some 53, .faddr (.t 3) 8, none⟩,
 ⟨some 54, .load 1 false (.t 53), none⟩,
 ⟨some 55, .call false zhm_ [(.t 52), (.t 54)], none⟩,
 ⟨some 56, .faddr (.t 2) 9, none⟩,
 ⟨some 57, .load 1 false (.t 56), none⟩,
 ⟨some 58, .faddr (.t 3) 9, none⟩,
 ⟨some 59, .load 1 false (.t 58), none⟩,
 ⟨some 60, .call false zbz_ [(.t 57), (.t 59)], none⟩,
 ⟨some 61, .faddr (.t 2) 10, none⟩,
 ⟨some 62, .load 1 false (.t 61), none⟩,
 ⟨some 63, .faddr (.t 3) 10, none⟩,
 ⟨some 64, .load 1 false (.t 63), none⟩,
 ⟨some 65, .call false zbz_ [(.t 62), (.t 64)], none⟩,
 ⟨some 66, .faddr (.t 2) 11, none⟩,
 ⟨some 67, .load 1 false (.t 66), none⟩,
 ⟨some 68, .call false ziu_ [(.t 67)], none⟩,
 ⟨some 69, .faddr (.t 3) 11, none⟩,
 ⟨some 70, .load 1 false (.t 69), none⟩,
 ⟨some 71, .call false ziu_ [(.t 70)], none⟩,
 ⟨some 72, .call false zbz_ [(.t 68), (.t 71)], none⟩,
 ⟨some 73, .bslice true 1 [(.t 15), (.t 20), (.t 25), (.t 30), (.t 35), (.t 40), (.t 45), (.t 50), (.t 55), (.t 60), (.t 65), (.t 72)], none⟩,
 ⟨some 5, .cp (.t 73), none⟩] (some [(4, none), (9, none), (14, none), (19, none), (24, none), (29, none), (34, none), (39, none), (44, none), (49, none), (54, some 56), (54, some 59), (57, some 59)]))
 (.seq (.seq (.region [
 ⟨some 6, .cp (.c (.s (.int .i64 0))), none⟩] (none))
 (.block 0
 (.loop zkx_)))
 (.seq (.region [
 ⟨some 127, .cp (.t 5), none⟩,
 ⟨some 128, .faddr (.t 2) 12, none⟩,
 ⟨some 129, .load 1 false (.t 128), none⟩,
 ⟨some 130, .len false (.t 129), none⟩,
 ⟨some 131, .faddr (.t 3) 12, none⟩,
 ⟨some 132, .load 1 false (.t 131), none⟩,
 ⟨some 133, .len false (.t 132), none⟩,
 ⟨some 134, .call false zbz_ [(.t 130), (.t 133)], none⟩,
 ⟨some 135, .bslice false 1 [(.t 134)], none⟩,
 ⟨some 136, .append 1 17592186044416 (.t 127) (.t 135), none⟩,
 ⟨some 5, .cp (.t 136), none⟩] (none))
 (.seq (.seq (.region [
 ⟨some 9, .cp (.c (.s (.int .i64 0))), none⟩] (none))
 (.block 2
 (.loop zky_)))
 (.seq (.region [
 ⟨some 165, .cp (.t 5), none⟩,
 ⟨some 166, .faddr (.t 2) 13, none⟩,
 ⟨some 167, .load 1 false (.t 166), none⟩,
 ⟨some 168, .len false (.t 167), none⟩,
 ⟨some 169, .faddr (.t 3) 13, none⟩,
 ⟨some 170, .load 1 false (.t 169), none⟩,
 ⟨some 171, .len false (.t 170), none⟩,
 ⟨some 172, .call false zbz_ [(.t 168), (.t 171)], none⟩,
 ⟨some 173, .bslice false 1 [(.t 172)], none⟩,
 ⟨some 174, .append 1 17592186044416 (.t 165) (.t 173), none⟩,
 ⟨some 5, .cp (.t 174), none⟩] (none))
 (.seq (.seq (.region [
 ⟨some 10, .cp (.c (.s (.int .i64 0))), none⟩] (none))
 (.block 4
 (.loop zkz_)))
 (.seq (.region [
 ⟨some 4, .cp (.c (.s (.int .i64 0))), none⟩] (none))
 .ret)))))))) }
def zlb_ : XF := { np := 1, results := [(.inl 2, .v)], body :=
 (.seq (.region [
 ⟨some 2, .cp (.c (.s (.slice none 0 0))), none⟩] (none))
 (.seq (.region [
 ⟨some 4, .cp (.t 0), none⟩,
 ⟨some 5, .call false zol_ [(.t 4)], none⟩,
 ⟨some 3, .alloc [.s (.slice none 0 0)], none⟩,
 ⟨none, .store 1 (.t 3) (.t 5), none⟩] (none))
 (.seq (.region [
 ⟨some 6, .load 1 false (.t 3), none⟩,
 ⟨some 7, .mkfn false zon_ [] [(.t 3)], none⟩,
 ⟨some 8, .call false zkl_ [(.t 6), (.t 7)], none⟩,
 ⟨some 2, .cp (.t 8), none⟩] (none))
 .ret))) }
def zbc_ : XF := { np := 3, results := [(.inr (6, 3, true), .v), (.inl 7, .v)], body :=
 (.seq (.region [
 ⟨some 3, .box false (.t 0), none⟩,
 ⟨some 6, .alloc [.s (.int .i64 0), .s (.string ⟨#[]⟩), .s (.int .i64 0)], none⟩,
 ⟨some 7, .cp (.c (.s (.bool false))), none⟩] (none))
 (.seq (.seq (.region [
 ⟨some 11, .cp (.t 1), none⟩,
 ⟨some 12, .bin .eql (.t 11) (.c (.s (.string ⟨#[97, 116, 116, 114]⟩))), none⟩] (none))
 (.cond (.t 12)
 (.seq (.region [
 ⟨some 13, .faddr (.t 3) 0, none⟩,
 ⟨some 14, .faddr (.t 13) 12, none⟩,
 ⟨some 15, .load 1 false (.t 14), none⟩,
 ⟨some 16, .cp (.t 2), none⟩,
 ⟨some 17, .call false zof_ [(.t 15), (.t 16)], none⟩,
 ⟨some 18, .extract (.t 17) 0, none⟩,
 ⟨some 19, .extract (.t 17) 1, none⟩,
 ⟨none, .store 3 (.t 6) (.t 18), none⟩,
 ⟨some 7, .cp (.t 19), none⟩] (none))
 .ret)
 .skip))
 (.seq (.region [
 ⟨some 21, .cp (.t 1), none⟩,
 ⟨some 22, .call false zbh_ [(.t 21)], none⟩,
 ⟨some 20, .cp (.t 22), none⟩,
 ⟨some 23, .extract (.t 20) 0, none⟩,
 ⟨some 24, .extract (.t 20) 1, none⟩,
 ⟨some 8, .cp (.t 23), none⟩,
 ⟨some 9, .cp (.t 24), none⟩] (none))
 (.seq (.seq (.region [
 ⟨some 25, .cp (.t 9), none⟩,
 ⟨some 26, .un .not (.t 25), none⟩,
 ⟨some 27, .cp (.t 26), none⟩,
 ⟨some 28, .cp (.t 2), some (27, false)⟩,
 ⟨some 29, .bin .neq (.t 28) (.c (.s (.string ⟨#[]⟩))), some (27, false)⟩,
 ⟨some 30, .pick (.t 27) (.c (.s (.bool true))) (.t 29), none⟩] (none))
 (.cond (.t 30)
 (.seq (.region [
 ⟨some 31, .build false [.s (.int .i64 0), .s (.string ⟨#[]⟩), .s (.int .i64 0)] [], none⟩,
 ⟨none, .store 3 (.t 6) (.t 31), none⟩,
 ⟨some 7, .cp (.c (.s (.bool false))), none⟩] (none))
 .ret)
 .skip))
 (.seq (.region [
 ⟨some 32, .cp (.t 8), none⟩,
 ⟨some 33, .build false [.s (.int .i64 0), .s (.string ⟨#[]⟩), .s (.int .i64 0)] [(0, 1, (.t 32))], none⟩,
 ⟨some 10, .alloc [.s (.int .i64 0), .s (.string ⟨#[]⟩), .s (.int .i64 0)], none⟩,
 ⟨none, .store 3 (.t 10) (.t 33), none⟩] (none))
 (.seq (.seq (.region [
 ⟨some 34, .cp (.t 8), none⟩] (none))
 (.block 0
 (.seq (.region [
 ⟨some 36, .bin .eql (.t 34) (.c (.s (.int .i64 1))), none⟩,
 ⟨some 35, .cp (.t 36), none⟩] (none))
 (.cond (.t 35)
 (.region [
 ⟨some 37, .load 14 true (.t 3), none⟩,
 ⟨some 38, .cp (.t 1), none⟩,
 ⟨some 39, .call false ziv_ [(.t 37), (.t 38)], none⟩,
 ⟨some 40, .faddr (.t 10) 1, none⟩,
 ⟨none, .store 1 (.t 40) (.t 39), none⟩] (none))
 (.seq (.region [
 ⟨some 42, .bin .eql (.t 34) (.c (.s (.int .i64 2))), none⟩,
 ⟨some 41, .cp (.t 42), none⟩] (none))
 (.cond (.t 41)
 (.region [
 ⟨some 43, .load 14 true (.t 3), none⟩,
 ⟨some 44, .cp (.t 1), none⟩,
 ⟨some 45, .call false zdd_ [(.t 43), (.t 44)], none⟩,
 ⟨some 46, .faddr (.t 10) 2, none⟩,
 ⟨none, .store 1 (.t 46) (.t 45), none⟩] (none))
 (.seq (.region [
 ⟨some 48, .bin .eql (.t 34) (.c (.s (.int .i64 3))), none⟩,
 ⟨some 47, .cp (.t 48), none⟩] (none))
 (.cond (.t 47)
 (.region [
 ⟨some 49, .cp (.t 1), none⟩,
 ⟨some 50, .bin .eql (.t 49) (.c (.s (.string ⟨#[101, 114, 114, 111, 114]⟩))), none⟩,
 ⟨some 51, .cp (.t 50), none⟩,
 ⟨some 52, .faddr (.t 3) 0, some (51, true)⟩,
 ⟨some 53, .faddr (.t 52) 11, some (51, true)⟩,
 ⟨some 54, .load 1 false (.t 53), some (51, true)⟩,
 ⟨some 55, .pick (.t 51) (.t 54) (.c (.s (.bool false))), none⟩,
 ⟨some 56, .cp (.t 55), none⟩,
 ⟨some 57, .cp (.t 1), some (56, false)⟩,
 ⟨some 58, .bin .eql (.t 57) (.c (.s (.string ⟨#[114, 111, 111, 116]⟩))), some (56, false)⟩,
 ⟨some 59, .cp (.t 58), some (56, false)⟩,
 ⟨some 60, .faddr (.t 3) 0, some (59, true)⟩,
 ⟨some 61, .faddr (.t 60) 2, some (59, true)⟩,
 ⟨some 62, .load 1 false (.t 61), some (59, true)⟩,
 ⟨some 63, .bin .eql (.t 62) (.c (.s (.int .i64 0))), some (59, true)⟩,
 ⟨some 64, .pick (.t 59) (.t 63) (.c (.s (.bool false))), some (56, false)⟩,
 ⟨some 65, .pick (.t 56) (.c (.s (.bool true))) (.t 64), none⟩,
 ⟨some 66, .call false zkk_ [(.t 65)], none⟩,
 ⟨some 67, .faddr (.t 10) 2, none⟩,
 ⟨none, .store 1 (.t 67) (.t 66), none⟩] (none))
 .skip))))))))
 (.seq (.region [
 ⟨some 68, .load 3 true (.t 10), none⟩,
 ⟨none, .store 3 (.t 6) (.t 68), none⟩,
 ⟨some 7, .cp (.c (.s (.bool true))), none⟩] (none))
 .ret))))))) }
def zbb_ : XF := { np := 1, results := [(.inl 2, .v)], body :=
 (.seq (.region [
 ⟨some 1, .box false (.t 0), none⟩,
 ⟨some 2, .cp (.c (.s (.int .i64 0))), none⟩] (none))
 (.seq (.block 0
 (.seq (.region [
 ⟨some 4, .faddr (.t 1) 0, none⟩,
 ⟨some 5, .load 1 false (.t 4), none⟩,
 ⟨some 6, .call false zis_ [(.t 5)], none⟩,
 ⟨some 7, .cp (.t 6), none⟩,
 ⟨some 8, .faddr (.t 1) 1, some (7, false)⟩,
 ⟨some 9, .load 1 false (.t 8), some (7, false)⟩,
 ⟨some 10, .call false zis_ [(.t 9)], some (7, false)⟩,
 ⟨some 11, .pick (.t 7) (.c (.s (.bool true))) (.t 10), none⟩,
 ⟨some 12, .cp (.t 11), none⟩,
 ⟨some 13, .faddr (.t 1) 2, some (12, false)⟩,
 ⟨some 14, .load 1 false (.t 13), some (12, false)⟩,
 ⟨some 15, .bin .lss (.t 14) (.c (.s (.int .i64 0))), some (12, false)⟩,
 ⟨some 16, .pick (.t 12) (.c (.s (.bool true))) (.t 15), none⟩,
 ⟨some 17, .cp (.t 16), none⟩,
 ⟨some 18, .faddr (.t 1) 2, some (17, false)⟩,
 ⟨some 19, .load 1 false (.t 18), some (17, false)⟩,
 ⟨some 20, .bin .gtr (.t 19) (.c (.s (.int .i64 1099511627776))), some (17, false)⟩,
 ⟨some 21, .pick (.t 17) (.c (.s (.bool true))) (.t 20), none⟩,
 ⟨some 22, .cp (.t 21), none⟩,
 ⟨some 23, .faddr (.t 1) 3, some (22, false)⟩,
 ⟨some 24, .load 1 false (.t 23), some (22, false)⟩,
 ⟨some 25, .bin .lss (.t 24) (.c (.s (.int .i64 0))), some (22, false)⟩,
 ⟨some 26, .pick (.t 22) (.c (.s (.bool true))) (.t 25), none⟩,
 ⟨some 27, .cp (.t 26), none⟩,
 ⟨some 28, .faddr (.t 1) 3, some (27, false)⟩,
 ⟨some 29, .load 1 false (.t 28), some (27, false)⟩,
 ⟨some 30, .bin .gtr (.t 29) (.c (.s (.int .i64 1048576))), some (27, false)⟩,
 ⟨some 31, .pick (.t 27) (.c (.s (.bool true))) (.t 30), none⟩,
 ⟨some 32, .cp (.t 31), none⟩,
 ⟨some 33, .faddr (.t 1) 4, some (32, false)⟩,
 ⟨some 34, .load 1 false (.t 33), some (32, false)⟩,
 ⟨some 35, .bin .lss (.t 34) (.c (.s (.int .i64 1))), some (32, false)⟩,
 ⟨some 36, .pick (.t 32) (.c (.s (.bool true))) (.t 35), none⟩,
 ⟨some 37, .cp (.t 36), none⟩,
 ⟨some 38, .faddr (.t 1) 4, some (37, false)⟩,
 ⟨some 39, .load 1 false (.t 38), some (37, false)⟩,
 ⟨some 40, .bin .gtr (.t 39) (.c (.s (.int .i64 1048576))), some (37, false)⟩,
 ⟨some 41, .pick (.t 37) (.c (.s (.bool true))) (.t 40), none⟩,
 ⟨some 3, .cp (.t 41), none⟩] (none))
 (.cond (.t 3)
 (.seq (.region [
 ⟨some 2, .cp (.c (.s (.int .i64 2))), none⟩] (none))
 .ret)
 (.seq (.region [
 ⟨some 43, .faddr (.t 1) 5, none⟩,
 ⟨some 44, .load 1 false (.t 43), none⟩,
 ⟨some 45, .bin .lss (.t 44) (.c (.s (.int .i64 1))), none⟩,
 ⟨some 46, .cp (.t 45), none⟩,
 ⟨some 47, .faddr (.t 1) 5, some (46, false)⟩,
 ⟨some 48, .load 1 false (.t 47), some (46, false)⟩,
 ⟨some 49, .bin .gtr (.t 48) (.c (.s (.int .i64 5))), some (46, false)⟩,
 ⟨some 50, .pick (.t 46) (.c (.s (.bool true))) (.t 49), none⟩,
 ⟨some 42, .cp (.t 50), none⟩] (none))
 (.cond (.t 42)
 (.seq (.region [
 ⟨some 2, .cp (.c (.s (.int .i64 12))), none⟩] (none))
 .ret)
 (.seq (.region [
 ⟨some 52, .faddr (.t 1) 6, none⟩,
 ⟨some 53, .load 1 false (.t 52), none⟩,
 ⟨some 54, .call false zec_ [(.t 53)], none⟩,
 ⟨some 55, .un .not (.t 54), none⟩,
 ⟨some 56, .cp (.t 55), none⟩,
 ⟨some 57, .faddr (.t 1) 8, some (56, false)⟩,
 ⟨some 58, .load 1 false (.t 57), some (56, false)⟩,
 ⟨some 59, .call false zec_ [(.t 58)], some (56, false)⟩,
 ⟨some 60, .un .not (.t 59), some (56, false)⟩,
 ⟨some 61, .pick (.t 56) (.c (.s (.bool true))) (.t 60), none⟩,
 ⟨some 62, .cp (.t 61), none⟩,
 ⟨some 63, .faddr (.t 1) 7, some (62, false)⟩,
 ⟨some 64, .load 1 false (.t 63), some (62, false)⟩,
 ⟨some 65, .bin .neq (.t 64) (.c (.s (.string ⟨#[]⟩))), some (62, false)⟩,
 ⟨some 66, .cp (.t 65), some (62, false)⟩,
 ⟨some 67, .faddr (.t 1) 7, some (66, true)⟩,
 ⟨some 68, .load 1 false (.t 67), some (66, true)⟩,
 ⟨some 69, .call false zec_ [(.t 68)], some (66, true)⟩,
 ⟨some 70, .un .not (.t 69), some (66, true)⟩,
 ⟨some 71, .pick (.t 66) (.t 70) (.c (.s (.bool false))), some (62, false)⟩,
 ⟨some 72, .pick (.t 62) (.c (.s (.bool true))) (.t 71), none⟩,
 ⟨some 51, .cp (.t 72), none⟩] (none))
 (.cond (.t 51)
 (.seq (.region [
 ⟨some 2, .cp (.c (.s (.int .i64 11))), none⟩] (none))
 .ret)
 (.seq (.region [
 ⟨some 74, .faddr (.t 1) 9, none⟩,
 ⟨some 75, .load 1 false (.t 74), none⟩,
 ⟨some 76, .faddr (.t 1) 10, none⟩,
 ⟨some 77, .load 1 false (.t 76), none⟩,
 ⟨some 78, .minmax false [(.t 75), (.t 77)], none⟩,
 ⟨some 79, .bin .lss (.t 78) (.c (.s (.int .i64 (-1099511627776)))), none⟩,
 ⟨some 80, .cp (.t 79), none⟩,
 ⟨some 81, .faddr (.t 1) 9, some (80, false)⟩,
 ⟨some 82, .load 1 false (.t 81), some (80, false)⟩,
 ⟨some 83, .faddr (.t 1) 10, some (80, false)⟩,
 ⟨some 84, .load 1 false (.t 83), some (80, false)⟩,
 ⟨some 85, .minmax true [(.t 82), (.t 84)], some (80, false)⟩,
 ⟨some 86, .bin .gtr (.t 85) (.c (.s (.int .i64 1099511627776))), some (80, false)⟩,
 ⟨some 87, .pick (.t 80) (.c (.s (.bool true))) (.t 86), none⟩,
 ⟨some 73, .cp (.t 87), none⟩] (none))
 (.cond (.t 73)
 (.seq (.region [
 ⟨some 2, .cp (.c (.s (.int .i64 32))), none⟩] (none))
 .ret)
 (.seq (.region [
 ⟨some 89, .faddr (.t 1) 10, none⟩,
 ⟨some 90, .load 1 false (.t 89), none⟩,
 ⟨some 91, .faddr (.t 1) 9, none⟩,
 ⟨some 92, .load 1 false (.t 91), none⟩,
 ⟨some 93, .bin .lss (.t 90) (.t 92), none⟩,
 ⟨some 88, .cp (.t 93), none⟩] (none))
 (.cond (.t 88)
 (.seq (.region [
 ⟨some 2, .cp (.c (.s (.int .i64 8))), none⟩] (none))
 .ret)
 (.seq (.region [
 ⟨some 95, .faddr (.t 1) 10, none⟩,
 ⟨some 96, .load 1 false (.t 95), none⟩,
 ⟨some 97, .faddr (.t 1) 9, none⟩,
 ⟨some 98, .load 1 false (.t 97), none⟩,
 ⟨some 99, .bin .sub (.t 96) (.t 98), none⟩,
 ⟨some 100, .bin .gtr (.t 99) (.c (.s (.int .i64 1099511627776))), none⟩,
 ⟨some 94, .cp (.t 100), none⟩] (none))
 (.cond (.t 94)
 (.seq (.region [
 ⟨some 2, .cp (.c (.s (.int .i64 32))), none⟩] (none))
 .ret)
 .skip)))))))))))))
 (.seq (.region [
 ⟨some 101, .faddr (.t 1) 12, none⟩,
 ⟨some 102, .load 1 false (.t 101), none⟩,
 ⟨some 103, .call false zsm_ [(.t 102)], none⟩,
 ⟨some 104, .faddr (.t 1) 13, none⟩,
 ⟨some 105, .load 1 false (.t 104), none⟩,
 ⟨some 106, .call false zsn_ [(.t 105)], none⟩,
 ⟨some 107, .bslice false 1 [(.t 103), (.t 106)], none⟩,
 ⟨some 108, .call false zsl_ [(.t 107)], none⟩,
 ⟨some 2, .cp (.t 108), none⟩] (some [(2, some 4)]))
 .ret))) }
def zlc_ : XF := { np := 1, results := [(.inl 2, .v)], body :=
 (.seq (.region [
 ⟨some 2, .cp (.c (.s (.int .i64 0))), none⟩] (none))
 (.seq (.region [
 ⟨some 3, .cp (.t 0), none⟩,
 ⟨some 4, .call false zog_ [(.t 3)], none⟩,
 ⟨some 5, .bin .shr (.t 4) (.c (.s (.int .u64 4))), none⟩,
 ⟨some 2, .cp (.t 5), none⟩] (none))
 .ret)) }
def zld_ : XF := { np := 0, results := [(.inl 0, .v)], body :=
 (.seq (.region [
 ⟨some 0, .cp (.c (.s (.slice none 0 0))), none⟩] (none))
 (.seq (.region [
 ⟨some 1, .bslice false 1 [(.c (.s (.string ⟨#[99, 108, 111, 99, 107]⟩))), (.c (.s (.string ⟨#[100, 117, 114, 97, 116, 105, 111, 110]⟩))), (.c (.s (.string ⟨#[101, 110, 100]⟩))), (.c (.s (.string ⟨#[101, 114, 114, 111, 114]⟩))), (.c (.s (.string ⟨#[105, 100]⟩))), (.c (.s (.string ⟨#[107, 105, 110, 100]⟩))), (.c (.s (.string ⟨#[111, 112, 101, 114, 97, 116, 105, 111, 110]⟩))), (.c (.s (.string ⟨#[112, 97, 114, 101, 110, 116]⟩))), (.c (.s (.string ⟨#[114, 101, 118, 105, 115, 105, 111, 110]⟩))), (.c (.s (.string ⟨#[114, 111, 111, 116]⟩))), (.c (.s (.string ⟨#[115, 101, 114, 118, 105, 99, 101]⟩))), (.c (.s (.string ⟨#[115, 108, 111, 116]⟩))), (.c (.s (.string ⟨#[115, 116, 97, 114, 116]⟩))), (.c (.s (.string ⟨#[116, 114, 97, 99, 101]⟩))), (.c (.s (.string ⟨#[118, 101, 114, 115, 105, 111, 110]⟩)))], none⟩,
 ⟨some 0, .cp (.t 1), none⟩] (none))
 .ret)) }
def zpd_ : XC :=
 (.seq (.region [
 ⟨some 28, .bin .lss (.t 27) (.t 26), none⟩] (none))
 (.seq (.cond (.t 28)
 .skip
 (.exit 1))
 (.seq (.block 2
 (.seq (.region [
 ⟨some 29, .iaddr 7 (.t 25) (.t 27), none⟩,
 ⟨some 30, .load 7 true (.t 29), none⟩,
 ⟨some 9, .alloc [.s (.int .i64 0), .s (.string ⟨#[]⟩), .s (.string ⟨#[]⟩), .s (.int .i64 0), .s (.string ⟨#[]⟩), .s (.int .i64 0), .s (.slice none 0 0)], none⟩,
 ⟨none, .store 7 (.t 9) (.t 30), none⟩] (none))
 (.seq (.region [
 ⟨some 31, .load 1 false (.t 3), none⟩,
 ⟨some 32, .load 7 true (.t 9), none⟩,
 ⟨some 33, .cp (.t 1), none⟩,
 ⟨some 34, .bin .add (.t 33) (.c (.s (.int .i64 1))), none⟩,
 ⟨some 35, .callv false (.t 31) [(.t 32), (.t 34)], none⟩,
 ⟨some 10, .cp (.t 35), none⟩] (none))
 (.seq (.region [
 ⟨some 36, .cp (.t 10), none⟩,
 ⟨some 37, .bin .neq (.t 36) (.c (.s (.int .i64 0))), none⟩] (none))
 (.cond (.t 37)
 (.seq (.region [
 ⟨some 38, .cp (.t 10), none⟩,
 ⟨some 6, .cp (.t 38), none⟩] (none))
 .ret)
 .skip)))))
 (.region [
 ⟨some 39, .bin .add (.t 27) (.c (.s (.int .i64 1))), none⟩,
 ⟨some 27, .cp (.t 39), none⟩] (none)))))
def zgm_ : XF := { np := 4, results := [(.inl 6, .v)], body :=
 (.seq (.region [
 ⟨some 4, .box false (.t 0), none⟩,
 ⟨some 6, .cp (.c (.s (.int .i64 0))), none⟩] (none))
 (.seq (.block 0
 (.seq (.region [
 ⟨some 12, .load 1 false (.t 2), none⟩,
 ⟨some 13, .bin .geq (.t 12) (.c (.s (.int .i64 64))), none⟩,
 ⟨some 11, .cp (.t 13), none⟩] (none))
 (.cond (.t 11)
 (.seq (.region [
 ⟨some 6, .cp (.c (.s (.int .i64 6))), none⟩] (none))
 .ret)
 (.seq (.region [
 ⟨some 15, .cp (.t 1), none⟩,
 ⟨some 16, .bin .gtr (.t 15) (.c (.s (.int .i64 16))), none⟩,
 ⟨some 14, .cp (.t 16), none⟩] (none))
 (.cond (.t 14)
 (.seq (.region [
 ⟨some 6, .cp (.c (.s (.int .i64 15))), none⟩] (none))
 .ret)
 .skip)))))
 (.seq (.region [
 ⟨some 17, .load 1 false (.t 2), none⟩,
 ⟨some 18, .bin .add (.t 17) (.c (.s (.int .i64 1))), none⟩,
 ⟨none, .store 1 (.t 2) (.t 18), none⟩] (none))
 (.seq (.seq (.region [
 ⟨some 19, .load 7 true (.t 4), none⟩,
 ⟨some 20, .call false zde_ [(.t 19)], none⟩,
 ⟨some 7, .cp (.t 20), none⟩] (none))
 (.seq (.region [
 ⟨some 21, .cp (.t 7), none⟩,
 ⟨some 22, .bin .neq (.t 21) (.c (.s (.int .i64 0))), none⟩] (none))
 (.cond (.t 22)
 (.seq (.region [
 ⟨some 23, .cp (.t 7), none⟩,
 ⟨some 6, .cp (.t 23), none⟩] (none))
 .ret)
 .skip)))
 (.seq (.seq (.region [
 ⟨some 24, .faddr (.t 4) 6, none⟩,
 ⟨some 25, .load 1 false (.t 24), none⟩,
 ⟨some 26, .len false (.t 25), none⟩,
 ⟨some 27, .cp (.c (.s (.int .i64 0))), none⟩] (none))
 (.block 1
 (.loop zpd_)))
 (.seq (.region [
 ⟨some 6, .cp (.c (.s (.int .i64 0))), none⟩] (none))
 .ret)))))) }
def zac_ : XF := { np := 1, results := [(.inl 2, .v)], body :=
 (.seq (.region [
 ⟨some 1, .box false (.t 0), none⟩,
 ⟨some 2, .cp (.c (.s (.int .i64 0))), none⟩] (none))
 (.seq (.region [
 ⟨some 8, .faddr (.t 1) 6, none⟩,
 ⟨some 9, .load 1 false (.t 8), none⟩,
 ⟨some 10, .len false (.t 9), none⟩,
 ⟨some 3, .cp (.t 10), none⟩,
 ⟨some 4, .cp (.c (.s (.bool false))), none⟩] (none))
 (.seq (.seq (.region [
 ⟨some 11, .faddr (.t 1) 0, none⟩,
 ⟨some 12, .load 1 false (.t 11), none⟩] (none))
 (.block 0
 (.seq (.seq (.region [
 ⟨some 14, .bin .eql (.t 12) (.c (.s (.int .i64 1))), none⟩,
 ⟨some 13, .cp (.t 14), none⟩] (none))
 (.cond (.t 13)
 .skip
 (.region [
 ⟨some 15, .bin .eql (.t 12) (.c (.s (.int .i64 2))), none⟩,
 ⟨some 13, .cp (.t 15), none⟩] (none))))
 (.cond (.t 13)
 (.region [
 ⟨some 16, .cp (.t 3), none⟩,
 ⟨some 17, .bin .geq (.t 16) (.c (.s (.int .i64 1))), none⟩,
 ⟨some 4, .cp (.t 17), none⟩] (none))
 (.seq (.region [
 ⟨some 19, .bin .eql (.t 12) (.c (.s (.int .i64 3))), none⟩,
 ⟨some 18, .cp (.t 19), none⟩] (none))
 (.cond (.t 18)
 (.region [
 ⟨some 20, .cp (.t 3), none⟩,
 ⟨some 21, .bin .eql (.t 20) (.c (.s (.int .i64 1))), none⟩,
 ⟨some 4, .cp (.t 21), none⟩] (none))
 (.seq (.seq (.region [
 ⟨some 23, .bin .eql (.t 12) (.c (.s (.int .i64 0))), none⟩,
 ⟨some 22, .cp (.t 23), none⟩] (none))
 (.cond (.t 22)
 .skip
 (.seq (.region [
 ⟨some 24, .bin .eql (.t 12) (.c (.s (.int .i64 4))), none⟩,
 ⟨some 22, .cp (.t 24), none⟩] (none))
 (.cond (.t 22)
 .skip
 (.seq (.region [
 ⟨some 25, .bin .eql (.t 12) (.c (.s (.int .i64 5))), none⟩,
 ⟨some 22, .cp (.t 25), none⟩] (none))
 (.cond (.t 22)
 .skip
 (.seq (.region [
 ⟨some 26, .bin .eql (.t 12) (.c (.s (.int .i64 6))), none⟩,
 ⟨some 22, .cp (.t 26), none⟩] (none))
 (.cond (.t 22)
 .skip
 (.region [
 ⟨some 27, .bin .eql (.t 12) (.c (.s (.int .i64 7))), none⟩,
 ⟨some 22, .cp (.t 27), none⟩] (none))))))))))
 (.cond (.t 22)
 (.region [
 ⟨some 28, .cp (.t 3), none⟩,
 ⟨some 29, .bin .eql (.t 28) (.c (.s (.int .i64 0))), none⟩,
 ⟨some 4, .cp (.t 29), none⟩] (none))
 (.seq (.region [
 ⟨some 2, .cp (.c (.s (.int .i64 12))), none⟩] (none))
 .ret)))))))))
 (.seq (.region [
 ⟨some 30, .load 7 true (.t 1), none⟩,
 ⟨some 31, .call false ztd_ [(.t 30)], none⟩,
 ⟨some 32, .faddr (.t 1) 0, none⟩,
 ⟨some 33, .load 1 false (.t 32), none⟩,
 ⟨some 34, .bin .eql (.t 33) (.c (.s (.int .i64 4))), none⟩,
 ⟨some 5, .cp (.t 31), none⟩,
 ⟨some 6, .cp (.t 34), none⟩] (some [(1, some 3)]))
 (.seq (.block 1
 (.seq (.region [
 ⟨some 36, .cp (.t 4), none⟩,
 ⟨some 37, .un .not (.t 36), none⟩,
 ⟨some 38, .cp (.t 37), none⟩,
 ⟨some 39, .cp (.t 5), some (38, false)⟩,
 ⟨some 40, .un .not (.t 39), some (38, false)⟩,
 ⟨some 41, .cp (.t 40), some (38, false)⟩,
 ⟨some 42, .faddr (.t 1) 1, some (41, true)⟩,
 ⟨some 43, .load 1 false (.t 42), some (41, true)⟩,
 ⟨some 44, .bin .neq (.t 43) (.c (.s (.string ⟨#[]⟩))), some (41, true)⟩,
 ⟨some 45, .cp (.t 44), some (41, true)⟩,
 ⟨some 46, .faddr (.t 1) 3, some (45, false)⟩,
 ⟨some 47, .load 3 true (.t 46), some (45, false)⟩,
 ⟨some 48, .build false [.s (.int .i64 0), .s (.string ⟨#[]⟩), .s (.int .i64 0)] [], some (45, false)⟩,
 ⟨some 49, .eqv (.a [.i, .t, .i]) true (.t 47) (.t 48), some (45, false)⟩,
 ⟨some 50, .pick (.t 45) (.c (.s (.bool true))) (.t 49), some (41, true)⟩,
 ⟨some 51, .pick (.t 41) (.t 50) (.c (.s (.bool false))), some (38, false)⟩,
 ⟨some 52, .pick (.t 38) (.c (.s (.bool true))) (.t 51), none⟩,
 ⟨some 53, .cp (.t 52), none⟩,
 ⟨some 54, .cp (.t 5), some (53, false)⟩,
 ⟨some 55, .un .not (.t 54), some (53, false)⟩,
 ⟨some 56, .cp (.t 55), some (53, false)⟩,
 ⟨some 57, .cp (.t 6), some (56, true)⟩,
 ⟨some 58, .un .not (.t 57), some (56, true)⟩,
 ⟨some 59, .pick (.t 56) (.t 58) (.c (.s (.bool false))), some (53, false)⟩,
 ⟨some 60, .cp (.t 59), some (53, false)⟩,
 ⟨some 61, .faddr (.t 1) 2, some (60, true)⟩,
 ⟨some 62, .load 1 false (.t 61), some (60, true)⟩,
 ⟨some 63, .bin .neq (.t 62) (.c (.s (.string ⟨#[]⟩))), some (60, true)⟩,
 ⟨some 64, .pick (.t 60) (.t 63) (.c (.s (.bool false))), some (53, false)⟩,
 ⟨some 65, .pick (.t 53) (.c (.s (.bool true))) (.t 64), none⟩,
 ⟨some 35, .cp (.t 65), none⟩] (none))
 (.cond (.t 35)
 (.seq (.region [
 ⟨some 2, .cp (.c (.s (.int .i64 3))), none⟩] (none))
 .ret)
 (.seq (.region [
 ⟨some 67, .cp (.t 6), none⟩,
 ⟨some 68, .cp (.t 67), none⟩,
 ⟨some 69, .faddr (.t 1) 2, some (68, true)⟩,
 ⟨some 70, .load 1 false (.t 69), some (68, true)⟩,
 ⟨some 71, .call false zec_ [(.t 70)], some (68, true)⟩,
 ⟨some 72, .un .not (.t 71), some (68, true)⟩,
 ⟨some 73, .pick (.t 68) (.t 72) (.c (.s (.bool false))), none⟩,
 ⟨some 66, .cp (.t 73), none⟩] (none))
 (.cond (.t 66)
 (.seq (.region [
 ⟨some 2, .cp (.c (.s (.int .i64 11))), none⟩] (none))
 .ret)
 (.seq (.region [
 ⟨some 75, .cp (.t 5), none⟩,
 ⟨some 76, .un .not (.t 75), none⟩,
 ⟨some 74, .cp (.t 76), none⟩] (none))
 (.cond (.t 74)
 (.seq (.region [
 ⟨some 2, .cp (.c (.s (.int .i64 0))), none⟩] (none))
 .ret)
 (.seq (.region [
 ⟨some 78, .faddr (.t 1) 1, none⟩,
 ⟨some 79, .load 1 false (.t 78), none⟩,
 ⟨some 80, .call false zec_ [(.t 79)], none⟩,
 ⟨some 81, .un .not (.t 80), none⟩,
 ⟨some 82, .cp (.t 81), none⟩,
 ⟨some 83, .faddr (.t 1) 1, some (82, false)⟩,
 ⟨some 84, .load 1 false (.t 83), some (82, false)⟩,
 ⟨some 85, .bin .eql (.t 84) (.c (.s (.string ⟨#[97, 116, 116, 114]⟩))), some (82, false)⟩,
 ⟨some 86, .cp (.t 85), some (82, false)⟩,
 ⟨some 87, .faddr (.t 1) 2, some (86, true)⟩,
 ⟨some 88, .load 1 false (.t 87), some (86, true)⟩,
 ⟨some 89, .call false zec_ [(.t 88)], some (86, true)⟩,
 ⟨some 90, .un .not (.t 89), some (86, true)⟩,
 ⟨some 91, .pick (.t 86) (.t 90) (.c (.s (.bool false))), some (82, false)⟩,
 ⟨some 92, .pick (.t 82) (.c (.s (.bool true))) (.t 91), none⟩,
 ⟨some 93, .cp (.t 92), none⟩,
 ⟨some 94, .faddr (.t 1) 1, some (93, false)⟩,
 ⟨some 95, .load 1 false (.t 94), some (93, false)⟩,
 ⟨some 96, .bin .neq (.t 95) (.c (.s (.string ⟨#[97, 116, 116, 114]⟩))), some (93, false)⟩,
 ⟨some 97, .cp (.t 96), some (93, false)⟩,
 ⟨some 98, .faddr (.t 1) 2, some (97, true)⟩,
 ⟨some 99, .load 1 false (.t 98), some (97, true)⟩,
 ⟨some 100, .bin .neq (.t 99) (.c (.s (.string ⟨#[]⟩))), some (97, true)⟩,
 ⟨some 101, .pick (.t 97) (.t 100) (.c (.s (.bool false))), some (93, false)⟩,
 ⟨some 102, .pick (.t 93) (.c (.s (.bool true))) (.t 101), none⟩,
 ⟨some 77, .cp (.t 102), none⟩] (none))
 (.cond (.t 77)
 (.seq (.region [
 ⟨some 2, .cp (.c (.s (.int .i64 11))), none⟩] (none))
 .ret)
 .skip)))))))))
 (.seq (.seq (.region [
 ⟨some 103, .faddr (.t 1) 3, none⟩,
 ⟨some 104, .load 3 true (.t 103), none⟩,
 ⟨some 105, .call false zoe_ [(.t 104)], none⟩,
 ⟨some 7, .cp (.t 105), none⟩] (none))
 (.seq (.region [
 ⟨some 106, .cp (.t 7), none⟩,
 ⟨some 107, .bin .neq (.t 106) (.c (.s (.int .i64 0))), none⟩] (none))
 (.cond (.t 107)
 (.seq (.region [
 ⟨some 108, .cp (.t 7), none⟩,
 ⟨some 2, .cp (.t 108), none⟩] (none))
 .ret)
 .skip)))
 (.seq (.seq (.region [
 ⟨some 109, .faddr (.t 1) 0, none⟩,
 ⟨some 110, .load 1 false (.t 109), none⟩,
 ⟨some 111, .bin .eql (.t 110) (.c (.s (.int .i64 6))), none⟩,
 ⟨some 112, .cp (.t 111), none⟩,
 ⟨some 113, .faddr (.t 1) 3, some (112, true)⟩,
 ⟨some 114, .faddr (.t 113) 0, some (112, true)⟩,
 ⟨some 115, .load 1 false (.t 114), some (112, true)⟩,
 ⟨some 116, .bin .eql (.t 115) (.c (.s (.int .i64 3))), some (112, true)⟩,
 ⟨some 117, .pick (.t 112) (.t 116) (.c (.s (.bool false))), none⟩,
 ⟨some 118, .cp (.t 117), none⟩,
 ⟨some 119, .faddr (.t 1) 0, some (118, false)⟩,
 ⟨some 120, .load 1 false (.t 119), some (118, false)⟩,
 ⟨some 121, .bin .eql (.t 120) (.c (.s (.int .i64 7))), some (118, false)⟩,
 ⟨some 122, .cp (.t 121), some (118, false)⟩,
 ⟨some 123, .faddr (.t 1) 3, some (122, true)⟩,
 ⟨some 124, .faddr (.t 123) 0, some (122, true)⟩,
 ⟨some 125, .load 1 false (.t 124), some (122, true)⟩,
 ⟨some 126, .bin .neq (.t 125) (.c (.s (.int .i64 1))), some (122, true)⟩,
 ⟨some 127, .pick (.t 122) (.t 126) (.c (.s (.bool false))), some (118, false)⟩,
 ⟨some 128, .pick (.t 118) (.c (.s (.bool true))) (.t 127), none⟩] (none))
 (.cond (.t 128)
 (.seq (.region [
 ⟨some 2, .cp (.c (.s (.int .i64 13))), none⟩] (none))
 .ret)
 .skip))
 (.seq (.region [
 ⟨some 2, .cp (.c (.s (.int .i64 0))), none⟩] (none))
 .ret)))))))) }
def zdx_ : XC :=
 (.seq (.seq (.region [
 ⟨some 108, .cp (.t 5), none⟩,
 ⟨some 109, .faddr (.t 1) 12, none⟩,
 ⟨some 110, .load 1 false (.t 109), none⟩,
 ⟨some 111, .bin .rem (.t 110) (.c (.s (.int .u8 3))), none⟩,
 ⟨some 112, .conv .i64 (.t 111), none⟩,
 ⟨some 113, .bin .lss (.t 108) (.t 112), none⟩] (none))
 (.cond (.t 113)
 .skip
 (.exit 0)))
 (.seq (.block 1
 (.region [
 ⟨some 116, .faddr (.t 3) 13, none⟩,
 ⟨some 117, .load 1 false (.t 116), none⟩,
 ⟨some 118, .faddr (.t 1) 12, none⟩,
 ⟨some 119, .load 1 false (.t 118), none⟩,
 ⟨some 120, .bin .quo (.t 119) (.c (.s (.int .u8 3))), none⟩,
 ⟨some 121, .bin .rem (.t 120) (.c (.s (.int .u8 5))), none⟩,
 ⟨some 122, .conv .i64 (.t 121), none⟩,
 ⟨some 123, .bin .add (.c (.s (.int .i64 1))) (.t 122), none⟩,
 ⟨some 124, .faddr (.t 1) 12, none⟩,
 ⟨some 125, .load 1 false (.t 124), none⟩,
 ⟨some 126, .bin .quo (.t 125) (.c (.s (.int .u8 15))), none⟩,
 ⟨some 127, .bin .rem (.t 126) (.c (.s (.int .u8 5))), none⟩,
 ⟨some 128, .conv .i64 (.t 127), none⟩,
 ⟨some 129, .bin .add (.c (.s (.int .i64 1))) (.t 128), none⟩,
 ⟨some 130, .cp (.t 5), none⟩,
 ⟨some 131, .bin .add (.t 129) (.t 130), none⟩,
 ⟨some 132, .build false [.s (.int .i64 0), .s (.int .i64 0)] [(0, 1, (.t 123)), (1, 1, (.t 131))], none⟩,
 ⟨some 133, .bslice false 2 [(.t 132)], none⟩,
 ⟨some 134, .append 2 8796093022208 (.t 117) (.t 133), none⟩,
 ⟨some 135, .faddr (.t 3) 13, none⟩,
 ⟨none, .store 1 (.t 135) (.t 134), none⟩] (none)))
 (.region [
 ⟨some 114, .cp (.t 5), none⟩,
 ⟨some 115, .bin .add (.t 114) (.c (.s (.int .i64 1))), none⟩,
 ⟨some 5, .cp (.t 115), none⟩] (none))))
def zle_ : XF := { np := 1, results := [(.inr (2, 14, true), .v)], body :=
 (.seq (.region [
 ⟨some 1, .box false (.t 0), none⟩,
 ⟨some 2, .alloc [.s (.int .i64 0), .s (.int .i64 0), .s (.int .i64 0), .s (.int .i64 0), .s (.int .i64 0), .s (.int .i64 0), .s (.string ⟨#[]⟩), .s (.string ⟨#[]⟩), .s (.string ⟨#[]⟩), .s (.int .i64 0), .s (.int .i64 0), .s (.bool false), .s (.slice none 0 0), .s (.slice none 0 0)], none⟩] (none))
 (.seq (.region [
 ⟨some 6, .faddr (.t 1) 0, none⟩,
 ⟨some 7, .load 1 false (.t 6), none⟩,
 ⟨some 8, .bin .rem (.t 7) (.c (.s (.int .u8 3))), none⟩,
 ⟨some 9, .conv .i64 (.t 8), none⟩,
 ⟨some 10, .bin .shl (.t 9) (.c (.s (.int .u64 20))), none⟩,
 ⟨some 11, .bin .add (.t 10) (.c (.s (.int .i64 1))), none⟩,
 ⟨some 12, .faddr (.t 1) 0, none⟩,
 ⟨some 13, .load 1 false (.t 12), none⟩,
 ⟨some 14, .bin .quo (.t 13) (.c (.s (.int .u8 3))), none⟩,
 ⟨some 15, .bin .rem (.t 14) (.c (.s (.int .u8 4))), none⟩,
 ⟨some 16, .conv .i64 (.t 15), none⟩,
 ⟨some 17, .bin .add (.t 11) (.t 16), none⟩,
 ⟨some 18, .faddr (.t 1) 1, none⟩,
 ⟨some 19, .load 1 false (.t 18), none⟩,
 ⟨some 20, .bin .rem (.t 19) (.c (.s (.int .u8 4))), none⟩,
 ⟨some 21, .conv .i64 (.t 20), none⟩,
 ⟨some 22, .bin .add (.c (.s (.int .i64 1))) (.t 21), none⟩,
 ⟨some 23, .faddr (.t 1) 2, none⟩,
 ⟨some 24, .load 1 false (.t 23), none⟩,
 ⟨some 25, .bin .rem (.t 24) (.c (.s (.int .u8 5))), none⟩,
 ⟨some 26, .conv .i64 (.t 25), none⟩,
 ⟨some 27, .faddr (.t 1) 3, none⟩,
 ⟨some 28, .load 1 false (.t 27), none⟩,
 ⟨some 29, .bin .rem (.t 28) (.c (.s (.int .u8 3))), none⟩,
 ⟨some 30, .conv .i64 (.t 29), none⟩,
 ⟨some 31, .faddr (.t 1) 4, none⟩,
 ⟨some 32, .load 1 false (.t 31), none⟩,
 ⟨some 33, .bin .rem (.t 32) (.c (.s (.int .u8 3))), none⟩,
 ⟨some 34, .conv .i64 (.t 33), none⟩,
 ⟨some 35, .bin .add (.c (.s (.int .i64 1))) (.t 34), none⟩,
 ⟨some 36, .faddr (.t 1) 5, none⟩,
 ⟨some 37, .load 1 false (.t 36), none⟩,
 ⟨some 38, .bin .rem (.t 37) (.c (.s (.int .u8 5))), none⟩,
 ⟨some 39, .conv .i64 (.t 38), none⟩,
 ⟨some 40, .bin .add (.c (.s (.int .i64 1))) (.t 39), none⟩,
 ⟨some 41, .build false [.s (.int .i64 0), .s (.int .i64 0), .s (.int .i64 0), .s (.int .i64 0), .s (.int .i64 0), .s (.int .i64 0), .s (.string ⟨#[]⟩), .s (.string ⟨#[]⟩), .s (.string ⟨#[]⟩), .s (.int .i64 0), .s (.int .i64 0), .s (.bool false), .s (.slice none 0 0), .s (.slice none 0 0)] [(0, 1, (.t 17)), (1, 1, (.t 22)), (2, 1, (.t 26)), (3, 1, (.t 30)), (4, 1, (.t 35)), (5, 1, (.t 40))], none⟩,
 ⟨some 3, .alloc [.s (.int .i64 0), .s (.int .i64 0), .s (.int .i64 0), .s (.int .i64 0), .s (.int .i64 0), .s (.int .i64 0), .s (.string ⟨#[]⟩), .s (.string ⟨#[]⟩), .s (.string ⟨#[]⟩), .s (.int .i64 0), .s (.int .i64 0), .s (.bool false), .s (.slice none 0 0), .s (.slice none 0 0)], none⟩,
 ⟨none, .store 14 (.t 3) (.t 41), none⟩] (none))
 (.seq (.region [
 ⟨some 42, .bslice false 1 [(.c (.s (.string ⟨#[97, 112, 105]⟩))), (.c (.s (.string ⟨#[100, 98]⟩))), (.c (.s (.string ⟨#[119, 101, 98]⟩)))], none⟩,
 ⟨some 43, .faddr (.t 1) 6, none⟩,
 ⟨some 44, .load 1 false (.t 43), none⟩,
 ⟨some 45, .bin .rem (.t 44) (.c (.s (.int .u8 3))), none⟩,
 ⟨some 46, .iaddr 1 (.t 42) (.t 45), none⟩,
 ⟨some 47, .load 1 false (.t 46), none⟩,
 ⟨some 48, .bslice false 1 [(.c (.s (.string ⟨#[]⟩))), (.c (.s (.string ⟨#[118, 49]⟩))), (.c (.s (.string ⟨#[118, 50]⟩)))], none⟩,
 ⟨some 49, .faddr (.t 1) 7, none⟩,
 ⟨some 50, .load 1 false (.t 49), none⟩,
 ⟨some 51, .bin .rem (.t 50) (.c (.s (.int .u8 3))), none⟩,
 ⟨some 52, .iaddr 1 (.t 48) (.t 51), none⟩,
 ⟨some 53, .load 1 false (.t 52), none⟩,
 ⟨some 54, .bslice false 1 [(.c (.s (.string ⟨#[103, 101, 116]⟩))), (.c (.s (.string ⟨#[112, 117, 116]⟩)))], none⟩,
 ⟨some 55, .faddr (.t 1) 8, none⟩,
 ⟨some 56, .load 1 false (.t 55), none⟩,
 ⟨some 57, .bin .rem (.t 56) (.c (.s (.int .u8 2))), none⟩,
 ⟨some 58, .iaddr 1 (.t 54) (.t 57), none⟩,
 ⟨some 59, .load 1 false (.t 58), none⟩,
 ⟨some 60, .faddr (.t 3) 6, none⟩,
 ⟨none, .store 1 (.t 60) (.t 47), none⟩,
 ⟨some 61, .faddr (.t 3) 7, none⟩,
 ⟨none, .store 1 (.t 61) (.t 53), none⟩,
 ⟨some 62, .faddr (.t 3) 8, none⟩,
 ⟨none, .store 1 (.t 62) (.t 59), none⟩] (some [(19, some 8), (19, some 10), (19, some 11), (19, some 14), (19, some 16), (19, some 17), (21, some 14), (21, some 16), (21, some 17)]))
 (.seq (.region [
 ⟨some 63, .faddr (.t 1) 9, none⟩,
 ⟨some 64, .load 1 false (.t 63), none⟩,
 ⟨some 65, .conv .i64 (.t 64), none⟩,
 ⟨some 66, .bin .sub (.t 65) (.c (.s (.int .i64 50))), none⟩,
 ⟨some 67, .faddr (.t 1) 13, none⟩,
 ⟨some 68, .load 1 false (.t 67), none⟩,
 ⟨some 69, .faddr (.t 3) 9, none⟩,
 ⟨none, .store 1 (.t 69) (.t 66), none⟩,
 ⟨some 70, .faddr (.t 3) 11, none⟩,
 ⟨none, .store 1 (.t 70) (.t 68), none⟩] (some [(7, some 5)]))
 (.seq (.region [
 ⟨some 71, .faddr (.t 3) 9, none⟩,
 ⟨some 72, .load 1 false (.t 71), none⟩,
 ⟨some 73, .faddr (.t 1) 10, none⟩,
 ⟨some 74, .load 1 false (.t 73), none⟩,
 ⟨some 75, .bin .rem (.t 74) (.c (.s (.int .u8 40))), none⟩,
 ⟨some 76, .conv .i64 (.t 75), none⟩,
 ⟨some 77, .bin .add (.t 72) (.t 76), none⟩,
 ⟨some 78, .faddr (.t 3) 10, none⟩,
 ⟨none, .store 1 (.t 78) (.t 77), none⟩] (none))
 (.seq (.region [
 ⟨some 79, .faddr (.t 1) 11, none⟩,
 ⟨some 80, .load 1 false (.t 79), none⟩,
 ⟨some 81, .bin .quo (.t 80) (.c (.s (.int .u8 4))), none⟩,
 ⟨some 82, .bin .rem (.t 81) (.c (.s (.int .u8 2))), none⟩,
 ⟨some 83, .conv .i64 (.t 82), none⟩,
 ⟨some 84, .build false [.s (.int .i64 0), .s (.string ⟨#[]⟩), .s (.int .i64 0)] [(0, 1, (.c (.s (.int .i64 3)))), (2, 1, (.t 83))], none⟩,
 ⟨some 85, .build false [.s (.string ⟨#[]⟩), .s (.int .i64 0), .s (.string ⟨#[]⟩), .s (.int .i64 0)] [(0, 1, (.c (.s (.string ⟨#[111, 107]⟩)))), (1, 3, (.t 84))], none⟩,
 ⟨some 86, .faddr (.t 1) 11, none⟩,
 ⟨some 87, .load 1 false (.t 86), none⟩,
 ⟨some 88, .conv .i64 (.t 87), none⟩,
 ⟨some 89, .bin .sub (.t 88) (.c (.s (.int .i64 60))), none⟩,
 ⟨some 90, .build false [.s (.int .i64 0), .s (.string ⟨#[]⟩), .s (.int .i64 0)] [(0, 1, (.c (.s (.int .i64 2)))), (2, 1, (.t 89))], none⟩,
 ⟨some 91, .build false [.s (.string ⟨#[]⟩), .s (.int .i64 0), .s (.string ⟨#[]⟩), .s (.int .i64 0)] [(0, 1, (.c (.s (.string ⟨#[115, 105, 122, 101]⟩)))), (1, 3, (.t 90))], none⟩,
 ⟨some 92, .bslice false 1 [(.c (.s (.string ⟨#[97]⟩))), (.c (.s (.string ⟨#[98]⟩))), (.c (.s (.string ⟨#[119, 101, 115, 116, 32, 49]⟩)))], none⟩,
 ⟨some 93, .faddr (.t 1) 11, none⟩,
 ⟨some 94, .load 1 false (.t 93), none⟩,
 ⟨some 95, .bin .quo (.t 94) (.c (.s (.int .u8 8))), none⟩,
 ⟨some 96, .bin .rem (.t 95) (.c (.s (.int .u8 3))), none⟩,
 ⟨some 97, .iaddr 1 (.t 92) (.t 96), none⟩,
 ⟨some 98, .load 1 false (.t 97), none⟩,
 ⟨some 99, .build false [.s (.int .i64 0), .s (.string ⟨#[]⟩), .s (.int .i64 0)] [(0, 1, (.c (.s (.int .i64 1)))), (1, 1, (.t 98))], none⟩,
 ⟨some 100, .build false [.s (.string ⟨#[]⟩), .s (.int .i64 0), .s (.string ⟨#[]⟩), .s (.int .i64 0)] [(0, 1, (.c (.s (.string ⟨#[122, 111, 110, 101]⟩)))), (1, 3, (.t 99))], none⟩,
 ⟨some 101, .bslice false 4 [(.t 85), (.t 91), (.t 100)], none⟩,
 ⟨some 4, .cp (.t 101), none⟩] (some []))
 (.seq (.region [
 ⟨some 102, .cp (.t 4), none⟩,
 ⟨some 103, .faddr (.t 1) 11, none⟩,
 ⟨some 104, .load 1 false (.t 103), none⟩,
 ⟨some 105, .bin .rem (.t 104) (.c (.s (.int .u8 4))), none⟩,
 ⟨some 106, .slLst 4 (.t 102) none (some (.t 105)), none⟩,
 ⟨some 107, .faddr (.t 3) 12, none⟩,
 ⟨none, .store 1 (.t 107) (.t 106), none⟩] (none))
 (.seq (.seq (.region [
 ⟨some 5, .cp (.c (.s (.int .i64 0))), none⟩] (none))
 (.block 0
 (.loop zdx_)))
 (.seq (.region [
 ⟨some 136, .load 14 true (.t 3), none⟩,
 ⟨none, .store 14 (.t 2) (.t 136), none⟩] (none))
 .ret))))))))) }
def zlf_ : XF := { np := 0, results := [(.inl 0, .v)], body :=
 (.seq (.region [
 ⟨some 0, .cp (.c (.s (.slice none 0 0))), none⟩] (none))
 (.seq (.region [
 ⟨some 1, .bslice false 1 [(.c (.s (.string ⟨#[105, 110, 116, 101, 114, 110, 97, 108]⟩))), (.c (.s (.string ⟨#[99, 108, 105, 101, 110, 116]⟩))), (.c (.s (.string ⟨#[115, 101, 114, 118, 101, 114]⟩))), (.c (.s (.string ⟨#[112, 114, 111, 100, 117, 99, 101, 114]⟩))), (.c (.s (.string ⟨#[99, 111, 110, 115, 117, 109, 101, 114]⟩)))], none⟩,
 ⟨some 0, .cp (.t 1), none⟩] (none))
 .ret)) }
def zlg_ : XF := { np := 1, results := [(.inl 2, .v)], body :=
 (.seq (.region [
 ⟨some 2, .cp (.c (.s (.int .i64 0))), none⟩] (none))
 (.seq (.seq (.region [
 ⟨some 3, .cp (.t 0), none⟩] (none))
 (.cond (.t 3)
 (.seq (.region [
 ⟨some 2, .cp (.c (.s (.int .i64 1))), none⟩] (none))
 .ret)
 .skip))
 (.seq (.region [
 ⟨some 2, .cp (.c (.s (.int .i64 0))), none⟩] (none))
 .ret))) }
def zlh_ : XF := { np := 2, results := [(.inl 3, .v)], body :=
 (.seq (.region [
 ⟨some 2, .box false (.t 0), none⟩,
 ⟨some 3, .cp (.c (.s (.bool false))), none⟩] (none))
 (.seq (.region [
 ⟨some 4, .load 7 true (.t 2), none⟩,
 ⟨some 5, .load 1 false (.t 1), none⟩,
 ⟨some 6, .call false zgl_ [(.t 4), (.t 5)], none⟩,
 ⟨some 3, .cp (.t 6), none⟩] (none))
 .ret)) }
def zli_ : XF := { np := 2, results := [(.inl 4, .v)], body :=
 (.seq (.region [
 ⟨some 4, .cp (.c (.s (.bool false))), none⟩] (none))
 (.seq (.region [
 ⟨some 5, .cp (.t 0), none⟩,
 ⟨some 6, .cp (.t 1), none⟩,
 ⟨some 7, .call false ztf_ [(.t 5), (.t 6)], none⟩,
 ⟨some 8, .bin .geq (.t 7) (.c (.s (.int .i64 0))), none⟩,
 ⟨some 4, .cp (.t 8), none⟩] (none))
 .ret)) }
def zlj_ : XF := { np := 2, results := [(.inl 3, .v)], body :=
 (.seq (.region [
 ⟨some 2, .box false (.t 0), none⟩,
 ⟨some 3, .cp (.c (.s (.bool false))), none⟩] (none))
 (.seq (.region [
 ⟨some 4, .load 1 false (.t 1), none⟩,
 ⟨some 5, .load 7 true (.t 2), none⟩,
 ⟨some 6, .callv false (.t 4) [(.t 5)], none⟩,
 ⟨some 7, .un .not (.t 6), none⟩,
 ⟨some 3, .cp (.t 7), none⟩] (none))
 .ret)) }
def zgn_ : XF := { np := 2, results := [(.inl 4, .v)], body :=
 (.seq (.region [
 ⟨some 2, .box false (.t 0), none⟩,
 ⟨some 3, .box false (.t 1), none⟩,
 ⟨some 4, .cp (.c (.s (.bool false))), none⟩] (none))
 (.seq (.seq (.region [
 ⟨some 5, .faddr (.t 3) 0, none⟩,
 ⟨some 6, .load 1 false (.t 5), none⟩,
 ⟨some 7, .faddr (.t 2) 3, none⟩,
 ⟨some 8, .faddr (.t 7) 0, none⟩,
 ⟨some 9, .load 1 false (.t 8), none⟩,
 ⟨some 10, .bin .neq (.t 6) (.t 9), none⟩] (none))
 (.cond (.t 10)
 (.seq (.region [
 ⟨some 4, .cp (.c (.s (.bool false))), none⟩] (none))
 .ret)
 .skip))
 (.seq (.seq (.region [
 ⟨some 11, .faddr (.t 2) 0, none⟩,
 ⟨some 12, .load 1 false (.t 11), none⟩] (none))
 (.block 0
 (.seq (.region [
 ⟨some 14, .bin .eql (.t 12) (.c (.s (.int .i64 5))), none⟩,
 ⟨some 13, .cp (.t 14), none⟩] (none))
 (.cond (.t 13)
 (.seq (.region [
 ⟨some 15, .load 3 true (.t 3), none⟩,
 ⟨some 16, .faddr (.t 2) 3, none⟩,
 ⟨some 17, .load 3 true (.t 16), none⟩,
 ⟨some 18, .eqv (.a [.i, .t, .i]) false (.t 15) (.t 17), none⟩,
 ⟨some 4, .cp (.t 18), none⟩] (none))
 .ret)
 (.seq (.region [
 ⟨some 20, .bin .eql (.t 12) (.c (.s (.int .i64 6))), none⟩,
 ⟨some 19, .cp (.t 20), none⟩] (none))
 (.cond (.t 19)
 (.seq (.region [
 ⟨some 21, .load 3 true (.t 3), none⟩,
 ⟨some 22, .faddr (.t 2) 3, none⟩,
 ⟨some 23, .load 3 true (.t 22), none⟩,
 ⟨some 24, .call false zoq_ [(.t 21), (.t 23)], none⟩,
 ⟨some 25, .bin .lss (.t 24) (.c (.s (.int .i64 0))), none⟩,
 ⟨some 4, .cp (.t 25), none⟩] (none))
 .ret)
 .skip))))))
 (.seq (.region [
 ⟨some 26, .faddr (.t 3) 1, none⟩,
 ⟨some 27, .load 1 false (.t 26), none⟩,
 ⟨some 28, .faddr (.t 2) 3, none⟩,
 ⟨some 29, .faddr (.t 28) 1, none⟩,
 ⟨some 30, .load 1 false (.t 29), none⟩,
 ⟨some 31, .call false ztg_ [(.t 27), (.t 30)], none⟩,
 ⟨some 4, .cp (.t 31), none⟩] (none))
 .ret)))) }
def zpe_ : XC :=
 (.seq (.region [
 ⟨some 11, .bin .lss (.t 10) (.t 9), none⟩] (none))
 (.seq (.cond (.t 11)
 .skip
 (.exit 0))
 (.seq (.block 1
 (.seq (.region [
 ⟨some 12, .cp (.t 10), none⟩,
 ⟨some 13, .iaddr 14 (.t 8) (.t 10), none⟩,
 ⟨some 14, .load 14 true (.t 13), none⟩,
 ⟨some 7, .alloc [.s (.int .i64 0), .s (.int .i64 0), .s (.int .i64 0), .s (.int .i64 0), .s (.int .i64 0), .s (.int .i64 0), .s (.string ⟨#[]⟩), .s (.string ⟨#[]⟩), .s (.string ⟨#[]⟩), .s (.int .i64 0), .s (.int .i64 0), .s (.bool false), .s (.slice none 0 0), .s (.slice none 0 0)], none⟩,
 ⟨some 6, .cp (.t 12), none⟩,
 ⟨none, .store 14 (.t 7) (.t 14), none⟩] (none))
 (.seq (.region [
 ⟨some 15, .cp (.t 1), none⟩,
 ⟨some 16, .cp (.t 6), none⟩,
 ⟨some 17, .callv false (.t 15) [(.t 16)], none⟩] (none))
 (.cond (.t 17)
 (.region [
 ⟨some 18, .cp (.t 5), none⟩,
 ⟨some 19, .load 14 true (.t 7), none⟩,
 ⟨some 20, .call false zsw_ [(.t 19)], none⟩,
 ⟨some 21, .bslice false 14 [(.t 20)], none⟩,
 ⟨some 22, .append 14 837723144972 (.t 18) (.t 21), none⟩,
 ⟨some 5, .cp (.t 22), none⟩] (none))
 .skip))))
 (.region [
 ⟨some 23, .bin .add (.t 10) (.c (.s (.int .i64 1))), none⟩,
 ⟨some 10, .cp (.t 23), none⟩] (none)))))
def zlk_ : XF := { np := 2, results := [(.inl 4, .v)], body :=
 (.seq (.region [
 ⟨some 4, .cp (.c (.s (.slice none 0 0))), none⟩] (none))
 (.seq (.region [
 ⟨some 5, .cp (.c (.s (.slice none 0 0))), none⟩] (none))
 (.seq (.seq (.region [
 ⟨some 8, .cp (.t 0), none⟩,
 ⟨some 9, .len false (.t 8), none⟩,
 ⟨some 10, .cp (.c (.s (.int .i64 0))), none⟩] (none))
 (.block 0
 (.loop zpe_)))
 (.seq (.region [
 ⟨some 24, .cp (.t 5), none⟩,
 ⟨some 4, .cp (.t 24), none⟩] (none))
 .ret)))) }
def zll_ : XF := { np := 3, results := [(.inl 4, .v)], body :=
 (.seq (.region [
 ⟨some 4, .cp (.c (.s (.bool false))), none⟩] (none))
 (.seq (.region [
 ⟨some 5, .load 7 true (.t 1), none⟩,
 ⟨some 6, .load 1 false (.t 2), none⟩,
 ⟨some 7, .cp (.t 0), none⟩,
 ⟨some 8, .iaddr 14 (.t 6) (.t 7), none⟩,
 ⟨some 9, .load 14 true (.t 8), none⟩,
 ⟨some 10, .call false zot_ [(.t 5), (.t 9)], none⟩,
 ⟨some 4, .cp (.t 10), none⟩] (some []))
 .ret)) }
def zlm_ : XF := { np := 1, results := [(.inr (2, 2, true), .v)], body :=
 (.seq (.region [
 ⟨some 1, .box false (.t 0), none⟩,
 ⟨some 2, .alloc [.s (.int .i64 0), .s (.int .i64 0)], none⟩] (none))
 (.seq (.region [
 ⟨some 3, .faddr (.t 1) 0, none⟩,
 ⟨some 4, .load 1 false (.t 3), none⟩,
 ⟨some 5, .faddr (.t 1) 1, none⟩,
 ⟨some 6, .load 1 false (.t 5), none⟩,
 ⟨some 7, .build false [.s (.int .i64 0), .s (.int .i64 0)] [(0, 1, (.t 4)), (1, 1, (.t 6))], none⟩,
 ⟨none, .store 2 (.t 2) (.t 7), none⟩] (none))
 .ret)) }
def zln_ : XF := { np := 2, results := [(.inl 4, .v)], body :=
 (.seq (.region [
 ⟨some 2, .box false (.t 0), none⟩,
 ⟨some 3, .box false (.t 1), none⟩,
 ⟨some 4, .cp (.c (.s (.int .i64 0))), none⟩] (none))
 (.seq (.region [
 ⟨some 7, .faddr (.t 2) 0, none⟩,
 ⟨some 8, .load 1 false (.t 7), none⟩,
 ⟨some 9, .faddr (.t 2) 1, none⟩,
 ⟨some 10, .load 1 false (.t 9), none⟩,
 ⟨some 11, .faddr (.t 2) 3, none⟩,
 ⟨some 12, .load 1 false (.t 11), none⟩,
 ⟨some 13, .faddr (.t 2) 2, none⟩,
 ⟨some 14, .load 1 false (.t 13), none⟩,
 ⟨some 15, .faddr (.t 2) 4, none⟩,
 ⟨some 16, .load 1 false (.t 15), none⟩,
 ⟨some 17, .faddr (.t 2) 5, none⟩,
 ⟨some 18, .load 1 false (.t 17), none⟩,
 ⟨some 19, .build false [.s (.int .i64 0), .s (.int .i64 0), .s (.int .i64 0), .s (.int .i64 0), .s (.int .i64 0), .s (.int .i64 0)] [(0, 1, (.t 8)), (1, 1, (.t 10)), (2, 1, (.t 12)), (3, 1, (.t 14)), (4, 1, (.t 16)), (5, 1, (.t 18))], none⟩,
 ⟨some 5, .alloc [.s (.int .i64 0), .s (.int .i64 0), .s (.int .i64 0), .s (.int .i64 0), .s (.int .i64 0), .s (.int .i64 0)], none⟩,
 ⟨none, .store 6 (.t 5) (.t 19), none⟩] (none))
 (.seq (.region [
 ⟨some 20, .faddr (.t 3) 0, none⟩,
 ⟨some 21, .load 1 false (.t 20), none⟩,
 ⟨some 22, .faddr (.t 3) 1, none⟩,
 ⟨some 23, .load 1 false (.t 22), none⟩,
 ⟨some 24, .faddr (.t 3) 3, none⟩,
 ⟨some 25, .load 1 false (.t 24), none⟩,
 ⟨some 26, .faddr (.t 3) 2, none⟩,
 ⟨some 27, .load 1 false (.t 26), none⟩,
 ⟨some 28, .faddr (.t 3) 4, none⟩,
 ⟨some 29, .load 1 false (.t 28), none⟩,
 ⟨some 30, .faddr (.t 3) 5, none⟩,
 ⟨some 31, .load 1 false (.t 30), none⟩,
 ⟨some 32, .build false [.s (.int .i64 0), .s (.int .i64 0), .s (.int .i64 0), .s (.int .i64 0), .s (.int .i64 0), .s (.int .i64 0)] [(0, 1, (.t 21)), (1, 1, (.t 23)), (2, 1, (.t 25)), (3, 1, (.t 27)), (4, 1, (.t 29)), (5, 1, (.t 31))], none⟩,
 ⟨some 6, .alloc [.s (.int .i64 0), .s (.int .i64 0), .s (.int .i64 0), .s (.int .i64 0), .s (.int .i64 0), .s (.int .i64 0)], none⟩,
 ⟨none, .store 6 (.t 6) (.t 32), none⟩] (none))
 (.seq (.region [
 ⟨some 33, .slBox 6 (.t 5), none⟩,
 ⟨some 34, .slBox 6 (.t 6), none⟩,
 ⟨some 35, .call false zoj_ [(.t 33), (.t 34)], none⟩,
 ⟨some 36, .faddr (.t 2) 6, none⟩,
 ⟨some 37, .load 1 false (.t 36), none⟩,
 ⟨some 38, .faddr (.t 3) 6, none⟩,
 ⟨some 39, .load 1 false (.t 38), none⟩,
 ⟨some 40, .call false zgj_ [(.t 37), (.t 39)], none⟩,
 ⟨some 41, .faddr (.t 2) 7, none⟩,
 ⟨some 42, .load 1 false (.t 41), none⟩,
 ⟨some 43, .faddr (.t 3) 7, none⟩,
 ⟨some 44, .load 1 false (.t 43), none⟩,
 ⟨some 45, .call false zgj_ [(.t 42), (.t 44)], none⟩,
 ⟨some 46, .faddr (.t 2) 8, none⟩,
 ⟨some 47, .load 1 false (.t 46), none⟩,
 ⟨some 48, .faddr (.t 3) 8, none⟩,
 ⟨some 49, .load 1 false (.t 48), none⟩,
 ⟨some 50, .call false zgj_ [(.t 47), (.t 49)], none⟩,
 ⟨some 51, .faddr (.t 2) 9, none⟩,
 ⟨some 52, .load 1 false (.t 51), none⟩,
 ⟨some 53, .faddr (.t 3) 9, none⟩,
 ⟨some 54, .load 1 false (.t 53), none⟩,
 ⟨some 55, .call false zed_ [(.t 52), (.t 54)], none⟩,
 ⟨some 56, .faddr (.t 2) 10, none⟩,
 ⟨some 57, .load 1 false (.t 56), none⟩,
 ⟨some 58, .faddr (.t 3) 10, none⟩,
 ⟨some 59, .load 1 false (.t 58), none⟩,
 ⟨some 60, .call false zed_ [(.t 57), (.t 59)], none⟩,
 ⟨some 61, .faddr (.t 2) 11, none⟩,
 ⟨some 62, .load 1 false (.t 61), none⟩,
 ⟨some 63, .call false zkk_ [(.t 62)], none⟩,
 ⟨some 64, .faddr (.t 3) 11, none⟩,
 ⟨some 65, .load 1 false (.t 64), none⟩,
 ⟨some 66, .call false zkk_ [(.t 65)], none⟩,
 ⟨some 67, .bin .sub (.t 63) (.t 66), none⟩,
 ⟨some 68, .faddr (.t 2) 12, none⟩,
 ⟨some 69, .load 1 false (.t 68), none⟩,
 ⟨some 70, .faddr (.t 3) 12, none⟩,
 ⟨some 71, .load 1 false (.t 70), none⟩,
 ⟨some 72, .call false zso_ [(.t 69), (.t 71)], none⟩,
 ⟨some 73, .faddr (.t 2) 13, none⟩,
 ⟨some 74, .load 1 false (.t 73), none⟩,
 ⟨some 75, .faddr (.t 3) 13, none⟩,
 ⟨some 76, .load 1 false (.t 75), none⟩,
 ⟨some 77, .call false zsp_ [(.t 74), (.t 76), (.c (.fn zir_ [] []))], none⟩,
 ⟨some 78, .bslice false 1 [(.t 35), (.t 40), (.t 45), (.t 50), (.t 55), (.t 60), (.t 67), (.t 72), (.t 77)], none⟩,
 ⟨some 79, .call false zit_ [(.t 78)], none⟩,
 ⟨some 4, .cp (.t 79), none⟩] (some [(2, none), (7, none), (12, none), (17, none), (22, none), (27, none), (30, none), (33, none), (39, some 41), (39, some 43)]))
 .ret)))) }
def zlo_ : XF := { np := 1, results := [(.inr (2, 14, true), .v)], body :=
 (.seq (.region [
 ⟨some 1, .box false (.t 0), none⟩,
 ⟨some 2, .alloc [.s (.int .i64 0), .s (.int .i64 0), .s (.int .i64 0), .s (.int .i64 0), .s (.int .i64 0), .s (.int .i64 0), .s (.string ⟨#[]⟩), .s (.string ⟨#[]⟩), .s (.string ⟨#[]⟩), .s (.int .i64 0), .s (.int .i64 0), .s (.bool false), .s (.slice none 0 0), .s (.slice none 0 0)], none⟩] (none))
 (.seq (.region [
 ⟨some 3, .faddr (.t 1) 12, none⟩,
 ⟨some 4, .load 1 false (.t 3), none⟩,
 ⟨some 5, .call false zsy_ [(.t 4)], none⟩,
 ⟨some 6, .faddr (.t 1) 13, none⟩,
 ⟨some 7, .load 1 false (.t 6), none⟩,
 ⟨some 8, .call false zsz_ [(.t 7)], none⟩,
 ⟨some 9, .faddr (.t 1) 12, none⟩,
 ⟨none, .store 1 (.t 9) (.t 5), none⟩,
 ⟨some 10, .faddr (.t 1) 13, none⟩,
 ⟨none, .store 1 (.t 10) (.t 8), none⟩] (some [(2, some 4)]))
 (.seq (.region [
 ⟨some 11, .load 14 true (.t 1), none⟩,
 ⟨none, .store 14 (.t 2) (.t 11), none⟩] (none))
 .ret))) }
def zja_ : XF := { np := 2, results := [(.inl 4, .v)], body :=
 (.seq (.region [
 ⟨some 4, .cp (.c (.s (.int .i64 0))), none⟩] (none))
 (.seq (.seq (.region [
 ⟨some 5, .cp (.t 0), none⟩,
 ⟨some 6, .cp (.t 1), none⟩,
 ⟨some 7, .bin .lss (.t 5) (.t 6), none⟩] (none))
 (.cond (.t 7)
 (.seq (.region [
 ⟨some 4, .cp (.c (.s (.int .i64 (-1)))), none⟩] (none))
 .ret)
 .skip))
 (.seq (.seq (.region [
 ⟨some 8, .cp (.t 0), none⟩,
 ⟨some 9, .cp (.t 1), none⟩,
 ⟨some 10, .bin .gtr (.t 8) (.t 9), none⟩] (none))
 (.cond (.t 10)
 (.seq (.region [
 ⟨some 4, .cp (.c (.s (.int .i64 1))), none⟩] (none))
 .ret)
 .skip))
 (.seq (.region [
 ⟨some 4, .cp (.c (.s (.int .i64 0))), none⟩] (none))
 .ret)))) }
def zhp_ : XF := { np := 2, results := [(.inl 4, .v)], body :=
 (.seq (.region [
 ⟨some 4, .cp (.c (.s (.int .i64 0))), none⟩] (none))
 (.seq (.seq (.region [
 ⟨some 5, .cp (.t 0), none⟩,
 ⟨some 6, .cp (.t 1), none⟩,
 ⟨some 7, .bin .lss (.t 5) (.t 6), none⟩] (none))
 (.cond (.t 7)
 (.seq (.region [
 ⟨some 4, .cp (.c (.s (.int .i64 (-1)))), none⟩] (none))
 .ret)
 .skip))
 (.seq (.seq (.region [
 ⟨some 8, .cp (.t 0), none⟩,
 ⟨some 9, .cp (.t 1), none⟩,
 ⟨some 10, .bin .gtr (.t 8) (.t 9), none⟩] (none))
 (.cond (.t 10)
 (.seq (.region [
 ⟨some 4, .cp (.c (.s (.int .i64 1))), none⟩] (none))
 .ret)
 .skip))
 (.seq (.region [
 ⟨some 4, .cp (.c (.s (.int .i64 0))), none⟩] (none))
 .ret)))) }
def zjb_ : XF := { np := 2, results := [(.inl 4, .v)], body :=
 (.seq (.region [
 ⟨some 2, .box false (.t 0), none⟩,
 ⟨some 3, .box false (.t 1), none⟩,
 ⟨some 4, .cp (.c (.s (.int .i64 0))), none⟩] (none))
 (.seq (.seq (.region [
 ⟨some 6, .faddr (.t 2) 0, none⟩,
 ⟨some 7, .load 1 false (.t 6), none⟩,
 ⟨some 8, .faddr (.t 3) 0, none⟩,
 ⟨some 9, .load 1 false (.t 8), none⟩,
 ⟨some 10, .call false zbz_ [(.t 7), (.t 9)], none⟩,
 ⟨some 5, .cp (.t 10), none⟩] (none))
 (.seq (.region [
 ⟨some 11, .cp (.t 5), none⟩,
 ⟨some 12, .bin .neq (.t 11) (.c (.s (.int .i64 0))), none⟩] (none))
 (.cond (.t 12)
 (.seq (.region [
 ⟨some 13, .cp (.t 5), none⟩,
 ⟨some 4, .cp (.t 13), none⟩] (none))
 .ret)
 .skip)))
 (.seq (.region [
 ⟨some 14, .faddr (.t 2) 1, none⟩,
 ⟨some 15, .load 1 false (.t 14), none⟩,
 ⟨some 16, .faddr (.t 3) 1, none⟩,
 ⟨some 17, .load 1 false (.t 16), none⟩,
 ⟨some 18, .call false zbz_ [(.t 15), (.t 17)], none⟩,
 ⟨some 4, .cp (.t 18), none⟩] (none))
 .ret))) }
def zhq_ : XF := { np := 1, results := [(.inl 2, .v)], body :=
 (.seq (.region [
 ⟨some 2, .cp (.c (.s (.slice none 0 0))), none⟩] (none))
 (.seq (.region [
 ⟨some 3, .cp (.t 0), none⟩,
 ⟨some 4, .call false zgk_ [(.t 3)], none⟩,
 ⟨some 5, .call true zsx_ [(.t 4), (.c (.fn zhl_ [] []))], none⟩,
 ⟨some 6, .call false zko_ [(.t 5), (.c (.fn zgi_ [] []))], none⟩,
 ⟨some 2, .cp (.t 6), none⟩] (none))
 .ret)) }
def zjc_ : XF := { np := 2, results := [(.inl 3, .v)], body :=
 (.seq (.region [
 ⟨some 3, .cp (.c (.s (.bool false))), none⟩] (none))
 (.seq (.region [
 ⟨some 4, .cp (.t 0), none⟩,
 ⟨some 5, .bin .add (.t 4) (.c (.s (.int .i64 1))), none⟩,
 ⟨some 6, .load 1 false (.t 1), none⟩,
 ⟨some 7, .len false (.t 6), none⟩,
 ⟨some 8, .bin .eql (.t 5) (.t 7), none⟩,
 ⟨some 9, .cp (.t 8), none⟩,
 ⟨some 10, .load 1 false (.t 1), some (9, false)⟩,
 ⟨some 11, .cp (.t 0), some (9, false)⟩,
 ⟨some 12, .bin .add (.t 11) (.c (.s (.int .i64 1))), some (9, false)⟩,
 ⟨some 13, .iaddr 14 (.t 10) (.t 12), some (9, false)⟩,
 ⟨some 14, .load 14 true (.t 13), some (9, false)⟩,
 ⟨some 15, .call false zoc_ [(.t 14)], some (9, false)⟩,
 ⟨some 16, .load 1 false (.t 1), some (9, false)⟩,
 ⟨some 17, .cp (.t 0), some (9, false)⟩,
 ⟨some 18, .iaddr 14 (.t 16) (.t 17), some (9, false)⟩,
 ⟨some 19, .load 14 true (.t 18), some (9, false)⟩,
 ⟨some 20, .call false zoc_ [(.t 19)], some (9, false)⟩,
 ⟨some 21, .eqv (.a [.i, .i]) true (.t 15) (.t 20), some (9, false)⟩,
 ⟨some 22, .pick (.t 9) (.c (.s (.bool true))) (.t 21), none⟩,
 ⟨some 3, .cp (.t 22), none⟩] (some [(11, none)]))
 .ret)) }
def zjd_ : XF := { np := 2, results := [(.inr (4, 3, true), .v), (.inl 5, .v)], body :=
 (.seq (.region [
 ⟨some 4, .alloc [.s (.int .i64 0), .s (.string ⟨#[]⟩), .s (.int .i64 0)], none⟩,
 ⟨some 5, .cp (.c (.s (.bool false))), none⟩] (none))
 (.seq (.region [
 ⟨some 9, .cp (.t 0), none⟩,
 ⟨some 10, .cp (.t 1), none⟩,
 ⟨some 11, .call false zsr_ [(.t 9), (.t 10)], none⟩,
 ⟨some 8, .cp (.t 11), none⟩,
 ⟨some 12, .extract (.t 8) 0, none⟩,
 ⟨some 13, .extract (.t 8) 1, none⟩,
 ⟨some 6, .cp (.t 12), none⟩,
 ⟨some 7, .cp (.t 13), none⟩] (none))
 (.seq (.seq (.region [
 ⟨some 14, .cp (.t 7), none⟩,
 ⟨some 15, .un .not (.t 14), none⟩] (none))
 (.cond (.t 15)
 (.seq (.region [
 ⟨some 16, .build false [.s (.int .i64 0), .s (.string ⟨#[]⟩), .s (.int .i64 0)] [], none⟩,
 ⟨none, .store 3 (.t 4) (.t 16), none⟩,
 ⟨some 5, .cp (.c (.s (.bool false))), none⟩] (none))
 .ret)
 .skip))
 (.seq (.region [
 ⟨some 17, .cp (.t 0), none⟩,
 ⟨some 18, .cp (.t 6), none⟩,
 ⟨some 19, .iaddr 4 (.t 17) (.t 18), none⟩,
 ⟨some 20, .faddr (.t 19) 1, none⟩,
 ⟨some 21, .load 3 true (.t 20), none⟩,
 ⟨none, .store 3 (.t 4) (.t 21), none⟩,
 ⟨some 5, .cp (.c (.s (.bool true))), none⟩] (none))
 .ret)))) }
def zbi_ : XF := { np := 1, results := [(.inl 2, .v), (.inl 3, .v)], body :=
 (.seq (.region [
 ⟨some 2, .cp (.c (.s (.int .i64 0))), none⟩,
 ⟨some 3, .cp (.c (.s (.bool false))), none⟩] (none))
 (.seq (.seq (.region [
 ⟨some 4, .call false zod_ [], none⟩,
 ⟨some 5, .cp (.t 0), none⟩,
 ⟨some 6, .call false zsq_ [(.t 4), (.t 5)], none⟩,
 ⟨some 7, .un .not (.t 6), none⟩] (none))
 (.cond (.t 7)
 (.seq (.region [
 ⟨some 2, .cp (.c (.s (.int .i64 0))), none⟩,
 ⟨some 3, .cp (.c (.s (.bool false))), none⟩] (none))
 .ret)
 .skip))
 (.seq (.seq (.region [
 ⟨some 8, .cp (.t 0), none⟩] (none))
 (.block 0
 (.seq (.seq (.region [
 ⟨some 10, .bin .eql (.t 8) (.c (.s (.string ⟨#[107, 105, 110, 100]⟩))), none⟩,
 ⟨some 9, .cp (.t 10), none⟩] (none))
 (.cond (.t 9)
 .skip
 (.seq (.region [
 ⟨some 11, .bin .eql (.t 8) (.c (.s (.string ⟨#[111, 112, 101, 114, 97, 116, 105, 111, 110]⟩))), none⟩,
 ⟨some 9, .cp (.t 11), none⟩] (none))
 (.cond (.t 9)
 .skip
 (.seq (.region [
 ⟨some 12, .bin .eql (.t 8) (.c (.s (.string ⟨#[115, 101, 114, 118, 105, 99, 101]⟩))), none⟩,
 ⟨some 9, .cp (.t 12), none⟩] (none))
 (.cond (.t 9)
 .skip
 (.region [
 ⟨some 13, .bin .eql (.t 8) (.c (.s (.string ⟨#[118, 101, 114, 115, 105, 111, 110]⟩))), none⟩,
 ⟨some 9, .cp (.t 13), none⟩] (none))))))))
 (.cond (.t 9)
 (.seq (.region [
 ⟨some 2, .cp (.c (.s (.int .i64 1))), none⟩,
 ⟨some 3, .cp (.c (.s (.bool true))), none⟩] (none))
 .ret)
 (.seq (.seq (.region [
 ⟨some 15, .bin .eql (.t 8) (.c (.s (.string ⟨#[101, 114, 114, 111, 114]⟩))), none⟩,
 ⟨some 14, .cp (.t 15), none⟩] (none))
 (.cond (.t 14)
 .skip
 (.region [
 ⟨some 16, .bin .eql (.t 8) (.c (.s (.string ⟨#[114, 111, 111, 116]⟩))), none⟩,
 ⟨some 14, .cp (.t 16), none⟩] (none))))
 (.cond (.t 14)
 (.seq (.region [
 ⟨some 2, .cp (.c (.s (.int .i64 3))), none⟩,
 ⟨some 3, .cp (.c (.s (.bool true))), none⟩] (none))
 .ret)
 .skip))))))
 (.seq (.region [
 ⟨some 2, .cp (.c (.s (.int .i64 2))), none⟩,
 ⟨some 3, .cp (.c (.s (.bool true))), none⟩] (none))
 .ret)))) }
def zgo_ : XF := { np := 2, results := [(.inl 4, .v)], body :=
 (.seq (.region [
 ⟨some 2, .box false (.t 0), none⟩,
 ⟨some 4, .cp (.c (.s (.string ⟨#[]⟩))), none⟩] (none))
 (.seq (.seq (.region [
 ⟨some 7, .cp (.t 1), none⟩] (none))
 (.block 0
 (.seq (.region [
 ⟨some 9, .bin .eql (.t 7) (.c (.s (.string ⟨#[107, 105, 110, 100]⟩))), none⟩,
 ⟨some 8, .cp (.t 9), none⟩] (none))
 (.cond (.t 8)
 (.seq (.region [
 ⟨some 11, .faddr (.t 2) 0, none⟩,
 ⟨some 12, .faddr (.t 11) 5, none⟩,
 ⟨some 13, .load 1 false (.t 12), none⟩,
 ⟨some 14, .call false zsf_ [(.t 13)], none⟩,
 ⟨some 10, .cp (.t 14), none⟩,
 ⟨some 15, .extract (.t 10) 0, none⟩,
 ⟨some 16, .extract (.t 10) 1, none⟩,
 ⟨some 5, .cp (.t 15), none⟩,
 ⟨some 6, .cp (.t 16), none⟩] (none))
 (.seq (.region [
 ⟨some 17, .cp (.t 5), none⟩,
 ⟨some 4, .cp (.t 17), none⟩] (none))
 .ret))
 (.seq (.region [
 ⟨some 19, .bin .eql (.t 7) (.c (.s (.string ⟨#[111, 112, 101, 114, 97, 116, 105, 111, 110]⟩))), none⟩,
 ⟨some 18, .cp (.t 19), none⟩] (none))
 (.cond (.t 18)
 (.seq (.region [
 ⟨some 20, .faddr (.t 2) 0, none⟩,
 ⟨some 21, .faddr (.t 20) 8, none⟩,
 ⟨some 22, .load 1 false (.t 21), none⟩,
 ⟨some 4, .cp (.t 22), none⟩] (none))
 .ret)
 (.seq (.region [
 ⟨some 24, .bin .eql (.t 7) (.c (.s (.string ⟨#[115, 101, 114, 118, 105, 99, 101]⟩))), none⟩,
 ⟨some 23, .cp (.t 24), none⟩] (none))
 (.cond (.t 23)
 (.seq (.region [
 ⟨some 25, .faddr (.t 2) 0, none⟩,
 ⟨some 26, .faddr (.t 25) 6, none⟩,
 ⟨some 27, .load 1 false (.t 26), none⟩,
 ⟨some 4, .cp (.t 27), none⟩] (none))
 .ret)
 .skip))))))))
 (.seq (.region [
 ⟨some 28, .faddr (.t 2) 0, none⟩,
 ⟨some 29, .faddr (.t 28) 7, none⟩,
 ⟨some 30, .load 1 false (.t 29), none⟩,
 ⟨some 4, .cp (.t 30), none⟩] (none))
 .ret))) }
def zcs_ : XF := { np := 2, results := [(.inl 4, .v)], body :=
 (.seq (.region [
 ⟨some 2, .box false (.t 0), none⟩,
 ⟨some 4, .cp (.c (.s (.int .i64 0))), none⟩] (none))
 (.seq (.region [
 ⟨some 6, .faddr (.t 2) 0, none⟩,
 ⟨some 7, .load 14 true (.t 6), none⟩,
 ⟨some 5, .alloc [.s (.int .i64 0), .s (.int .i64 0), .s (.int .i64 0), .s (.int .i64 0), .s (.int .i64 0), .s (.int .i64 0), .s (.string ⟨#[]⟩), .s (.string ⟨#[]⟩), .s (.string ⟨#[]⟩), .s (.int .i64 0), .s (.int .i64 0), .s (.bool false), .s (.slice none 0 0), .s (.slice none 0 0)], none⟩,
 ⟨none, .store 14 (.t 5) (.t 7), none⟩] (none))
 (.seq (.seq (.region [
 ⟨some 8, .cp (.t 1), none⟩] (none))
 (.block 0
 (.seq (.region [
 ⟨some 10, .bin .eql (.t 8) (.c (.s (.string ⟨#[99, 108, 111, 99, 107]⟩))), none⟩,
 ⟨some 9, .cp (.t 10), none⟩] (none))
 (.cond (.t 9)
 (.seq (.region [
 ⟨some 11, .faddr (.t 5) 4, none⟩,
 ⟨some 12, .load 1 false (.t 11), none⟩,
 ⟨some 4, .cp (.t 12), none⟩] (none))
 .ret)
 (.seq (.region [
 ⟨some 14, .bin .eql (.t 8) (.c (.s (.string ⟨#[100, 117, 114, 97, 116, 105, 111, 110]⟩))), none⟩,
 ⟨some 13, .cp (.t 14), none⟩] (none))
 (.cond (.t 13)
 (.seq (.region [
 ⟨some 15, .load 14 true (.t 5), none⟩,
 ⟨some 16, .call false zsh_ [(.t 15)], none⟩,
 ⟨some 4, .cp (.t 16), none⟩] (none))
 .ret)
 (.seq (.region [
 ⟨some 18, .bin .eql (.t 8) (.c (.s (.string ⟨#[101, 110, 100]⟩))), none⟩,
 ⟨some 17, .cp (.t 18), none⟩] (none))
 (.cond (.t 17)
 (.seq (.region [
 ⟨some 19, .faddr (.t 5) 10, none⟩,
 ⟨some 20, .load 1 false (.t 19), none⟩,
 ⟨some 4, .cp (.t 20), none⟩] (none))
 .ret)
 (.seq (.region [
 ⟨some 22, .bin .eql (.t 8) (.c (.s (.string ⟨#[105, 100]⟩))), none⟩,
 ⟨some 21, .cp (.t 22), none⟩] (none))
 (.cond (.t 21)
 (.seq (.region [
 ⟨some 23, .faddr (.t 5) 1, none⟩,
 ⟨some 24, .load 1 false (.t 23), none⟩,
 ⟨some 4, .cp (.t 24), none⟩] (none))
 .ret)
 (.seq (.region [
 ⟨some 26, .bin .eql (.t 8) (.c (.s (.string ⟨#[112, 97, 114, 101, 110, 116]⟩))), none⟩,
 ⟨some 25, .cp (.t 26), none⟩] (none))
 (.cond (.t 25)
 (.seq (.region [
 ⟨some 27, .faddr (.t 5) 2, none⟩,
 ⟨some 28, .load 1 false (.t 27), none⟩,
 ⟨some 4, .cp (.t 28), none⟩] (none))
 .ret)
 (.seq (.region [
 ⟨some 30, .bin .eql (.t 8) (.c (.s (.string ⟨#[114, 101, 118, 105, 115, 105, 111, 110]⟩))), none⟩,
 ⟨some 29, .cp (.t 30), none⟩] (none))
 (.cond (.t 29)
 (.seq (.region [
 ⟨some 31, .faddr (.t 5) 3, none⟩,
 ⟨some 32, .load 1 false (.t 31), none⟩,
 ⟨some 4, .cp (.t 32), none⟩] (none))
 .ret)
 (.seq (.region [
 ⟨some 34, .bin .eql (.t 8) (.c (.s (.string ⟨#[115, 108, 111, 116]⟩))), none⟩,
 ⟨some 33, .cp (.t 34), none⟩] (none))
 (.cond (.t 33)
 (.seq (.region [
 ⟨some 35, .faddr (.t 5) 0, none⟩,
 ⟨some 36, .load 1 false (.t 35), none⟩,
 ⟨some 37, .call false zog_ [(.t 36)], none⟩,
 ⟨some 4, .cp (.t 37), none⟩] (none))
 .ret)
 (.seq (.region [
 ⟨some 39, .bin .eql (.t 8) (.c (.s (.string ⟨#[115, 116, 97, 114, 116]⟩))), none⟩,
 ⟨some 38, .cp (.t 39), none⟩] (none))
 (.cond (.t 38)
 (.seq (.region [
 ⟨some 40, .faddr (.t 5) 9, none⟩,
 ⟨some 41, .load 1 false (.t 40), none⟩,
 ⟨some 4, .cp (.t 41), none⟩] (none))
 .ret)
 .skip))))))))))))))))))
 (.seq (.region [
 ⟨some 42, .faddr (.t 5) 0, none⟩,
 ⟨some 43, .load 1 false (.t 42), none⟩,
 ⟨some 4, .cp (.t 43), none⟩] (none))
 .ret)))) }
def zlp_ : XF := { np := 1, results := [(.inl 2, .v)], body :=
 (.seq (.region [
 ⟨some 2, .cp (.c (.s (.int .i64 0))), none⟩] (none))
 (.seq (.seq (.region [
 ⟨some 3, .cp (.t 0), none⟩] (none))
 (.cond (.t 3)
 (.seq (.region [
 ⟨some 2, .cp (.c (.s (.int .i64 1))), none⟩] (none))
 .ret)
 .skip))
 (.seq (.region [
 ⟨some 2, .cp (.c (.s (.int .i64 0))), none⟩] (none))
 .ret))) }
def zhr_ : XF := { np := 1, results := [(.inl 2, .v)], body :=
 (.seq (.region [
 ⟨some 2, .cp (.c (.s (.bool false))), none⟩] (none))
 (.seq (.region [
 ⟨some 3, .cp (.t 0), none⟩,
 ⟨some 4, .bin .lss (.t 3) (.c (.s (.int .i64 1))), none⟩,
 ⟨some 5, .cp (.t 4), none⟩,
 ⟨some 6, .cp (.t 0), some (5, false)⟩,
 ⟨some 7, .bin .gtr (.t 6) (.c (.s (.int .i64 1099511627776))), some (5, false)⟩,
 ⟨some 8, .pick (.t 5) (.c (.s (.bool true))) (.t 7), none⟩,
 ⟨some 2, .cp (.t 8), none⟩] (none))
 .ret)) }
def zhs_ : XF := { np := 1, results := [(.inl 2, .v)], body :=
 (.seq (.region [
 ⟨some 2, .cp (.c (.s (.bool false))), none⟩] (none))
 (.seq (.region [
 ⟨some 3, .cp (.t 0), none⟩,
 ⟨some 4, .bin .neq (.t 3) (.c (.s (.string ⟨#[]⟩))), none⟩,
 ⟨some 5, .cp (.t 4), none⟩,
 ⟨some 6, .cp (.t 0), some (5, true)⟩,
 ⟨some 7, .len true (.t 6), some (5, true)⟩,
 ⟨some 8, .bin .leq (.t 7) (.c (.s (.int .i64 64))), some (5, true)⟩,
 ⟨some 9, .pick (.t 5) (.t 8) (.c (.s (.bool false))), none⟩,
 ⟨some 10, .cp (.t 9), none⟩,
 ⟨some 11, .cp (.t 0), some (10, true)⟩,
 ⟨some 12, .call false zok_ [(.t 11), (.c (.s (.int .u8 33))), (.c (.s (.int .u8 126)))], some (10, true)⟩,
 ⟨some 13, .pick (.t 10) (.t 12) (.c (.s (.bool false))), none⟩,
 ⟨some 2, .cp (.t 13), none⟩] (none))
 .ret)) }
def zpf_ : XC :=
 (.seq (.region [
 ⟨some 9, .bin .lss (.t 8) (.t 7), none⟩] (none))
 (.seq (.cond (.t 9)
 .skip
 (.exit 0))
 (.seq (.block 1
 (.seq (.region [
 ⟨some 10, .iaddr 1 (.t 6) (.t 8), none⟩,
 ⟨some 11, .load 1 false (.t 10), none⟩,
 ⟨some 5, .cp (.t 11), none⟩] (none))
 (.seq (.region [
 ⟨some 12, .cp (.t 5), none⟩,
 ⟨some 13, .cp (.t 3), none⟩,
 ⟨some 14, .bin .neq (.t 12) (.t 13), none⟩] (none))
 (.cond (.t 14)
 (.seq (.region [
 ⟨some 15, .cp (.t 5), none⟩,
 ⟨some 2, .cp (.t 15), none⟩] (none))
 .ret)
 .skip))))
 (.region [
 ⟨some 16, .bin .add (.t 8) (.c (.s (.int .i64 1))), none⟩,
 ⟨some 8, .cp (.t 16), none⟩] (none)))))
def zlq_ : XF := { np := 1, results := [(.inl 2, .v)], body :=
 (.seq (.region [
 ⟨some 2, .cp (.c (.s (.int .i64 0))), none⟩] (none))
 (.seq (.region [
 ⟨some 3, .cp (.c (.s (.int .i64 0))), none⟩] (none))
 (.seq (.seq (.region [
 ⟨some 6, .cp (.t 0), none⟩,
 ⟨some 7, .len false (.t 6), none⟩,
 ⟨some 8, .cp (.c (.s (.int .i64 0))), none⟩] (none))
 (.block 0
 (.loop zpf_)))
 (.seq (.region [
 ⟨some 17, .cp (.t 3), none⟩,
 ⟨some 2, .cp (.t 17), none⟩] (none))
 .ret)))) }
def zgp_ : XC :=
 (.seq (.region [
 ⟨some 12, .bin .lss (.t 11) (.t 10), none⟩] (none))
 (.seq (.cond (.t 12)
 .skip
 (.exit 0))
 (.seq (.block 1
 (.seq (.region [
 ⟨some 13, .cp (.t 11), none⟩,
 ⟨some 14, .iaddr 4 (.t 9) (.t 11), none⟩,
 ⟨some 15, .load 4 true (.t 14), none⟩,
 ⟨some 4, .alloc [.s (.string ⟨#[]⟩), .s (.int .i64 0), .s (.string ⟨#[]⟩), .s (.int .i64 0)], none⟩,
 ⟨some 3, .cp (.t 13), none⟩,
 ⟨none, .store 4 (.t 4) (.t 15), none⟩] (none))
 (.seq (.block 2
 (.seq (.region [
 ⟨some 17, .faddr (.t 4) 0, none⟩,
 ⟨some 18, .load 1 false (.t 17), none⟩,
 ⟨some 19, .call false zec_ [(.t 18)], none⟩,
 ⟨some 20, .un .not (.t 19), none⟩,
 ⟨some 16, .cp (.t 20), none⟩] (none))
 (.cond (.t 16)
 (.seq (.region [
 ⟨some 2, .cp (.c (.s (.int .i64 11))), none⟩] (none))
 .ret)
 (.seq (.region [
 ⟨some 22, .cp (.t 3), none⟩,
 ⟨some 23, .bin .gtr (.t 22) (.c (.s (.int .i64 0))), none⟩,
 ⟨some 24, .cp (.t 23), none⟩,
 ⟨some 25, .faddr (.t 4) 0, some (24, true)⟩,
 ⟨some 26, .load 1 false (.t 25), some (24, true)⟩,
 ⟨some 27, .cp (.t 0), some (24, true)⟩,
 ⟨some 28, .cp (.t 3), some (24, true)⟩,
 ⟨some 29, .bin .sub (.t 28) (.c (.s (.int .i64 1))), some (24, true)⟩,
 ⟨some 30, .iaddr 4 (.t 27) (.t 29), some (24, true)⟩,
 ⟨some 31, .faddr (.t 30) 0, some (24, true)⟩,
 ⟨some 32, .load 1 false (.t 31), some (24, true)⟩,
 ⟨some 33, .bin .leq (.t 26) (.t 32), some (24, true)⟩,
 ⟨some 34, .pick (.t 24) (.t 33) (.c (.s (.bool false))), none⟩,
 ⟨some 21, .cp (.t 34), none⟩] (some []))
 (.cond (.t 21)
 (.seq (.region [
 ⟨some 2, .cp (.c (.s (.int .i64 8))), none⟩] (none))
 .ret)
 .skip)))))
 (.seq (.region [
 ⟨some 35, .faddr (.t 4) 1, none⟩,
 ⟨some 36, .load 3 true (.t 35), none⟩,
 ⟨some 37, .call false zoe_ [(.t 36)], none⟩,
 ⟨some 5, .cp (.t 37), none⟩] (none))
 (.seq (.region [
 ⟨some 38, .cp (.t 5), none⟩,
 ⟨some 39, .bin .neq (.t 38) (.c (.s (.int .i64 0))), none⟩] (none))
 (.cond (.t 39)
 (.seq (.region [
 ⟨some 40, .cp (.t 5), none⟩,
 ⟨some 2, .cp (.t 40), none⟩] (none))
 .ret)
 .skip))))))
 (.region [
 ⟨some 41, .bin .add (.t 11) (.c (.s (.int .i64 1))), none⟩,
 ⟨some 11, .cp (.t 41), none⟩] (none)))))
def zje_ : XF := { np := 1, results := [(.inl 2, .v)], body :=
 (.seq (.region [
 ⟨some 2, .cp (.c (.s (.int .i64 0))), none⟩] (none))
 (.seq (.seq (.region [
 ⟨some 6, .cp (.t 0), none⟩,
 ⟨some 7, .len false (.t 6), none⟩,
 ⟨some 8, .bin .gtr (.t 7) (.c (.s (.int .i64 32))), none⟩] (none))
 (.cond (.t 8)
 (.seq (.region [
 ⟨some 2, .cp (.c (.s (.int .i64 6))), none⟩] (none))
 .ret)
 .skip))
 (.seq (.seq (.region [
 ⟨some 9, .cp (.t 0), none⟩,
 ⟨some 10, .len false (.t 9), none⟩,
 ⟨some 11, .cp (.c (.s (.int .i64 0))), none⟩] (none))
 (.block 0
 (.loop zgp_)))
 (.seq (.region [
 ⟨some 2, .cp (.c (.s (.int .i64 0))), none⟩] (none))
 .ret)))) }
def zht_ : XC :=
 (.seq (.region [
 ⟨some 11, .bin .lss (.t 10) (.t 9), none⟩] (none))
 (.seq (.cond (.t 11)
 .skip
 (.exit 0))
 (.seq (.block 1
 (.seq (.region [
 ⟨some 12, .cp (.t 10), none⟩,
 ⟨some 13, .iaddr 2 (.t 8) (.t 10), none⟩,
 ⟨some 14, .load 2 true (.t 13), none⟩,
 ⟨some 4, .alloc [.s (.int .i64 0), .s (.int .i64 0)], none⟩,
 ⟨some 3, .cp (.t 12), none⟩,
 ⟨none, .store 2 (.t 4) (.t 14), none⟩] (none))
 (.block 2
 (.seq (.region [
 ⟨some 16, .faddr (.t 4) 0, none⟩,
 ⟨some 17, .load 1 false (.t 16), none⟩,
 ⟨some 18, .call false zis_ [(.t 17)], none⟩,
 ⟨some 19, .cp (.t 18), none⟩,
 ⟨some 20, .faddr (.t 4) 1, some (19, false)⟩,
 ⟨some 21, .load 1 false (.t 20), some (19, false)⟩,
 ⟨some 22, .call false zis_ [(.t 21)], some (19, false)⟩,
 ⟨some 23, .pick (.t 19) (.c (.s (.bool true))) (.t 22), none⟩,
 ⟨some 15, .cp (.t 23), none⟩] (none))
 (.cond (.t 15)
 (.seq (.region [
 ⟨some 2, .cp (.c (.s (.int .i64 2))), none⟩] (none))
 .ret)
 (.seq (.region [
 ⟨some 25, .cp (.t 3), none⟩,
 ⟨some 26, .bin .gtr (.t 25) (.c (.s (.int .i64 0))), none⟩,
 ⟨some 27, .cp (.t 26), none⟩,
 ⟨some 28, .cp (.t 0), some (27, true)⟩,
 ⟨some 29, .cp (.t 3), some (27, true)⟩,
 ⟨some 30, .bin .sub (.t 29) (.c (.s (.int .i64 1))), some (27, true)⟩,
 ⟨some 31, .iaddr 2 (.t 28) (.t 30), some (27, true)⟩,
 ⟨some 32, .load 2 true (.t 31), some (27, true)⟩,
 ⟨some 33, .load 2 true (.t 4), some (27, true)⟩,
 ⟨some 34, .call false zir_ [(.t 32), (.t 33)], some (27, true)⟩,
 ⟨some 35, .bin .geq (.t 34) (.c (.s (.int .i64 0))), some (27, true)⟩,
 ⟨some 36, .pick (.t 27) (.t 35) (.c (.s (.bool false))), none⟩,
 ⟨some 24, .cp (.t 36), none⟩] (some []))
 (.cond (.t 24)
 (.seq (.region [
 ⟨some 2, .cp (.c (.s (.int .i64 8))), none⟩] (none))
 .ret)
 .skip)))))))
 (.region [
 ⟨some 37, .bin .add (.t 10) (.c (.s (.int .i64 1))), none⟩,
 ⟨some 10, .cp (.t 37), none⟩] (none)))))
def zjf_ : XF := { np := 1, results := [(.inl 2, .v)], body :=
 (.seq (.region [
 ⟨some 2, .cp (.c (.s (.int .i64 0))), none⟩] (none))
 (.seq (.seq (.region [
 ⟨some 5, .cp (.t 0), none⟩,
 ⟨some 6, .len false (.t 5), none⟩,
 ⟨some 7, .bin .gtr (.t 6) (.c (.s (.int .i64 16))), none⟩] (none))
 (.cond (.t 7)
 (.seq (.region [
 ⟨some 2, .cp (.c (.s (.int .i64 6))), none⟩] (none))
 .ret)
 .skip))
 (.seq (.seq (.region [
 ⟨some 8, .cp (.t 0), none⟩,
 ⟨some 9, .len false (.t 8), none⟩,
 ⟨some 10, .cp (.c (.s (.int .i64 0))), none⟩] (none))
 (.block 0
 (.loop zht_)))
 (.seq (.region [
 ⟨some 2, .cp (.c (.s (.int .i64 0))), none⟩] (none))
 .ret)))) }
def zlr_ : XF := { np := 1, results := [(.inl 2, .v)], body :=
 (.seq (.region [
 ⟨some 2, .cp (.c (.s (.int .i64 0))), none⟩] (none))
 (.seq (.region [
 ⟨some 3, .cp (.t 0), none⟩,
 ⟨some 4, .bin .shr (.t 3) (.c (.s (.int .u64 20))), none⟩,
 ⟨some 2, .cp (.t 4), none⟩] (none))
 .ret)) }
def zgq_ : XF := { np := 1, results := [(.inl 2, .v)], body :=
 (.seq (.region [
 ⟨some 1, .box false (.t 0), none⟩,
 ⟨some 2, .cp (.c (.s (.bool false))), none⟩] (none))
 (.seq (.region [
 ⟨some 3, .faddr (.t 1) 0, none⟩,
 ⟨some 4, .load 1 false (.t 3), none⟩,
 ⟨some 5, .bin .eql (.t 4) (.c (.s (.int .i64 5))), none⟩,
 ⟨some 6, .cp (.t 5), none⟩,
 ⟨some 7, .faddr (.t 1) 0, some (6, false)⟩,
 ⟨some 8, .load 1 false (.t 7), some (6, false)⟩,
 ⟨some 9, .bin .eql (.t 8) (.c (.s (.int .i64 6))), some (6, false)⟩,
 ⟨some 10, .pick (.t 6) (.c (.s (.bool true))) (.t 9), none⟩,
 ⟨some 11, .cp (.t 10), none⟩,
 ⟨some 12, .faddr (.t 1) 0, some (11, false)⟩,
 ⟨some 13, .load 1 false (.t 12), some (11, false)⟩,
 ⟨some 14, .bin .eql (.t 13) (.c (.s (.int .i64 7))), some (11, false)⟩,
 ⟨some 15, .pick (.t 11) (.c (.s (.bool true))) (.t 14), none⟩,
 ⟨some 2, .cp (.t 15), none⟩] (none))
 .ret)) }
def zaw_ : XF := { np := 1, results := [(.inl 2, .v)], body :=
 (.seq (.region [
 ⟨some 1, .box false (.t 0), none⟩,
 ⟨some 2, .cp (.c (.s (.int .i64 0))), none⟩] (none))
 (.seq (.region [
 ⟨some 3, .cp (.c (.s (.bool false))), none⟩] (none))
 (.seq (.seq (.region [
 ⟨some 4, .faddr (.t 1) 0, none⟩,
 ⟨some 5, .load 1 false (.t 4), none⟩] (none))
 (.block 0
 (.seq (.region [
 ⟨some 7, .bin .eql (.t 5) (.c (.s (.int .i64 1))), none⟩,
 ⟨some 6, .cp (.t 7), none⟩] (none))
 (.cond (.t 6)
 (.region [
 ⟨some 8, .faddr (.t 1) 1, none⟩,
 ⟨some 9, .load 1 false (.t 8), none⟩,
 ⟨some 10, .call false zok_ [(.t 9), (.c (.s (.int .u8 32))), (.c (.s (.int .u8 126)))], none⟩,
 ⟨some 11, .cp (.t 10), none⟩,
 ⟨some 12, .faddr (.t 1) 2, some (11, true)⟩,
 ⟨some 13, .load 1 false (.t 12), some (11, true)⟩,
 ⟨some 14, .bin .eql (.t 13) (.c (.s (.int .i64 0))), some (11, true)⟩,
 ⟨some 15, .pick (.t 11) (.t 14) (.c (.s (.bool false))), none⟩,
 ⟨some 3, .cp (.t 15), none⟩] (none))
 (.seq (.region [
 ⟨some 17, .bin .eql (.t 5) (.c (.s (.int .i64 2))), none⟩,
 ⟨some 16, .cp (.t 17), none⟩] (none))
 (.cond (.t 16)
 (.region [
 ⟨some 18, .faddr (.t 1) 1, none⟩,
 ⟨some 19, .load 1 false (.t 18), none⟩,
 ⟨some 20, .bin .eql (.t 19) (.c (.s (.string ⟨#[]⟩))), none⟩,
 ⟨some 21, .cp (.t 20), none⟩,
 ⟨some 22, .faddr (.t 1) 2, some (21, true)⟩,
 ⟨some 23, .load 1 false (.t 22), some (21, true)⟩,
 ⟨some 24, .bin .geq (.t 23) (.c (.s (.int .i64 (-1099511627776)))), some (21, true)⟩,
 ⟨some 25, .pick (.t 21) (.t 24) (.c (.s (.bool false))), none⟩,
 ⟨some 26, .cp (.t 25), none⟩,
 ⟨some 27, .faddr (.t 1) 2, some (26, true)⟩,
 ⟨some 28, .load 1 false (.t 27), some (26, true)⟩,
 ⟨some 29, .bin .leq (.t 28) (.c (.s (.int .i64 1099511627776))), some (26, true)⟩,
 ⟨some 30, .pick (.t 26) (.t 29) (.c (.s (.bool false))), none⟩,
 ⟨some 3, .cp (.t 30), none⟩] (none))
 (.seq (.region [
 ⟨some 32, .bin .eql (.t 5) (.c (.s (.int .i64 3))), none⟩,
 ⟨some 31, .cp (.t 32), none⟩] (none))
 (.cond (.t 31)
 (.region [
 ⟨some 33, .faddr (.t 1) 1, none⟩,
 ⟨some 34, .load 1 false (.t 33), none⟩,
 ⟨some 35, .bin .eql (.t 34) (.c (.s (.string ⟨#[]⟩))), none⟩,
 ⟨some 36, .cp (.t 35), none⟩,
 ⟨some 37, .faddr (.t 1) 2, some (36, true)⟩,
 ⟨some 38, .load 1 false (.t 37), some (36, true)⟩,
 ⟨some 39, .bin .eql (.t 38) (.c (.s (.int .i64 0))), some (36, true)⟩,
 ⟨some 40, .cp (.t 39), some (36, true)⟩,
 ⟨some 41, .faddr (.t 1) 2, some (40, false)⟩,
 ⟨some 42, .load 1 false (.t 41), some (40, false)⟩,
 ⟨some 43, .bin .eql (.t 42) (.c (.s (.int .i64 1))), some (40, false)⟩,
 ⟨some 44, .pick (.t 40) (.c (.s (.bool true))) (.t 43), some (36, true)⟩,
 ⟨some 45, .pick (.t 36) (.t 44) (.c (.s (.bool false))), none⟩,
 ⟨some 3, .cp (.t 45), none⟩] (none))
 (.seq (.region [
 ⟨some 2, .cp (.c (.s (.int .i64 12))), none⟩] (none))
 .ret)))))))))
 (.seq (.block 1
 (.seq (.region [
 ⟨some 47, .faddr (.t 1) 1, none⟩,
 ⟨some 48, .load 1 false (.t 47), none⟩,
 ⟨some 49, .len true (.t 48), none⟩,
 ⟨some 50, .bin .gtr (.t 49) (.c (.s (.int .i64 4096))), none⟩,
 ⟨some 46, .cp (.t 50), none⟩] (none))
 (.cond (.t 46)
 (.seq (.region [
 ⟨some 2, .cp (.c (.s (.int .i64 5))), none⟩] (none))
 .ret)
 (.seq (.region [
 ⟨some 52, .cp (.t 3), none⟩,
 ⟨some 53, .un .not (.t 52), none⟩,
 ⟨some 51, .cp (.t 53), none⟩] (none))
 (.cond (.t 51)
 (.seq (.region [
 ⟨some 2, .cp (.c (.s (.int .i64 3))), none⟩] (none))
 .ret)
 .skip)))))
 (.seq (.region [
 ⟨some 2, .cp (.c (.s (.int .i64 0))), none⟩] (none))
 .ret))))) }
def zpg_ : XC :=
 (.seq (.region [
 ⟨some 9, .bin .lss (.t 8) (.t 7), none⟩] (none))
 (.seq (.cond (.t 9)
 .skip
 (.exit 0))
 (.seq (.block 1
 (.seq (.region [
 ⟨some 10, .cp (.t 8), none⟩,
 ⟨some 5, .cp (.t 10), none⟩] (none))
 (.seq (.region [
 ⟨some 11, .cp (.t 1), none⟩,
 ⟨some 12, .cp (.t 0), none⟩,
 ⟨some 13, .cp (.t 5), none⟩,
 ⟨some 14, .iaddr 7 (.t 12) (.t 13), none⟩,
 ⟨some 15, .load 7 true (.t 14), none⟩,
 ⟨some 16, .callv false (.t 11) [(.t 15)], none⟩] (none))
 (.cond (.t 16)
 (.seq (.region [
 ⟨some 17, .cp (.t 5), none⟩,
 ⟨some 4, .cp (.t 17), none⟩] (none))
 .ret)
 .skip))))
 (.region [
 ⟨some 18, .bin .add (.t 8) (.c (.s (.int .i64 1))), none⟩,
 ⟨some 8, .cp (.t 18), none⟩] (none)))))
def zls_ : XF := { np := 2, results := [(.inl 4, .v)], body :=
 (.seq (.region [
 ⟨some 4, .cp (.c (.s (.int .i64 0))), none⟩] (none))
 (.seq (.seq (.region [
 ⟨some 6, .cp (.t 0), none⟩,
 ⟨some 7, .len false (.t 6), none⟩,
 ⟨some 8, .cp (.c (.s (.int .i64 0))), none⟩] (none))
 (.block 0
 (.loop zpg_)))
 (.seq (.region [
 ⟨some 4, .cp (.c (.s (.int .i64 (-1)))), none⟩] (none))
 .ret))) }
def zlt_ : XF := { np := 2, results := [(.inl 4, .v)], body :=
 (.seq (.region [
 ⟨some 2, .box false (.t 0), none⟩,
 ⟨some 3, .box false (.t 1), none⟩,
 ⟨some 4, .cp (.c (.s (.int .i64 0))), none⟩] (none))
 (.seq (.region [
 ⟨some 5, .faddr (.t 2) 0, none⟩,
 ⟨some 6, .load 1 false (.t 5), none⟩,
 ⟨some 7, .faddr (.t 3) 0, none⟩,
 ⟨some 8, .load 1 false (.t 7), none⟩,
 ⟨some 9, .call false zed_ [(.t 6), (.t 8)], none⟩,
 ⟨some 10, .faddr (.t 2) 1, none⟩,
 ⟨some 11, .load 1 false (.t 10), none⟩,
 ⟨some 12, .faddr (.t 3) 1, none⟩,
 ⟨some 13, .load 1 false (.t 12), none⟩,
 ⟨some 14, .call false zgj_ [(.t 11), (.t 13)], none⟩,
 ⟨some 15, .faddr (.t 2) 2, none⟩,
 ⟨some 16, .load 1 false (.t 15), none⟩,
 ⟨some 17, .faddr (.t 3) 2, none⟩,
 ⟨some 18, .load 1 false (.t 17), none⟩,
 ⟨some 19, .call false zed_ [(.t 16), (.t 18)], none⟩,
 ⟨some 20, .bslice false 1 [(.t 9), (.t 14), (.t 19)], none⟩,
 ⟨some 21, .call false zit_ [(.t 20)], none⟩,
 ⟨some 4, .cp (.t 21), none⟩] (some [(4, none), (9, some 11), (9, some 13)]))
 .ret)) }
def zjg_ : XF := { np := 2, results := [(.inl 4, .v)], body :=
 (.seq (.region [
 ⟨some 4, .cp (.c (.s (.bool false))), none⟩] (none))
 (.seq (.region [
 ⟨some 5, .cp (.t 0), none⟩,
 ⟨some 6, .cp (.t 1), none⟩,
 ⟨some 7, .call false zow_ [(.t 5), (.t 6)], none⟩,
 ⟨some 4, .cp (.t 7), none⟩] (none))
 .ret)) }
def zph_ : XC :=
 (.seq (.region [
 ⟨some 9, .bin .lss (.t 8) (.t 7), none⟩] (none))
 (.seq (.cond (.t 9)
 .skip
 (.exit 0))
 (.seq (.block 1
 (.seq (.region [
 ⟨some 10, .iaddr 1 (.t 6) (.t 8), none⟩,
 ⟨some 11, .load 1 false (.t 10), none⟩,
 ⟨some 5, .cp (.t 11), none⟩] (none))
 (.seq (.region [
 ⟨some 12, .cp (.t 5), none⟩,
 ⟨some 13, .cp (.t 3), none⟩,
 ⟨some 14, .bin .neq (.t 12) (.t 13), none⟩] (none))
 (.cond (.t 14)
 (.seq (.region [
 ⟨some 15, .cp (.t 5), none⟩,
 ⟨some 2, .cp (.t 15), none⟩] (none))
 .ret)
 .skip))))
 (.region [
 ⟨some 16, .bin .add (.t 8) (.c (.s (.int .i64 1))), none⟩,
 ⟨some 8, .cp (.t 16), none⟩] (none)))))
def zlu_ : XF := { np := 1, results := [(.inl 2, .v)], body :=
 (.seq (.region [
 ⟨some 2, .cp (.c (.s (.int .i64 0))), none⟩] (none))
 (.seq (.region [
 ⟨some 3, .cp (.c (.s (.int .i64 0))), none⟩] (none))
 (.seq (.seq (.region [
 ⟨some 6, .cp (.t 0), none⟩,
 ⟨some 7, .len false (.t 6), none⟩,
 ⟨some 8, .cp (.c (.s (.int .i64 0))), none⟩] (none))
 (.block 0
 (.loop zph_)))
 (.seq (.region [
 ⟨some 17, .cp (.t 3), none⟩,
 ⟨some 2, .cp (.t 17), none⟩] (none))
 .ret)))) }
def zpi_ : XC :=
 (.seq (.region [
 ⟨some 12, .bin .lss (.t 11) (.t 10), none⟩] (none))
 (.seq (.cond (.t 12)
 .skip
 (.exit 0))
 (.seq (.block 1
 (.seq (.region [
 ⟨some 13, .cp (.t 11), none⟩,
 ⟨some 14, .iaddr 1 (.t 9) (.t 11), none⟩,
 ⟨some 15, .load 1 false (.t 14), none⟩,
 ⟨some 5, .cp (.t 13), none⟩,
 ⟨some 6, .cp (.t 15), none⟩] (none))
 (.seq (.seq (.region [
 ⟨some 16, .cp (.t 5), none⟩,
 ⟨some 17, .cp (.t 1), none⟩,
 ⟨some 18, .len false (.t 17), none⟩,
 ⟨some 19, .bin .geq (.t 16) (.t 18), none⟩] (none))
 (.cond (.t 19)
 (.seq (.region [
 ⟨some 4, .cp (.c (.s (.int .i64 1))), none⟩] (none))
 .ret)
 .skip))
 (.seq (.region [
 ⟨some 20, .cp (.t 1), none⟩,
 ⟨some 21, .cp (.t 5), none⟩,
 ⟨some 22, .iaddr 1 (.t 20) (.t 21), none⟩,
 ⟨some 23, .load 1 false (.t 22), none⟩,
 ⟨some 7, .cp (.t 23), none⟩] (none))
 (.seq (.region [
 ⟨some 24, .cp (.t 6), none⟩,
 ⟨some 25, .cp (.t 7), none⟩,
 ⟨some 26, .call false zed_ [(.t 24), (.t 25)], none⟩,
 ⟨some 8, .cp (.t 26), none⟩] (none))
 (.seq (.region [
 ⟨some 27, .cp (.t 8), none⟩,
 ⟨some 28, .bin .neq (.t 27) (.c (.s (.int .i64 0))), none⟩] (none))
 (.cond (.t 28)
 (.seq (.region [
 ⟨some 29, .cp (.t 8), none⟩,
 ⟨some 4, .cp (.t 29), none⟩] (none))
 .ret)
 .skip)))))))
 (.region [
 ⟨some 30, .bin .add (.t 11) (.c (.s (.int .i64 1))), none⟩,
 ⟨some 11, .cp (.t 30), none⟩] (none)))))
def zlv_ : XF := { np := 2, results := [(.inl 4, .v)], body :=
 (.seq (.region [
 ⟨some 4, .cp (.c (.s (.int .i64 0))), none⟩] (none))
 (.seq (.seq (.region [
 ⟨some 9, .cp (.t 0), none⟩,
 ⟨some 10, .len false (.t 9), none⟩,
 ⟨some 11, .cp (.c (.s (.int .i64 0))), none⟩] (none))
 (.block 0
 (.loop zpi_)))
 (.seq (.seq (.region [
 ⟨some 31, .cp (.t 0), none⟩,
 ⟨some 32, .len false (.t 31), none⟩,
 ⟨some 33, .cp (.t 1), none⟩,
 ⟨some 34, .len false (.t 33), none⟩,
 ⟨some 35, .bin .lss (.t 32) (.t 34), none⟩] (none))
 (.cond (.t 35)
 (.seq (.region [
 ⟨some 4, .cp (.c (.s (.int .i64 (-1)))), none⟩] (none))
 .ret)
 .skip))
 (.seq (.region [
 ⟨some 4, .cp (.c (.s (.int .i64 0))), none⟩] (none))
 .ret)))) }
def zhu_ : XF := { np := 2, results := [(.inl 4, .v)], body :=
 (.seq (.region [
 ⟨some 4, .cp (.c (.s (.int .i64 0))), none⟩] (none))
 (.seq (.region [
 ⟨some 7, .cp (.t 0), none⟩,
 ⟨some 8, .call false zoo_ [(.t 7)], none⟩,
 ⟨some 5, .cp (.t 8), none⟩] (none))
 (.seq (.region [
 ⟨some 9, .cp (.t 1), none⟩,
 ⟨some 10, .call false zoo_ [(.t 9)], none⟩,
 ⟨some 6, .cp (.t 10), none⟩] (none))
 (.seq (.seq (.region [
 ⟨some 11, .cp (.t 5), none⟩] (none))
 (.cond (.t 11)
 (.seq (.seq (.region [
 ⟨some 12, .cp (.t 6), none⟩] (none))
 (.cond (.t 12)
 (.seq (.region [
 ⟨some 4, .cp (.c (.s (.int .i64 0))), none⟩] (none))
 .ret)
 .skip))
 (.seq (.region [
 ⟨some 4, .cp (.c (.s (.int .i64 (-1)))), none⟩] (none))
 .ret))
 .skip))
 (.seq (.seq (.region [
 ⟨some 13, .cp (.t 6), none⟩] (none))
 (.cond (.t 13)
 (.seq (.region [
 ⟨some 4, .cp (.c (.s (.int .i64 1))), none⟩] (none))
 .ret)
 .skip))
 (.seq (.seq (.region [
 ⟨some 14, .cp (.t 0), none⟩,
 ⟨some 15, .cp (.t 1), none⟩,
 ⟨some 16, .bin .lss (.t 14) (.t 15), none⟩] (none))
 (.cond (.t 16)
 (.seq (.region [
 ⟨some 4, .cp (.c (.s (.int .i64 (-1)))), none⟩] (none))
 .ret)
 .skip))
 (.seq (.seq (.region [
 ⟨some 17, .cp (.t 0), none⟩,
 ⟨some 18, .cp (.t 1), none⟩,
 ⟨some 19, .bin .gtr (.t 17) (.t 18), none⟩] (none))
 (.cond (.t 19)
 (.seq (.region [
 ⟨some 4, .cp (.c (.s (.int .i64 1))), none⟩] (none))
 .ret)
 .skip))
 (.seq (.region [
 ⟨some 4, .cp (.c (.s (.int .i64 0))), none⟩] (none))
 .ret)))))))) }
def zjh_ : XF := { np := 2, results := [(.inl 4, .v)], body :=
 (.seq (.region [
 ⟨some 4, .cp (.c (.s (.int .i64 0))), none⟩] (none))
 (.seq (.region [
 ⟨some 7, .cp (.t 0), none⟩,
 ⟨some 8, .call false zop_ [(.t 7)], none⟩,
 ⟨some 5, .cp (.t 8), none⟩] (none))
 (.seq (.region [
 ⟨some 9, .cp (.t 1), none⟩,
 ⟨some 10, .call false zop_ [(.t 9)], none⟩,
 ⟨some 6, .cp (.t 10), none⟩] (none))
 (.seq (.seq (.region [
 ⟨some 11, .cp (.t 5), none⟩] (none))
 (.cond (.t 11)
 (.seq (.seq (.region [
 ⟨some 12, .cp (.t 6), none⟩] (none))
 (.cond (.t 12)
 (.seq (.region [
 ⟨some 4, .cp (.c (.s (.int .i64 0))), none⟩] (none))
 .ret)
 .skip))
 (.seq (.region [
 ⟨some 4, .cp (.c (.s (.int .i64 (-1)))), none⟩] (none))
 .ret))
 .skip))
 (.seq (.seq (.region [
 ⟨some 13, .cp (.t 6), none⟩] (none))
 (.cond (.t 13)
 (.seq (.region [
 ⟨some 4, .cp (.c (.s (.int .i64 1))), none⟩] (none))
 .ret)
 .skip))
 (.seq (.seq (.region [
 ⟨some 14, .cp (.t 0), none⟩,
 ⟨some 15, .cp (.t 1), none⟩,
 ⟨some 16, .bin .lss (.t 14) (.t 15), none⟩] (none))
 (.cond (.t 16)
 (.seq (.region [
 ⟨some 4, .cp (.c (.s (.int .i64 (-1)))), none⟩] (none))
 .ret)
 .skip))
 (.seq (.seq (.region [
 ⟨some 17, .cp (.t 0), none⟩,
 ⟨some 18, .cp (.t 1), none⟩,
 ⟨some 19, .bin .gtr (.t 17) (.t 18), none⟩] (none))
 (.cond (.t 19)
 (.seq (.region [
 ⟨some 4, .cp (.c (.s (.int .i64 1))), none⟩] (none))
 .ret)
 .skip))
 (.seq (.region [
 ⟨some 4, .cp (.c (.s (.int .i64 0))), none⟩] (none))
 .ret)))))))) }
def zlw_ : XF := { np := 2, results := [(.inl 4, .v)], body :=
 (.seq (.region [
 ⟨some 4, .cp (.c (.s (.int .i64 0))), none⟩] (none))
 (.seq (.region [
 ⟨some 5, .cp (.t 0), none⟩,
 ⟨some 6, .cp (.t 1), none⟩,
 ⟨some 7, .call false zsu_ [(.t 5), (.t 6), (.c (.fn zkm_ [] []))], none⟩,
 ⟨some 4, .cp (.t 7), none⟩] (none))
 .ret)) }
def zji_ : XC :=
 (.seq (.region [
 ⟨some 14, .bin .lss (.t 13) (.t 12), none⟩] (none))
 (.seq (.cond (.t 14)
 .skip
 (.exit 0))
 (.seq (.block 1
 (.seq (.region [
 ⟨some 15, .cp (.t 13), none⟩,
 ⟨some 16, .iaddr 2 (.t 11) (.t 13), none⟩,
 ⟨some 17, .load 2 true (.t 16), none⟩,
 ⟨some 8, .alloc [.s (.int .i64 0), .s (.int .i64 0)], none⟩,
 ⟨some 7, .cp (.t 15), none⟩,
 ⟨none, .store 2 (.t 8) (.t 17), none⟩] (none))
 (.seq (.seq (.region [
 ⟨some 18, .cp (.t 7), none⟩,
 ⟨some 19, .cp (.t 1), none⟩,
 ⟨some 20, .len false (.t 19), none⟩,
 ⟨some 21, .bin .geq (.t 18) (.t 20), none⟩] (none))
 (.cond (.t 21)
 (.seq (.region [
 ⟨some 6, .cp (.c (.s (.int .i64 1))), none⟩] (none))
 .ret)
 .skip))
 (.seq (.region [
 ⟨some 22, .cp (.t 1), none⟩,
 ⟨some 23, .cp (.t 7), none⟩,
 ⟨some 24, .iaddr 2 (.t 22) (.t 23), none⟩,
 ⟨some 25, .load 2 true (.t 24), none⟩,
 ⟨some 9, .alloc [.s (.int .i64 0), .s (.int .i64 0)], none⟩,
 ⟨none, .store 2 (.t 9) (.t 25), none⟩] (none))
 (.seq (.region [
 ⟨some 26, .cp (.t 2), none⟩,
 ⟨some 27, .load 2 true (.t 8), none⟩,
 ⟨some 28, .load 2 true (.t 9), none⟩,
 ⟨some 29, .callv false (.t 26) [(.t 27), (.t 28)], none⟩,
 ⟨some 10, .cp (.t 29), none⟩] (none))
 (.seq (.region [
 ⟨some 30, .cp (.t 10), none⟩,
 ⟨some 31, .bin .neq (.t 30) (.c (.s (.int .i64 0))), none⟩] (none))
 (.cond (.t 31)
 (.seq (.region [
 ⟨some 32, .cp (.t 10), none⟩,
 ⟨some 6, .cp (.t 32), none⟩] (none))
 .ret)
 .skip)))))))
 (.region [
 ⟨some 33, .bin .add (.t 13) (.c (.s (.int .i64 1))), none⟩,
 ⟨some 13, .cp (.t 33), none⟩] (none)))))
def zlx_ : XF := { np := 3, results := [(.inl 6, .v)], body :=
 (.seq (.region [
 ⟨some 6, .cp (.c (.s (.int .i64 0))), none⟩] (none))
 (.seq (.seq (.region [
 ⟨some 11, .cp (.t 0), none⟩,
 ⟨some 12, .len false (.t 11), none⟩,
 ⟨some 13, .cp (.c (.s (.int .i64 0))), none⟩] (none))
 (.block 0
 (.loop zji_)))
 (.seq (.seq (.region [
 ⟨some 34, .cp (.t 0), none⟩,
 ⟨some 35, .len false (.t 34), none⟩,
 ⟨some 36, .cp (.t 1), none⟩,
 ⟨some 37, .len false (.t 36), none⟩,
 ⟨some 38, .bin .lss (.t 35) (.t 37), none⟩] (none))
 (.cond (.t 38)
 (.seq (.region [
 ⟨some 6, .cp (.c (.s (.int .i64 (-1)))), none⟩] (none))
 .ret)
 .skip))
 (.seq (.region [
 ⟨some 6, .cp (.c (.s (.int .i64 0))), none⟩] (none))
 .ret)))) }
def zly_ : XF := { np := 2, results := [(.inl 4, .v)], body :=
 (.seq (.region [
 ⟨some 2, .box false (.t 0), none⟩,
 ⟨some 3, .box false (.t 1), none⟩,
 ⟨some 4, .cp (.c (.s (.int .i64 0))), none⟩] (none))
 (.seq (.region [
 ⟨some 5, .faddr (.t 2) 0, none⟩,
 ⟨some 6, .load 1 false (.t 5), none⟩,
 ⟨some 7, .faddr (.t 3) 0, none⟩,
 ⟨some 8, .load 1 false (.t 7), none⟩,
 ⟨some 9, .call false zed_ [(.t 6), (.t 8)], none⟩,
 ⟨some 10, .faddr (.t 2) 1, none⟩,
 ⟨some 11, .load 1 false (.t 10), none⟩,
 ⟨some 12, .faddr (.t 3) 1, none⟩,
 ⟨some 13, .load 1 false (.t 12), none⟩,
 ⟨some 14, .call false zed_ [(.t 11), (.t 13)], none⟩,
 ⟨some 15, .bslice false 1 [(.t 9), (.t 14)], none⟩,
 ⟨some 16, .call false zit_ [(.t 15)], none⟩,
 ⟨some 4, .cp (.t 16), none⟩] (some [(4, some 6), (4, some 8)]))
 .ret)) }
def zjj_ : XF := { np := 1, results := [(.inl 2, .v)], body :=
 (.seq (.region [
 ⟨some 2, .cp (.c (.s (.slice none 0 0))), none⟩] (none))
 (.seq (.seq (.region [
 ⟨some 3, .cp (.t 0), none⟩,
 ⟨some 4, .eqv .s false (.t 3) (.c (.s (.slice none 0 0))), none⟩] (none))
 (.cond (.t 4)
 (.seq (.region [
 ⟨some 2, .cp (.c (.s (.slice none 0 0))), none⟩] (none))
 .ret)
 .skip))
 (.seq (.region [
 ⟨some 5, .bslice true 4 [], none⟩,
 ⟨some 6, .cp (.t 0), none⟩,
 ⟨some 7, .append 4 2932031007402 (.t 5) (.t 6), none⟩,
 ⟨some 2, .cp (.t 7), none⟩] (none))
 .ret))) }
def zjk_ : XF := { np := 1, results := [(.inl 2, .v)], body :=
 (.seq (.region [
 ⟨some 2, .cp (.c (.s (.slice none 0 0))), none⟩] (none))
 (.seq (.seq (.region [
 ⟨some 3, .cp (.t 0), none⟩,
 ⟨some 4, .eqv .s false (.t 3) (.c (.s (.slice none 0 0))), none⟩] (none))
 (.cond (.t 4)
 (.seq (.region [
 ⟨some 2, .cp (.c (.s (.slice none 0 0))), none⟩] (none))
 .ret)
 .skip))
 (.seq (.region [
 ⟨some 5, .bslice true 2 [], none⟩,
 ⟨some 6, .cp (.t 0), none⟩,
 ⟨some 7, .append 2 8796093022208 (.t 5) (.t 6), none⟩,
 ⟨some 2, .cp (.t 7), none⟩] (none))
 .ret))) }
def zpj_ : XC :=
 (.seq (.seq (.region [
 ⟨some 32, .cp (.t 7), none⟩,
 ⟨some 33, .cp (.t 6), none⟩,
 ⟨some 34, .len false (.t 33), none⟩,
 ⟨some 35, .bin .lss (.t 32) (.t 34), none⟩] (none))
 (.cond (.t 35)
 .skip
 (.exit 2)))
 (.seq (.block 3
 (.seq (.region [
 ⟨some 38, .cp (.t 1), none⟩,
 ⟨some 39, .cp (.t 6), none⟩,
 ⟨some 40, .cp (.t 7), none⟩,
 ⟨some 41, .iaddr 14 (.t 39) (.t 40), none⟩,
 ⟨some 42, .load 14 true (.t 41), none⟩,
 ⟨some 43, .cp (.t 6), none⟩,
 ⟨some 44, .cp (.t 7), none⟩,
 ⟨some 45, .bin .sub (.t 44) (.c (.s (.int .i64 1))), none⟩,
 ⟨some 46, .iaddr 14 (.t 43) (.t 45), none⟩,
 ⟨some 47, .load 14 true (.t 46), none⟩,
 ⟨some 48, .callv false (.t 38) [(.t 42), (.t 47)], none⟩,
 ⟨some 49, .un .not (.t 48), none⟩] (some []))
 (.cond (.t 49)
 (.seq (.region [
 ⟨some 50, .cp (.t 0), none⟩,
 ⟨some 51, .cp (.t 5), none⟩,
 ⟨some 52, .cp (.t 6), none⟩,
 ⟨some 53, .cp (.t 7), none⟩,
 ⟨some 54, .iaddr 14 (.t 52) (.t 53), none⟩,
 ⟨some 55, .load 14 true (.t 54), none⟩,
 ⟨some 56, .iaddr 14 (.t 50) (.t 51), none⟩,
 ⟨none, .store 14 (.t 56) (.t 55), none⟩] (none))
 (.region [
 ⟨some 57, .cp (.t 5), none⟩,
 ⟨some 58, .bin .add (.t 57) (.c (.s (.int .i64 1))), none⟩,
 ⟨some 5, .cp (.t 58), none⟩] (none)))
 .skip)))
 (.region [
 ⟨some 36, .cp (.t 7), none⟩,
 ⟨some 37, .bin .add (.t 36) (.c (.s (.int .i64 1))), none⟩,
 ⟨some 7, .cp (.t 37), none⟩] (none))))
def zpk_ : XC :=
 (.seq (.seq (.region [
 ⟨some 12, .cp (.t 5), none⟩,
 ⟨some 13, .cp (.t 0), none⟩,
 ⟨some 14, .len false (.t 13), none⟩,
 ⟨some 15, .bin .lss (.t 12) (.t 14), none⟩] (none))
 (.cond (.t 15)
 .skip
 (.exit 0)))
 (.seq (.block 1
 (.seq (.region [
 ⟨some 18, .cp (.t 1), none⟩,
 ⟨some 19, .cp (.t 0), none⟩,
 ⟨some 20, .cp (.t 5), none⟩,
 ⟨some 21, .iaddr 14 (.t 19) (.t 20), none⟩,
 ⟨some 22, .load 14 true (.t 21), none⟩,
 ⟨some 23, .cp (.t 0), none⟩,
 ⟨some 24, .cp (.t 5), none⟩,
 ⟨some 25, .bin .sub (.t 24) (.c (.s (.int .i64 1))), none⟩,
 ⟨some 26, .iaddr 14 (.t 23) (.t 25), none⟩,
 ⟨some 27, .load 14 true (.t 26), none⟩,
 ⟨some 28, .callv false (.t 18) [(.t 22), (.t 27)], none⟩] (some []))
 (.cond (.t 28)
 (.seq (.region [
 ⟨some 29, .cp (.t 0), none⟩,
 ⟨some 30, .cp (.t 5), none⟩,
 ⟨some 31, .slLst 14 (.t 29) (some (.t 30)) none, none⟩,
 ⟨some 6, .cp (.t 31), none⟩] (none))
 (.seq (.seq (.region [
 ⟨some 7, .cp (.c (.s (.int .i64 1))), none⟩] (none))
 (.block 2
 (.loop zpj_)))
 (.seq (.region [
 ⟨some 59, .cp (.t 0), none⟩,
 ⟨some 60, .cp (.t 5), none⟩,
 ⟨some 61, .slLst 14 (.t 59) (some (.t 60)) none, none⟩,
 ⟨none, .clear 14 (.agg [.s (.int .i64 0), .s (.int .i64 0), .s (.int .i64 0), .s (.int .i64 0), .s (.int .i64 0), .s (.int .i64 0), .s (.string ⟨#[]⟩), .s (.string ⟨#[]⟩), .s (.string ⟨#[]⟩), .s (.int .i64 0), .s (.int .i64 0), .s (.bool false), .s (.slice none 0 0), .s (.slice none 0 0)]) (.t 61), none⟩] (none))
 (.seq (.region [
 ⟨some 62, .cp (.t 0), none⟩,
 ⟨some 63, .cp (.t 5), none⟩,
 ⟨some 64, .slFrz 14 (.t 62) none (some (.t 63)), none⟩,
 ⟨some 4, .cp (.t 64), none⟩] (none))
 .ret))))
 .skip)))
 (.region [
 ⟨some 16, .cp (.t 5), none⟩,
 ⟨some 17, .bin .add (.t 16) (.c (.s (.int .i64 1))), none⟩,
 ⟨some 5, .cp (.t 17), none⟩] (none))))
def zhv_ : XF := { np := 2, results := [(.inl 4, .v)], body :=
 (.seq (.region [
 ⟨some 4, .cp (.c (.s (.slice none 0 0))), none⟩] (none))
 (.seq (.seq (.region [
 ⟨some 8, .cp (.t 0), none⟩,
 ⟨some 9, .len false (.t 8), none⟩,
 ⟨some 10, .bin .lss (.t 9) (.c (.s (.int .i64 2))), none⟩] (none))
 (.cond (.t 10)
 (.seq (.region [
 ⟨some 11, .cp (.t 0), none⟩,
 ⟨some 4, .cp (.t 11), none⟩] (none))
 .ret)
 .skip))
 (.seq (.seq (.region [
 ⟨some 5, .cp (.c (.s (.int .i64 1))), none⟩] (none))
 (.block 0
 (.loop zpk_)))
 (.seq (.region [
 ⟨some 65, .cp (.t 0), none⟩,
 ⟨some 4, .cp (.t 65), none⟩] (none))
 .ret)))) }
def zjl_ : XF := { np := 2, results := [(.inl 4, .v)], body :=
 (.seq (.region [
 ⟨some 4, .cp (.c (.s (.slice none 0 0))), none⟩] (none))
 (.seq (.region [
 ⟨some 6, .cp (.t 0), none⟩,
 ⟨some 7, .call true zta_ [(.t 6)], none⟩,
 ⟨some 5, .cp (.t 7), none⟩] (none))
 (.seq (.region [
 ⟨some 8, .cp (.t 5), none⟩,
 ⟨some 9, .cp (.t 1), none⟩,
 ⟨some 10, .call false zor_ [(.t 8), (.t 9)], none⟩] (none))
 (.seq (.region [
 ⟨some 11, .cp (.t 5), none⟩,
 ⟨some 4, .cp (.t 11), none⟩] (none))
 .ret)))) }
def zjm_ : XF := { np := 1, results := [(.inl 2, .c)], body :=
 (.seq (.region [
 ⟨some 1, .box true (.t 0), none⟩,
 ⟨some 2, .cp (.c (.s .nilFunc)), none⟩] (none))
 (.seq (.region [
 ⟨some 3, .mkfn false zcw_ [] [(.t 1)], none⟩,
 ⟨some 2, .cp (.t 3), none⟩] (none))
 .ret)) }
def zlz_ : XF := { np := 2, results := [(.inl 4, .v)], body :=
 (.seq (.region [
 ⟨some 2, .box false (.t 0), none⟩,
 ⟨some 3, .box false (.t 1), none⟩,
 ⟨some 4, .cp (.c (.s (.bool false))), none⟩] (none))
 (.seq (.region [
 ⟨some 5, .load 14 true (.t 2), none⟩,
 ⟨some 6, .load 14 true (.t 3), none⟩,
 ⟨some 7, .call false zhl_ [(.t 5), (.t 6)], none⟩,
 ⟨some 8, .bin .eql (.t 7) (.c (.s (.int .i64 0))), none⟩,
 ⟨some 4, .cp (.t 8), none⟩] (none))
 .ret)) }
def zma_ : XF := { np := 2, results := [(.inl 4, .v), (.inl 5, .v)], body :=
 (.seq (.region [
 ⟨some 4, .cp (.c (.s (.int .i64 0))), none⟩,
 ⟨some 5, .cp (.c (.s (.bool false))), none⟩] (none))
 (.seq (.region [
 ⟨some 6, .cp (.t 0), none⟩,
 ⟨some 7, .cp (.t 1), none⟩,
 ⟨some 8, .call false zsv_ [(.t 6), (.t 7), (.c (.fn zkn_ [] []))], none⟩,
 ⟨some 9, .extract (.t 8) 0, none⟩,
 ⟨some 10, .extract (.t 8) 1, none⟩,
 ⟨some 4, .cp (.t 9), none⟩,
 ⟨some 5, .cp (.t 10), none⟩] (none))
 .ret)) }
def zmb_ : XF := { np := 2, results := [(.inl 4, .v)], body :=
 (.seq (.region [
 ⟨some 4, .cp (.c (.s (.bool false))), none⟩] (none))
 (.seq (.region [
 ⟨some 5, .cp (.t 0), none⟩,
 ⟨some 6, .cp (.t 1), none⟩,
 ⟨some 7, .call false zst_ [(.t 5), (.t 6)], none⟩,
 ⟨some 8, .bin .geq (.t 7) (.c (.s (.int .i64 0))), none⟩,
 ⟨some 4, .cp (.t 8), none⟩] (none))
 .ret)) }
def zmc_ : XF := { np := 1, results := [(.inl 2, .v), (.inl 3, .v)], body :=
 (.seq (.region [
 ⟨some 2, .cp (.c (.s (.string ⟨#[]⟩))), none⟩,
 ⟨some 3, .cp (.c (.s (.int .i64 0))), none⟩] (none))
 (.seq (.seq (.region [
 ⟨some 4, .cp (.t 0), none⟩,
 ⟨some 5, .bin .lss (.t 4) (.c (.s (.int .i64 1))), none⟩,
 ⟨some 6, .cp (.t 5), none⟩,
 ⟨some 7, .cp (.t 0), some (6, false)⟩,
 ⟨some 8, .bin .gtr (.t 7) (.c (.s (.int .i64 5))), some (6, false)⟩,
 ⟨some 9, .pick (.t 6) (.c (.s (.bool true))) (.t 8), none⟩] (none))
 (.cond (.t 9)
 (.seq (.region [
 ⟨some 2, .cp (.c (.s (.string ⟨#[]⟩))), none⟩,
 ⟨some 3, .cp (.c (.s (.int .i64 12))), none⟩] (none))
 .ret)
 .skip))
 (.seq (.region [
 ⟨some 10, .call false zss_ [], none⟩,
 ⟨some 11, .cp (.t 0), none⟩,
 ⟨some 12, .iaddr 1 (.t 10) (.t 11), none⟩,
 ⟨some 13, .load 1 false (.t 12), none⟩,
 ⟨some 2, .cp (.t 13), none⟩,
 ⟨some 3, .cp (.c (.s (.int .i64 0))), none⟩] (none))
 .ret))) }
def zmd_ : XF := { np := 1, results := [(.inl 2, .v)], body :=
 (.seq (.region [
 ⟨some 1, .box false (.t 0), none⟩,
 ⟨some 2, .cp (.c (.s (.int .i64 0))), none⟩] (none))
 (.seq (.region [
 ⟨some 3, .faddr (.t 1) 10, none⟩,
 ⟨some 4, .load 1 false (.t 3), none⟩,
 ⟨some 5, .faddr (.t 1) 9, none⟩,
 ⟨some 6, .load 1 false (.t 5), none⟩,
 ⟨some 7, .bin .sub (.t 4) (.t 6), none⟩,
 ⟨some 2, .cp (.t 7), none⟩] (none))
 .ret)) }
def zme_ : XC :=
 (.seq (.region [
 ⟨some 11, .bin .lss (.t 10) (.t 9), none⟩] (none))
 (.seq (.cond (.t 11)
 .skip
 (.exit 0))
 (.seq (.block 1
 (.seq (.region [
 ⟨some 12, .cp (.t 10), none⟩,
 ⟨some 7, .cp (.t 12), none⟩] (none))
 (.seq (.region [
 ⟨some 13, .cp (.t 0), none⟩,
 ⟨some 14, .cp (.t 7), none⟩,
 ⟨some 15, .idxS (.t 13) (.t 14), none⟩,
 ⟨some 16, .cp (.t 1), none⟩,
 ⟨some 17, .bin .lss (.t 15) (.t 16), none⟩,
 ⟨some 18, .cp (.t 17), none⟩,
 ⟨some 19, .cp (.t 0), some (18, false)⟩,
 ⟨some 20, .cp (.t 7), some (18, false)⟩,
 ⟨some 21, .idxS (.t 19) (.t 20), some (18, false)⟩,
 ⟨some 22, .cp (.t 2), some (18, false)⟩,
 ⟨some 23, .bin .gtr (.t 21) (.t 22), some (18, false)⟩,
 ⟨some 24, .pick (.t 18) (.c (.s (.bool true))) (.t 23), none⟩] (none))
 (.cond (.t 24)
 (.seq (.region [
 ⟨some 6, .cp (.c (.s (.bool false))), none⟩] (none))
 .ret)
 .skip))))
 (.region [
 ⟨some 25, .bin .add (.t 10) (.c (.s (.int .i64 1))), none⟩,
 ⟨some 10, .cp (.t 25), none⟩] (none)))))
def zmf_ : XF := { np := 3, results := [(.inl 6, .v)], body :=
 (.seq (.region [
 ⟨some 6, .cp (.c (.s (.bool false))), none⟩] (none))
 (.seq (.seq (.region [
 ⟨some 8, .cp (.t 0), none⟩,
 ⟨some 9, .len true (.t 8), none⟩,
 ⟨some 10, .cp (.c (.s (.int .i64 0))), none⟩] (none))
 (.block 0
 (.loop zme_)))
 (.seq (.region [
 ⟨some 6, .cp (.c (.s (.bool true))), none⟩] (none))
 .ret))) }
def zjn_ : XF := { np := 2, results := [(.inl 4, .v)], body :=
 (.seq (.region [
 ⟨some 4, .cp (.c (.s (.bool false))), none⟩] (none))
 (.seq (.region [
 ⟨some 5, .cp (.t 0), none⟩,
 ⟨some 6, .len true (.t 5), none⟩,
 ⟨some 7, .cp (.t 1), none⟩,
 ⟨some 8, .len true (.t 7), none⟩,
 ⟨some 9, .bin .geq (.t 6) (.t 8), none⟩,
 ⟨some 10, .cp (.t 9), none⟩,
 ⟨some 11, .cp (.t 0), some (10, true)⟩,
 ⟨some 12, .cp (.t 1), some (10, true)⟩,
 ⟨some 13, .len true (.t 12), some (10, true)⟩,
 ⟨some 14, .slStr (.t 11) none (some (.t 13)), some (10, true)⟩,
 ⟨some 15, .cp (.t 1), some (10, true)⟩,
 ⟨some 16, .bin .eql (.t 14) (.t 15), some (10, true)⟩,
 ⟨some 17, .pick (.t 10) (.t 16) (.c (.s (.bool false))), none⟩,
 ⟨some 4, .cp (.t 17), none⟩] (none))
 .ret)) }
def zmg_ : XF := { np := 1, results := [(.inl 2, .v)], body :=
 (.seq (.region [
 ⟨some 2, .cp (.c (.s (.bool false))), none⟩] (none))
 (.seq (.region [
 ⟨some 3, .cp (.t 0), none⟩,
 ⟨some 4, .cp (.t 0), none⟩,
 ⟨some 5, .bin .neq (.t 3) (.t 4), none⟩,
 ⟨some 2, .cp (.t 5), none⟩] (none))
 .ret)) }
def zmh_ : XF := { np := 1, results := [(.inl 2, .v)], body :=
 (.seq (.region [
 ⟨some 2, .cp (.c (.s (.bool false))), none⟩] (none))
 (.seq (.region [
 ⟨some 3, .cp (.t 0), none⟩,
 ⟨some 4, .cp (.t 0), none⟩,
 ⟨some 5, .bin .neq (.t 3) (.t 4), none⟩,
 ⟨some 2, .cp (.t 5), none⟩] (none))
 .ret)) }
def zjo_ : XC :=
 (.seq (.region [
 ⟨some 14, .bin .lss (.t 13) (.t 12), none⟩] (none))
 (.seq (.cond (.t 14)
 .skip
 (.exit 0))
 (.seq (.block 1
 (.seq (.region [
 ⟨some 15, .cp (.t 13), none⟩,
 ⟨some 16, .iaddr 4 (.t 11) (.t 13), none⟩,
 ⟨some 17, .load 4 true (.t 16), none⟩,
 ⟨some 8, .alloc [.s (.string ⟨#[]⟩), .s (.int .i64 0), .s (.string ⟨#[]⟩), .s (.int .i64 0)], none⟩,
 ⟨some 7, .cp (.t 15), none⟩,
 ⟨none, .store 4 (.t 8) (.t 17), none⟩] (none))
 (.seq (.seq (.region [
 ⟨some 18, .cp (.t 7), none⟩,
 ⟨some 19, .cp (.t 1), none⟩,
 ⟨some 20, .len false (.t 19), none⟩,
 ⟨some 21, .bin .geq (.t 18) (.t 20), none⟩] (none))
 (.cond (.t 21)
 (.seq (.region [
 ⟨some 6, .cp (.c (.s (.int .i64 1))), none⟩] (none))
 .ret)
 .skip))
 (.seq (.region [
 ⟨some 22, .cp (.t 1), none⟩,
 ⟨some 23, .cp (.t 7), none⟩,
 ⟨some 24, .iaddr 4 (.t 22) (.t 23), none⟩,
 ⟨some 25, .load 4 true (.t 24), none⟩,
 ⟨some 9, .alloc [.s (.string ⟨#[]⟩), .s (.int .i64 0), .s (.string ⟨#[]⟩), .s (.int .i64 0)], none⟩,
 ⟨none, .store 4 (.t 9) (.t 25), none⟩] (none))
 (.seq (.region [
 ⟨some 26, .cp (.t 2), none⟩,
 ⟨some 27, .load 4 true (.t 8), none⟩,
 ⟨some 28, .load 4 true (.t 9), none⟩,
 ⟨some 29, .callv false (.t 26) [(.t 27), (.t 28)], none⟩,
 ⟨some 10, .cp (.t 29), none⟩] (none))
 (.seq (.region [
 ⟨some 30, .cp (.t 10), none⟩,
 ⟨some 31, .bin .neq (.t 30) (.c (.s (.int .i64 0))), none⟩] (none))
 (.cond (.t 31)
 (.seq (.region [
 ⟨some 32, .cp (.t 10), none⟩,
 ⟨some 6, .cp (.t 32), none⟩] (none))
 .ret)
 .skip)))))))
 (.region [
 ⟨some 33, .bin .add (.t 13) (.c (.s (.int .i64 1))), none⟩,
 ⟨some 13, .cp (.t 33), none⟩] (none)))))
def zmi_ : XF := { np := 3, results := [(.inl 6, .v)], body :=
 (.seq (.region [
 ⟨some 6, .cp (.c (.s (.int .i64 0))), none⟩] (none))
 (.seq (.seq (.region [
 ⟨some 11, .cp (.t 0), none⟩,
 ⟨some 12, .len false (.t 11), none⟩,
 ⟨some 13, .cp (.c (.s (.int .i64 0))), none⟩] (none))
 (.block 0
 (.loop zjo_)))
 (.seq (.seq (.region [
 ⟨some 34, .cp (.t 0), none⟩,
 ⟨some 35, .len false (.t 34), none⟩,
 ⟨some 36, .cp (.t 1), none⟩,
 ⟨some 37, .len false (.t 36), none⟩,
 ⟨some 38, .bin .lss (.t 35) (.t 37), none⟩] (none))
 (.cond (.t 38)
 (.seq (.region [
 ⟨some 6, .cp (.c (.s (.int .i64 (-1)))), none⟩] (none))
 .ret)
 .skip))
 (.seq (.region [
 ⟨some 6, .cp (.c (.s (.int .i64 0))), none⟩] (none))
 .ret)))) }
def zmj_ : XF := { np := 2, results := [(.inl 4, .v)], body :=
 (.seq (.region [
 ⟨some 2, .box false (.t 0), none⟩,
 ⟨some 3, .box false (.t 1), none⟩,
 ⟨some 4, .cp (.c (.s (.int .i64 0))), none⟩] (none))
 (.seq (.region [
 ⟨some 5, .faddr (.t 2) 0, none⟩,
 ⟨some 6, .load 1 false (.t 5), none⟩,
 ⟨some 7, .faddr (.t 3) 0, none⟩,
 ⟨some 8, .load 1 false (.t 7), none⟩,
 ⟨some 9, .call false zgj_ [(.t 6), (.t 8)], none⟩,
 ⟨some 10, .faddr (.t 2) 1, none⟩,
 ⟨some 11, .load 3 true (.t 10), none⟩,
 ⟨some 12, .faddr (.t 3) 1, none⟩,
 ⟨some 13, .load 3 true (.t 12), none⟩,
 ⟨some 14, .call false zoq_ [(.t 11), (.t 13)], none⟩,
 ⟨some 15, .bslice false 1 [(.t 9), (.t 14)], none⟩,
 ⟨some 16, .call false zit_ [(.t 15)], none⟩,
 ⟨some 4, .cp (.t 16), none⟩] (some [(4, some 6), (4, some 8)]))
 .ret)) }
def zjp_ : XF := { np := 1, results := [(.inl 2, .v)], body :=
 (.seq (.region [
 ⟨some 2, .cp (.c (.s (.slice none 0 0))), none⟩] (none))
 (.seq (.region [
 ⟨some 3, .cp (.t 0), none⟩,
 ⟨some 4, .call true ztb_ [(.c (.s (.slice none 0 0))), (.t 3)], none⟩,
 ⟨some 2, .cp (.t 4), none⟩] (none))
 .ret)) }
def ztj_ : XF := { np := 2, results := [], body := .skip, nat := some (.sort 14) }
def zbuj_ : XC :=
 (.seq (.region [
 ⟨some 8, .bin .lss (.t 7) (.t 6), none⟩] (none))
 (.seq (.cond (.t 8)
 .skip
 (.exit 0))
 (.seq (.block 1
 (.seq (.region [
 ⟨some 9, .iaddr 14 (.t 5) (.t 7), none⟩,
 ⟨some 10, .load 14 true (.t 9), none⟩,
 ⟨some 4, .alloc [.s (.int .i64 0), .s (.int .i64 0), .s (.int .i64 0), .s (.int .i64 0), .s (.int .i64 0), .s (.int .i64 0), .s (.string ⟨#[]⟩), .s (.string ⟨#[]⟩), .s (.string ⟨#[]⟩), .s (.int .i64 0), .s (.int .i64 0), .s (.bool false), .s (.slice none 0 0), .s (.slice none 0 0)], none⟩,
 ⟨none, .store 14 (.t 4) (.t 10), none⟩] (none))
 (.seq (.region [
 ⟨some 11, .cp (.t 0), none⟩,
 ⟨some 12, .load 14 true (.t 4), none⟩,
 ⟨some 13, .callv false (.t 11) [(.t 12)], none⟩,
 ⟨some 14, .un .not (.t 13), none⟩] (none))
 (.cond (.t 14)
 .ret
 .skip))))
 (.region [
 ⟨some 15, .bin .add (.t 7) (.c (.s (.int .i64 1))), none⟩,
 ⟨some 7, .cp (.t 15), none⟩] (none)))))
def ztk_ : XF := { np := 2, results := [], body :=
 (.seq (.region [
 ⟨some 5, .load 1 false (.t 1), none⟩,
 ⟨some 6, .len false (.t 5), none⟩,
 ⟨some 7, .cp (.c (.s (.int .i64 0))), none⟩] (none))
 (.block 0
 (.loop zbuj_))) }
def zmk_ : XC :=
 (.seq (.seq (.region [
 ⟨some 15, .cp (.t 9), none⟩,
 ⟨some 16, .cp (.t 10), none⟩,
 ⟨some 17, .bin .lss (.t 15) (.t 16), none⟩] (none))
 (.cond (.t 17)
 .skip
 (.exit 0)))
 (.block 1
 (.seq (.region [
 ⟨some 18, .cp (.t 9), none⟩,
 ⟨some 19, .cp (.t 10), none⟩,
 ⟨some 20, .bin .add (.t 18) (.t 19), none⟩,
 ⟨some 21, .conv .u64 (.t 20), none⟩,
 ⟨some 22, .bin .shr (.t 21) (.c (.s (.int .u64 1))), none⟩,
 ⟨some 23, .conv .i64 (.t 22), none⟩,
 ⟨some 11, .cp (.t 23), none⟩] (none))
 (.seq (.region [
 ⟨some 24, .cp (.t 2), none⟩,
 ⟨some 25, .cp (.t 0), none⟩,
 ⟨some 26, .cp (.t 11), none⟩,
 ⟨some 27, .iaddr 4 (.t 25) (.t 26), none⟩,
 ⟨some 28, .load 4 true (.t 27), none⟩,
 ⟨some 29, .cp (.t 1), none⟩,
 ⟨some 30, .callv false (.t 24) [(.t 28), (.t 29)], none⟩,
 ⟨some 31, .bin .lss (.t 30) (.c (.s (.int .i64 0))), none⟩] (none))
 (.cond (.t 31)
 (.region [
 ⟨some 32, .cp (.t 11), none⟩,
 ⟨some 33, .bin .add (.t 32) (.c (.s (.int .i64 1))), none⟩,
 ⟨some 9, .cp (.t 33), none⟩] (none))
 (.region [
 ⟨some 34, .cp (.t 11), none⟩,
 ⟨some 10, .cp (.t 34), none⟩] (none)))))))
def zml_ : XF := { np := 3, results := [(.inl 6, .v), (.inl 7, .v)], body :=
 (.seq (.region [
 ⟨some 6, .cp (.c (.s (.int .i64 0))), none⟩,
 ⟨some 7, .cp (.c (.s (.bool false))), none⟩] (none))
 (.seq (.region [
 ⟨some 12, .cp (.t 0), none⟩,
 ⟨some 13, .len false (.t 12), none⟩,
 ⟨some 8, .cp (.t 13), none⟩] (none))
 (.seq (.region [
 ⟨some 14, .cp (.t 8), none⟩,
 ⟨some 9, .cp (.c (.s (.int .i64 0))), none⟩,
 ⟨some 10, .cp (.t 14), none⟩] (none))
 (.seq (.block 0
 (.loop zmk_))
 (.seq (.region [
 ⟨some 35, .cp (.t 9), none⟩,
 ⟨some 36, .cp (.t 9), none⟩,
 ⟨some 37, .cp (.t 8), none⟩,
 ⟨some 38, .bin .lss (.t 36) (.t 37), none⟩,
 ⟨some 39, .cp (.t 38), none⟩,
 ⟨some 40, .cp (.t 2), some (39, true)⟩,
 ⟨some 41, .cp (.t 0), some (39, true)⟩,
 ⟨some 42, .cp (.t 9), some (39, true)⟩,
 ⟨some 43, .iaddr 4 (.t 41) (.t 42), some (39, true)⟩,
 ⟨some 44, .load 4 true (.t 43), some (39, true)⟩,
 ⟨some 45, .cp (.t 1), some (39, true)⟩,
 ⟨some 46, .callv false (.t 40) [(.t 44), (.t 45)], some (39, true)⟩,
 ⟨some 47, .bin .eql (.t 46) (.c (.s (.int .i64 0))), some (39, true)⟩,
 ⟨some 48, .pick (.t 39) (.t 47) (.c (.s (.bool false))), none⟩,
 ⟨some 6, .cp (.t 35), none⟩,
 ⟨some 7, .cp (.t 48), none⟩] (none))
 .ret))))) }
def zmm_ : XF := { np := 2, results := [(.inl 4, .v)], body :=
 (.seq (.region [
 ⟨some 2, .box false (.t 0), none⟩,
 ⟨some 4, .cp (.c (.s (.int .i64 0))), none⟩] (none))
 (.seq (.region [
 ⟨some 5, .faddr (.t 2) 0, none⟩,
 ⟨some 6, .load 1 false (.t 5), none⟩,
 ⟨some 7, .cp (.t 1), none⟩,
 ⟨some 8, .call false zgj_ [(.t 6), (.t 7)], none⟩,
 ⟨some 4, .cp (.t 8), none⟩] (none))
 .ret)) }
def zpl_ : XC :=
 (.seq (.region [
 ⟨some 9, .bin .lss (.t 8) (.t 7), none⟩] (none))
 (.seq (.cond (.t 9)
 .skip
 (.exit 0))
 (.seq (.block 1
 (.seq (.region [
 ⟨some 10, .cp (.t 8), none⟩,
 ⟨some 5, .cp (.t 10), none⟩] (none))
 (.seq (.region [
 ⟨some 11, .cp (.t 1), none⟩,
 ⟨some 12, .cp (.t 0), none⟩,
 ⟨some 13, .cp (.t 5), none⟩,
 ⟨some 14, .iaddr 1 (.t 12) (.t 13), none⟩,
 ⟨some 15, .load 1 false (.t 14), none⟩,
 ⟨some 16, .bin .eql (.t 11) (.t 15), none⟩] (none))
 (.cond (.t 16)
 (.seq (.region [
 ⟨some 17, .cp (.t 5), none⟩,
 ⟨some 4, .cp (.t 17), none⟩] (none))
 .ret)
 .skip))))
 (.region [
 ⟨some 18, .bin .add (.t 8) (.c (.s (.int .i64 1))), none⟩,
 ⟨some 8, .cp (.t 18), none⟩] (none)))))
def zmn_ : XF := { np := 2, results := [(.inl 4, .v)], body :=
 (.seq (.region [
 ⟨some 4, .cp (.c (.s (.int .i64 0))), none⟩] (none))
 (.seq (.seq (.region [
 ⟨some 6, .cp (.t 0), none⟩,
 ⟨some 7, .len false (.t 6), none⟩,
 ⟨some 8, .cp (.c (.s (.int .i64 0))), none⟩] (none))
 (.block 0
 (.loop zpl_)))
 (.seq (.region [
 ⟨some 4, .cp (.c (.s (.int .i64 (-1)))), none⟩] (none))
 .ret))) }
def zmo_ : XF := { np := 0, results := [(.inl 0, .v)], body :=
 (.seq (.region [
 ⟨some 0, .cp (.c (.s (.slice none 0 0))), none⟩] (none))
 (.seq (.region [
 ⟨some 1, .bslice false 1 [(.c (.s (.string ⟨#[]⟩))), (.c (.s (.string ⟨#[105, 110, 116, 101, 114, 110, 97, 108]⟩))), (.c (.s (.string ⟨#[99, 108, 105, 101, 110, 116]⟩))), (.c (.s (.string ⟨#[115, 101, 114, 118, 101, 114]⟩))), (.c (.s (.string ⟨#[112, 114, 111, 100, 117, 99, 101, 114]⟩))), (.c (.s (.string ⟨#[99, 111, 110, 115, 117, 109, 101, 114]⟩)))], none⟩,
 ⟨some 0, .cp (.t 1), none⟩] (none))
 .ret)) }
def ztl_ : XF := { np := 2, results := [], body := .skip, nat := some (.seq zcw_ 14 837723144972) }
def zee_ : XF := { np := 3, results := [(.inr (6, 3, true), .v), (.inl 7, .v)], body :=
 (.seq (.region [
 ⟨some 3, .box false (.t 0), none⟩,
 ⟨some 6, .alloc [.s (.int .i64 0), .s (.string ⟨#[]⟩), .s (.int .i64 0)], none⟩,
 ⟨some 7, .cp (.c (.s (.bool false))), none⟩] (none))
 (.seq (.region [
 ⟨some 11, .faddr (.t 3) 0, none⟩,
 ⟨some 12, .load 1 false (.t 11), none⟩,
 ⟨some 13, .cp (.t 1), none⟩,
 ⟨some 9, .alloc [.s (.string ⟨#[]⟩)], none⟩,
 ⟨some 8, .cp (.t 12), none⟩,
 ⟨none, .store 1 (.t 9) (.t 13), none⟩] (none))
 (.seq (.seq (.region [
 ⟨some 14, .cp (.t 1), none⟩,
 ⟨some 15, .bin .eql (.t 14) (.c (.s (.string ⟨#[97, 116, 116, 114]⟩))), none⟩] (none))
 (.cond (.t 15)
 (.region [
 ⟨some 16, .faddr (.t 3) 1, none⟩,
 ⟨some 17, .load 1 false (.t 16), none⟩,
 ⟨some 18, .cp (.t 2), none⟩,
 ⟨some 8, .cp (.t 17), none⟩,
 ⟨none, .store 1 (.t 9) (.t 18), none⟩] (none))
 (.seq (.region [
 ⟨some 19, .cp (.t 2), none⟩,
 ⟨some 20, .bin .neq (.t 19) (.c (.s (.string ⟨#[]⟩))), none⟩] (none))
 (.cond (.t 20)
 (.seq (.region [
 ⟨some 21, .build false [.s (.int .i64 0), .s (.string ⟨#[]⟩), .s (.int .i64 0)] [], none⟩,
 ⟨none, .store 3 (.t 6) (.t 21), none⟩,
 ⟨some 7, .cp (.c (.s (.bool false))), none⟩] (none))
 .ret)
 .skip))))
 (.seq (.region [
 ⟨some 22, .cp (.t 8), none⟩,
 ⟨some 23, .mkfn false zkq_ [] [(.t 9)], none⟩,
 ⟨some 24, .call false zte_ [(.t 22), (.t 23)], none⟩,
 ⟨some 10, .cp (.t 24), none⟩] (none))
 (.seq (.seq (.region [
 ⟨some 25, .cp (.t 10), none⟩,
 ⟨some 26, .bin .lss (.t 25) (.c (.s (.int .i64 0))), none⟩] (none))
 (.cond (.t 26)
 (.seq (.region [
 ⟨some 27, .build false [.s (.int .i64 0), .s (.string ⟨#[]⟩), .s (.int .i64 0)] [], none⟩,
 ⟨none, .store 3 (.t 6) (.t 27), none⟩,
 ⟨some 7, .cp (.c (.s (.bool false))), none⟩] (none))
 .ret)
 .skip))
 (.seq (.region [
 ⟨some 28, .cp (.t 8), none⟩,
 ⟨some 29, .cp (.t 10), none⟩,
 ⟨some 30, .iaddr 4 (.t 28) (.t 29), none⟩,
 ⟨some 31, .faddr (.t 30) 1, none⟩,
 ⟨some 32, .load 3 true (.t 31), none⟩,
 ⟨none, .store 3 (.t 6) (.t 32), none⟩,
 ⟨some 7, .cp (.c (.s (.bool true))), none⟩] (none))
 .ret)))))) }
def zpm_ : XC :=
 (.seq (.region [
 ⟨some 9, .bin .lss (.t 8) (.t 7), none⟩] (none))
 (.seq (.cond (.t 9)
 .skip
 (.exit 0))
 (.seq (.block 1
 (.seq (.region [
 ⟨some 10, .cp (.t 8), none⟩,
 ⟨some 5, .cp (.t 10), none⟩] (none))
 (.seq (.region [
 ⟨some 11, .cp (.t 1), none⟩,
 ⟨some 12, .cp (.t 0), none⟩,
 ⟨some 13, .cp (.t 5), none⟩,
 ⟨some 14, .iaddr 4 (.t 12) (.t 13), none⟩,
 ⟨some 15, .load 4 true (.t 14), none⟩,
 ⟨some 16, .callv false (.t 11) [(.t 15)], none⟩] (none))
 (.cond (.t 16)
 (.seq (.region [
 ⟨some 17, .cp (.t 5), none⟩,
 ⟨some 4, .cp (.t 17), none⟩] (none))
 .ret)
 .skip))))
 (.region [
 ⟨some 18, .bin .add (.t 8) (.c (.s (.int .i64 1))), none⟩,
 ⟨some 8, .cp (.t 18), none⟩] (none)))))
def zmp_ : XF := { np := 2, results := [(.inl 4, .v)], body :=
 (.seq (.region [
 ⟨some 4, .cp (.c (.s (.int .i64 0))), none⟩] (none))
 (.seq (.seq (.region [
 ⟨some 6, .cp (.t 0), none⟩,
 ⟨some 7, .len false (.t 6), none⟩,
 ⟨some 8, .cp (.c (.s (.int .i64 0))), none⟩] (none))
 (.block 0
 (.loop zpm_)))
 (.seq (.region [
 ⟨some 4, .cp (.c (.s (.int .i64 (-1)))), none⟩] (none))
 .ret))) }
def zmq_ : XF := { np := 2, results := [(.inl 3, .v)], body :=
 (.seq (.region [
 ⟨some 2, .box false (.t 0), none⟩,
 ⟨some 3, .cp (.c (.s (.bool false))), none⟩] (none))
 (.seq (.region [
 ⟨some 4, .faddr (.t 2) 0, none⟩,
 ⟨some 5, .load 1 false (.t 4), none⟩,
 ⟨some 6, .load 1 false (.t 1), none⟩,
 ⟨some 7, .bin .eql (.t 5) (.t 6), none⟩,
 ⟨some 3, .cp (.t 7), none⟩] (none))
 .ret)) }
def zpn_ : XF := { np := 1, results := [(.inl 2, .v)], body :=
 (.seq (.region [
 ⟨some 2, .cp (.c (.s (.slice none 0 0))), none⟩] (none))
 (.seq (.region [
 ⟨some 3, .cp (.t 0), none⟩,
 ⟨some 4, .call false zol_ [(.t 3)], none⟩,
 ⟨some 5, .call true zkl_ [(.t 4), (.c (.fn zom_ [] []))], none⟩,
 ⟨some 2, .cp (.t 5), none⟩] (none))
 .ret)) }
def ztm_ : XF := { np := 1, results := [(.inl 2, .v)], body :=
 (.seq (.region [
 ⟨some 2, .cp (.c (.s (.bool false))), none⟩] (none))
 (.seq (.region [
 ⟨some 2, .cp (.c (.s (.bool true))), none⟩] (none))
 .ret)) }
def XPL : List (Option XF) := [none, none, none, none, none, none, none, none, none, none, none, none, none, none, none, none, none, none, none, none, none, none, none, none, none, none, none, none, none, none, none, none, none, none, none, none, none, none, none, none, none, none, none, none, none, none, none, none, none, none, none, none, none, none, none, none, none, none, none, none, none, none, none, none, none, none, none, none, none, none, none, none, none, none, none, none, none, none, none, none, none, none, none, none, none, none, none, none, none, none, none, none, none, none, none, none, none, none, none, none, none, none, none, none, none, none, none, none, none, none, none, none, none, none, none, none, none, none, none, none, none, none, none, none, none, none, none, none, none, none, none, none, none, none, none, none, none, none, none, none, none, none, none, none, none, none, none, none, none, none, none, none, none, none, none, none, some zkr_, some zbb_, none, some zle_, some zln_, some zla_, some zlz_, some zlm_, some zly_, some zjb_, some zld_, some zkv_, some zbc_, some zbi_, some zbp_, some zaw_, none, some zjd_, some zmc_, none, some zlf_, some zmd_, none, none, some zlr_, some zlc_, some zku_, some ziy_, some zpn_, none, none, some zlb_, none, some zhr_, some zhs_, some zlq_, some zje_, some zjf_, none, some zlu_, some zlv_, some zhu_, some zjh_, some zlp_, some zlw_, some zlx_, some zja_, some zhp_, some zlg_, some zgo_, some zcs_, some zmb_, some zmf_, some zma_, some zmo_, some zmn_, some zlk_, some zhq_, some ztm_, none, some zjc_, some zmg_, some zmh_, some zmi_, some zmj_, some zlt_, some zml_, some zmm_, some zlo_, some zhv_, some zjl_, some zjm_, none, some zjj_, some zjk_, some zjp_, some ztj_, some ztk_, some ztl_, none, none, none, none, none, none, none, none, none, none, none, none, none, none, none, none, none, none, none, none, none, none, none, none, none, none, none, none, none, none, none, none, none, none, none, none, none, none, none, none, some zks_, some zkt_, none, none, none, none, none, none, none, none, none, none, none, none, none, none, none, none, none, none, none, none, none, none, none, none, none, none, none, none, none, none, none, none, none, none, none, some zgm_, some zac_, some zdr_, none, some zkw_, none, none, none, none, none, none, none, none, none, none, none, none, none, none, none, none, none, none, none, none, none, none, none, none, none, none, none, none, none, none, none, none, none, none, none, none, none, none, none, none, none, some zgq_, some zlh_, some zli_, some zlj_, some zgn_, none, none, none, none, none, some zmp_, none, none, none, none, none, none, none, none, none, none, none, none, none, none, none, none, none, none, none, none, none, some zls_, some zjg_, none, none, none, none, none, none, none, none, none, none, none, none, none, none, none, none, none, none, none, none, none, none, none, none, none, none, none, none, none, some zjn_, none, none, none, none, none, none, none, none, none, none, none, none, none, none, none, none, none, none, none, none, none, none, none, none, none, none, none, none, none, none, none, none, none, none, none, none, none, none, none, none, none, none, none, none, none, none, none, none, none, none, none, none, none, none, none, none, none, none, none, none, none, none, none, none, none, none, none, none, none, none, none, none, none, none, none, none, none, none, none, none, none, none, none, none, none, none, none, none, none, none, none, none, none, none, none, none, none, none, some zho_, none, some ziz_, none, some zll_, some zee_, some zmq_]
def XP : Nat → Option XF := fun n => XPL.getD n none
theorem zbuk_ : XP zoa_ = some zkr_ := rfl
theorem zbk_ : XP zkj_ = some zbb_ := rfl
theorem zbul_ : XP zob_ = some zle_ := rfl
theorem zbum_ : XP zhl_ = some zln_ := rfl
theorem zbun_ : XP zsc_ = some zla_ := rfl
theorem zbuo_ : XP zgi_ = some zlz_ := rfl
theorem zbup_ : XP zoc_ = some zlm_ := rfl
theorem zbuq_ : XP zir_ = some zly_ := rfl
theorem zbur_ : XP zsd_ = some zjb_ := rfl
theorem zbus_ : XP zod_ = some zld_ := rfl
theorem zbut_ : XP zse_ = some zkv_ := rfl
theorem zbw_ : XP zay_ = some zbc_ := rfl
theorem zca_ : XP zbh_ = some zbi_ := rfl
theorem zci_ : XP zbv_ = some zbp_ := rfl
theorem zbuu_ : XP zoe_ = some zaw_ := rfl
theorem zbuv_ : XP zof_ = some zjd_ := rfl
theorem zbuw_ : XP zsf_ = some zmc_ := rfl
theorem zbux_ : XP zsg_ = some zlf_ := rfl
theorem zbuy_ : XP zsh_ = some zmd_ := rfl
theorem zbuz_ : XP zog_ = some zlr_ := rfl
theorem zbva_ : XP zoh_ = some zlc_ := rfl
theorem zbvb_ : XP zsi_ = some zku_ := rfl
theorem zbvc_ : XP zsj_ = some ziy_ := rfl
theorem zbvd_ : XP zsk_ = some zpn_ := rfl
theorem zbve_ : XP zoi_ = some zlb_ := rfl
theorem zbvf_ : XP zis_ = some zhr_ := rfl
theorem zbvg_ : XP zec_ = some zhs_ := rfl
theorem zbvh_ : XP zsl_ = some zlq_ := rfl
theorem zbvi_ : XP zsm_ = some zje_ := rfl
theorem zbvj_ : XP zsn_ = some zjf_ := rfl
theorem zbvk_ : XP zit_ = some zlu_ := rfl
theorem zbvl_ : XP zoj_ = some zlv_ := rfl
theorem zbvm_ : XP zgj_ = some zhu_ := rfl
theorem zbvn_ : XP zed_ = some zjh_ := rfl
theorem zbvo_ : XP zkk_ = some zlp_ := rfl
theorem zbvp_ : XP zso_ = some zlw_ := rfl
theorem zbvq_ : XP zsp_ = some zlx_ := rfl
theorem zbvr_ : XP zbz_ = some zja_ := rfl
theorem zbvs_ : XP zhm_ = some zhp_ := rfl
theorem zbvt_ : XP ziu_ = some zlg_ := rfl
theorem zpo_ : XP ziv_ = some zgo_ := rfl
theorem zdy_ : XP zdd_ = some zcs_ := rfl
theorem zbvu_ : XP zsq_ = some zmb_ := rfl
theorem zbvv_ : XP zok_ = some zmf_ := rfl
theorem zbvw_ : XP zsr_ = some zma_ := rfl
theorem zbvx_ : XP zss_ = some zmo_ := rfl
theorem zbvy_ : XP zst_ = some zmn_ := rfl
theorem zbvz_ : XP zkl_ = some zlk_ := rfl
theorem ztn_ : XP zol_ = some zhq_ := rfl
theorem zbwa_ : XP zom_ = some ztm_ := rfl
theorem zbwb_ : XP zon_ = some zjc_ := rfl
theorem zbwc_ : XP zoo_ = some zmg_ := rfl
theorem zbwd_ : XP zop_ = some zmh_ := rfl
theorem zbwe_ : XP zsu_ = some zmi_ := rfl
theorem zbwf_ : XP zkm_ = some zmj_ := rfl
theorem zbwg_ : XP zoq_ = some zlt_ := rfl
theorem zbwh_ : XP zsv_ = some zml_ := rfl
theorem zbwi_ : XP zkn_ = some zmm_ := rfl
theorem zbwj_ : XP zsw_ = some zlo_ := rfl
theorem zto_ : XP zko_ = some zhv_ := rfl
theorem zbwk_ : XP zsx_ = some zjl_ := rfl
theorem zyp_ : XP zgk_ = some zjm_ := rfl
theorem zbwl_ : XP zsy_ = some zjj_ := rfl
theorem zbwm_ : XP zsz_ = some zjk_ := rfl
theorem zbwn_ : XP zta_ = some zjp_ := rfl
theorem zyq_ : XP zor_ = some ztj_ := rfl
theorem zbwo_ : XP ztb_ = some ztl_ := rfl
theorem zbwp_ : XP ztc_ = some zks_ := rfl
theorem zbwq_ : XP zos_ = some zkt_ := rfl
theorem zyr_ : XP zdw_ = some zgm_ := rfl
theorem zef_ : XP zde_ = some zac_ := rfl
theorem zbwr_ : XP zgl_ = some zdr_ := rfl
theorem zbws_ : XP zot_ = some zkw_ := rfl
theorem zbwt_ : XP ztd_ = some zgq_ := rfl
theorem zbwu_ : XP zdq_ = some zlh_ := rfl
theorem zbwv_ : XP zou_ = some zli_ := rfl
theorem zbww_ : XP zov_ = some zlj_ := rfl
theorem zpp_ : XP zkp_ = some zgn_ := rfl
theorem zbwx_ : XP zte_ = some zmp_ := rfl
theorem zbwy_ : XP ztf_ = some zls_ := rfl
theorem zys_ : XP ztg_ = some zjg_ := rfl
theorem zyt_ : XP zow_ = some zjn_ := rfl
theorem zyu_ : XP zox_ = some zho_ := rfl
theorem zbwz_ : XP zth_ = some ziz_ := rfl
theorem zbxa_ : XP zoy_ = some zll_ := rfl
theorem zbxb_ : XP ziw_ = some zee_ := rfl
theorem zbxc_ : XP zkq_ = some zmq_ := rfl
end Go.Proofs.Sl
