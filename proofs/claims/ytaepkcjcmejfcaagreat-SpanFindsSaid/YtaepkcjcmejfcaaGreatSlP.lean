/- A part of the proof. -/
import Derived.Test.YtaepkcjcmejfcaaGreatSlA
set_option linter.unusedVariables false
set_option linter.unusedSimpArgs false
set_option linter.unnecessarySimpa false
namespace Go.Proofs.Sl
set_option maxRecDepth 100000
def zpq_ : Nat := 156
def zhv_ : Nat := 157
def zlp_ : Nat := 159
def zds_ : Nat := 160
def zge_ : Nat := 161
def zdt_ : Nat := 162
def zhw_ : Nat := 163
def zgf_ : Nat := 164
def zpr_ : Nat := 165
def zlq_ : Nat := 166
def zlr_ : Nat := 168
def zps_ : Nat := 169
def zpt_ : Nat := 171
def zbuh_ : Nat := 173
def zbui_ : Nat := 174
def zpu_ : Nat := 177
def zls_ : Nat := 180
def zlt_ : Nat := 181
def zpv_ : Nat := 182
def zpw_ : Nat := 183
def zpx_ : Nat := 184
def zpy_ : Nat := 185
def zdu_ : Nat := 187
def zpz_ : Nat := 188
def zgg_ : Nat := 189
def zgh_ : Nat := 190
def zqa_ : Nat := 191
def zqb_ : Nat := 192
def zqc_ : Nat := 193
def zgi_ : Nat := 195
def zlu_ : Nat := 196
def zdv_ : Nat := 197
def zcx_ : Nat := 198
def zhx_ : Nat := 199
def zqd_ : Nat := 200
def zqe_ : Nat := 201
def zbk_ : Nat := 202
def zeu_ : Nat := 203
def zlv_ : Nat := 204
def zbuj_ : Nat := 205
def zqf_ : Nat := 206
def zqg_ : Nat := 207
def zlw_ : Nat := 208
def zbuk_ : Nat := 209
def zbul_ : Nat := 210
def zqh_ : Nat := 211
def zlx_ : Nat := 212
def zly_ : Nat := 213
def zlz_ : Nat := 214
def zma_ : Nat := 216
def zmb_ : Nat := 217
def zmc_ : Nat := 218
def zqi_ : Nat := 219
def zhy_ : Nat := 220
def zmd_ : Nat := 221
def zbum_ : Nat := 222
def zbun_ : Nat := 223
def zme_ : Nat := 224
def zhz_ : Nat := 225
def zqj_ : Nat := 226
def zdw_ : Nat := 227
def zqk_ : Nat := 229
def zql_ : Nat := 230
def zqm_ : Nat := 231
def zmf_ : Nat := 232
def zbx_ : Nat := 233
def zqn_ : Nat := 234
def zmg_ : Nat := 280
def zmh_ : Nat := 286
def zmi_ : Nat := 302
def zqo_ : Nat := 317
def zqp_ : Nat := 318
def zqq_ : Nat := 321
def zia_ : Nat := 322
def zqr_ : Nat := 354
def zbuo_ : Nat := 362
def zcy_ : Nat := 365
def zbup_ : Nat := 391
def zbuq_ : Nat := 421
def zib_ : Nat := 521
def zmj_ : Nat := 523
def zgj_ : XC :=
 (.seq (.seq (.region [
 ⟨some 31, .cp (.t 11), none⟩,
 ⟨some 32, .cp (.t 8), none⟩,
 ⟨some 33, .len false (.t 32), none⟩,
 ⟨some 34, .bin .lss (.t 31) (.t 33), none⟩] (none))
 (.cond (.t 34)
 .skip
 (.exit 0)))
 (.seq (.block 1
 (.seq (.region [
 ⟨some 37, .cp (.t 9), none⟩,
 ⟨some 38, .cp (.t 8), none⟩,
 ⟨some 39, .cp (.t 11), none⟩,
 ⟨some 40, .iaddr 14 (.t 38) (.t 39), none⟩,
 ⟨some 41, .faddr (.t 40) 0, none⟩,
 ⟨some 42, .load 1 false (.t 41), none⟩,
 ⟨some 43, .cp (.t 8), none⟩,
 ⟨some 44, .cp (.t 11), none⟩,
 ⟨some 45, .iaddr 14 (.t 43) (.t 44), none⟩,
 ⟨some 46, .faddr (.t 45) 1, none⟩,
 ⟨some 47, .load 1 false (.t 46), none⟩,
 ⟨some 48, .build false [.s (.int .i64 0), .s (.int .i64 0)] [(0, 1, (.t 42)), (1, 1, (.t 47))], none⟩,
 ⟨some 49, .bslice false 2 [(.t 48)], none⟩,
 ⟨some 50, .append 2 8796093022208 (.t 37) (.t 49), none⟩,
 ⟨some 9, .cp (.t 50), none⟩] (some []))
 (.seq (.region [
 ⟨some 51, .cp (.t 10), none⟩,
 ⟨some 52, .len false (.t 51), none⟩,
 ⟨some 53, .bin .eql (.t 52) (.c (.s (.int .i64 0))), none⟩,
 ⟨some 54, .cp (.t 53), none⟩,
 ⟨some 55, .cp (.t 10), some (54, false)⟩,
 ⟨some 56, .cp (.t 10), some (54, false)⟩,
 ⟨some 57, .len false (.t 56), some (54, false)⟩,
 ⟨some 58, .bin .sub (.t 57) (.c (.s (.int .i64 1))), some (54, false)⟩,
 ⟨some 59, .iaddr 1 (.t 55) (.t 58), some (54, false)⟩,
 ⟨some 60, .load 1 false (.t 59), some (54, false)⟩,
 ⟨some 61, .cp (.t 8), some (54, false)⟩,
 ⟨some 62, .cp (.t 11), some (54, false)⟩,
 ⟨some 63, .iaddr 14 (.t 61) (.t 62), some (54, false)⟩,
 ⟨some 64, .faddr (.t 63) 0, some (54, false)⟩,
 ⟨some 65, .load 1 false (.t 64), some (54, false)⟩,
 ⟨some 66, .bin .neq (.t 60) (.t 65), some (54, false)⟩,
 ⟨some 67, .pick (.t 54) (.c (.s (.bool true))) (.t 66), none⟩] (some []))
 (.cond (.t 67)
 (.region [
 ⟨some 68, .cp (.t 10), none⟩,
 ⟨some 69, .cp (.t 8), none⟩,
 ⟨some 70, .cp (.t 11), none⟩,
 ⟨some 71, .iaddr 14 (.t 69) (.t 70), none⟩,
 ⟨some 72, .faddr (.t 71) 0, none⟩,
 ⟨some 73, .load 1 false (.t 72), none⟩,
 ⟨some 74, .bslice false 1 [(.t 73)], none⟩,
 ⟨some 75, .append 1 17592186044416 (.t 68) (.t 74), none⟩,
 ⟨some 10, .cp (.t 75), none⟩] (none))
 .skip))))
 (.region [
 ⟨some 35, .cp (.t 11), none⟩,
 ⟨some 36, .bin .add (.t 35) (.c (.s (.int .i64 1))), none⟩,
 ⟨some 11, .cp (.t 36), none⟩] (none))))
def zgk_ : XC :=
 (.seq (.seq (.region [
 ⟨some 91, .cp (.t 18), none⟩,
 ⟨some 92, .cp (.t 8), none⟩,
 ⟨some 93, .len false (.t 92), none⟩,
 ⟨some 94, .bin .lss (.t 91) (.t 93), none⟩] (none))
 (.cond (.t 94)
 .skip
 (.exit 4)))
 (.seq (.block 5
 (.seq (.seq (.region [
 ⟨some 97, .cp (.t 8), none⟩,
 ⟨some 98, .cp (.t 18), none⟩,
 ⟨some 99, .iaddr 14 (.t 97) (.t 98), none⟩,
 ⟨some 100, .faddr (.t 99) 0, none⟩,
 ⟨some 101, .load 1 false (.t 100), none⟩,
 ⟨some 102, .cp (.t 9), none⟩,
 ⟨some 103, .cp (.t 12), none⟩,
 ⟨some 104, .iaddr 2 (.t 102) (.t 103), none⟩,
 ⟨some 105, .faddr (.t 104) 0, none⟩,
 ⟨some 106, .load 1 false (.t 105), none⟩,
 ⟨some 107, .bin .neq (.t 101) (.t 106), none⟩] (some []))
 (.cond (.t 107)
 (.exit 5)
 .skip))
 (.seq (.region [
 ⟨some 108, .cp (.t 16), none⟩,
 ⟨some 109, .cp (.t 8), none⟩,
 ⟨some 110, .cp (.t 18), none⟩,
 ⟨some 111, .iaddr 14 (.t 109) (.t 110), none⟩,
 ⟨some 112, .load 14 true (.t 111), none⟩,
 ⟨some 113, .bslice false 14 [(.t 112)], none⟩,
 ⟨some 114, .append 14 837723144972 (.t 108) (.t 113), none⟩,
 ⟨some 16, .cp (.t 114), none⟩] (none))
 (.seq (.region [
 ⟨some 115, .cp (.t 8), none⟩,
 ⟨some 116, .cp (.t 18), none⟩,
 ⟨some 117, .iaddr 14 (.t 115) (.t 116), none⟩,
 ⟨some 118, .faddr (.t 117) 1, none⟩,
 ⟨some 119, .load 1 false (.t 118), none⟩,
 ⟨some 120, .cp (.t 9), none⟩,
 ⟨some 121, .cp (.t 12), none⟩,
 ⟨some 122, .iaddr 2 (.t 120) (.t 121), none⟩,
 ⟨some 123, .faddr (.t 122) 1, none⟩,
 ⟨some 124, .load 1 false (.t 123), none⟩,
 ⟨some 125, .bin .eql (.t 119) (.t 124), none⟩] (some []))
 (.cond (.t 125)
 (.region [
 ⟨some 126, .cp (.t 8), none⟩,
 ⟨some 127, .cp (.t 18), none⟩,
 ⟨some 128, .iaddr 14 (.t 126) (.t 127), none⟩,
 ⟨some 129, .load 14 true (.t 128), none⟩,
 ⟨none, .store 14 (.t 15) (.t 129), none⟩,
 ⟨some 17, .cp (.c (.s (.bool true))), none⟩] (none))
 .skip)))))
 (.region [
 ⟨some 95, .cp (.t 18), none⟩,
 ⟨some 96, .bin .add (.t 95) (.c (.s (.int .i64 1))), none⟩,
 ⟨some 18, .cp (.t 96), none⟩] (none))))
def zmk_ : XC :=
 (.seq (.seq (.region [
 ⟨some 76, .cp (.t 12), none⟩,
 ⟨some 77, .cp (.t 9), none⟩,
 ⟨some 78, .len false (.t 77), none⟩,
 ⟨some 79, .bin .lss (.t 76) (.t 78), none⟩] (none))
 (.cond (.t 79)
 .skip
 (.exit 2)))
 (.seq (.block 3
 (.seq (.region [
 ⟨some 83, .cp (.t 7), none⟩,
 ⟨some 84, .cp (.t 9), none⟩,
 ⟨some 85, .cp (.t 12), none⟩,
 ⟨some 86, .iaddr 2 (.t 84) (.t 85), none⟩,
 ⟨some 87, .load 2 true (.t 86), none⟩,
 ⟨some 88, .call false zmj_ [(.t 83), (.t 87)], none⟩,
 ⟨some 82, .cp (.t 88), none⟩,
 ⟨some 89, .extract (.t 82) 0, none⟩,
 ⟨some 90, .extract (.t 82) 1, none⟩,
 ⟨some 13, .alloc [.s (.int .i64 0), .s (.int .i64 0), .s (.int .i64 0), .s (.int .i64 0), .s (.int .i64 0), .s (.int .i64 0), .s (.string ⟨#[]⟩), .s (.string ⟨#[]⟩), .s (.string ⟨#[]⟩), .s (.int .i64 0), .s (.int .i64 0), .s (.bool false), .s (.slice none 0 0), .s (.slice none 0 0)], none⟩,
 ⟨none, .store 14 (.t 13) (.t 89), none⟩,
 ⟨some 14, .cp (.t 90), none⟩] (none))
 (.seq (.region [
 ⟨some 15, .alloc [.s (.int .i64 0), .s (.int .i64 0), .s (.int .i64 0), .s (.int .i64 0), .s (.int .i64 0), .s (.int .i64 0), .s (.string ⟨#[]⟩), .s (.string ⟨#[]⟩), .s (.string ⟨#[]⟩), .s (.int .i64 0), .s (.int .i64 0), .s (.bool false), .s (.slice none 0 0), .s (.slice none 0 0)], none⟩] (none))
 (.seq (.region [
 ⟨some 16, .cp (.c (.s (.slice none 0 0))), none⟩] (none))
 (.seq (.region [
 ⟨some 17, .cp (.c (.s (.bool false))), none⟩] (none))
 (.seq (.seq (.region [
 ⟨some 18, .cp (.c (.s (.int .i64 0))), none⟩] (none))
 (.block 4
 (.loop zgk_)))
 (.seq (.region [
 ⟨some 130, .cp (.t 14), none⟩,
 ⟨some 131, .cp (.t 17), none⟩,
 ⟨some 132, .eqv .b true (.t 130) (.t 131), none⟩,
 ⟨some 133, .cp (.t 132), none⟩,
 ⟨some 134, .load 14 true (.t 13), some (133, false)⟩,
 ⟨some 135, .load 14 true (.t 15), some (133, false)⟩,
 ⟨some 136, .call false zge_ [(.t 134), (.t 135)], some (133, false)⟩,
 ⟨some 137, .bin .neq (.t 136) (.c (.s (.int .i64 0))), some (133, false)⟩,
 ⟨some 138, .pick (.t 133) (.c (.s (.bool true))) (.t 137), none⟩,
 ⟨some 139, .cp (.t 138), none⟩,
 ⟨some 140, .cp (.t 7), some (139, false)⟩,
 ⟨some 141, .cp (.t 9), some (139, false)⟩,
 ⟨some 142, .cp (.t 12), some (139, false)⟩,
 ⟨some 143, .iaddr 2 (.t 141) (.t 142), some (139, false)⟩,
 ⟨some 144, .faddr (.t 143) 0, some (139, false)⟩,
 ⟨some 145, .load 1 false (.t 144), some (139, false)⟩,
 ⟨some 146, .call false zmh_ [(.t 140), (.t 145)], some (139, false)⟩,
 ⟨some 147, .cp (.t 16), some (139, false)⟩,
 ⟨some 148, .call false zpw_ [(.t 146), (.t 147)], some (139, false)⟩,
 ⟨some 149, .un .not (.t 148), some (139, false)⟩,
 ⟨some 150, .pick (.t 139) (.c (.s (.bool true))) (.t 149), none⟩] (none))
 (.cond (.t 150)
 (.seq (.region [
 ⟨some 6, .cp (.c (.s (.bool false))), none⟩] (none))
 .ret)
 .skip))))))))
 (.region [
 ⟨some 80, .cp (.t 12), none⟩,
 ⟨some 81, .bin .add (.t 80) (.c (.s (.int .i64 1))), none⟩,
 ⟨some 12, .cp (.t 81), none⟩] (none))))
def zml_ : XC :=
 (.seq (.seq (.region [
 ⟨some 158, .cp (.t 20), none⟩,
 ⟨some 159, .cp (.t 19), none⟩,
 ⟨some 160, .len false (.t 159), none⟩,
 ⟨some 161, .bin .lss (.t 158) (.t 160), none⟩] (none))
 (.cond (.t 161)
 .skip
 (.exit 6)))
 (.seq (.block 7
 (.seq (.region [
 ⟨some 164, .cp (.t 19), none⟩,
 ⟨some 165, .cp (.t 20), none⟩,
 ⟨some 166, .iaddr 1 (.t 164) (.t 165), none⟩,
 ⟨some 167, .load 1 false (.t 166), none⟩,
 ⟨some 168, .cp (.t 10), none⟩,
 ⟨some 169, .cp (.t 20), none⟩,
 ⟨some 170, .iaddr 1 (.t 168) (.t 169), none⟩,
 ⟨some 171, .load 1 false (.t 170), none⟩,
 ⟨some 172, .bin .neq (.t 167) (.t 171), none⟩] (some []))
 (.cond (.t 172)
 (.seq (.region [
 ⟨some 6, .cp (.c (.s (.bool false))), none⟩] (none))
 .ret)
 .skip)))
 (.region [
 ⟨some 162, .cp (.t 20), none⟩,
 ⟨some 163, .bin .add (.t 162) (.c (.s (.int .i64 1))), none⟩,
 ⟨some 20, .cp (.t 163), none⟩] (none))))
def zic_ : XF := { np := 3, results := [(.inl 6, .v)], body :=
 (.seq (.region [
 ⟨some 6, .cp (.c (.s (.bool false))), none⟩] (none))
 (.seq (.region [
 ⟨some 21, .cp (.t 0), none⟩,
 ⟨some 22, .call false zpv_ [(.t 21)], none⟩,
 ⟨some 7, .cp (.t 22), none⟩] (none))
 (.seq (.region [
 ⟨some 23, .cp (.t 7), none⟩,
 ⟨some 24, .call false zpz_ [(.t 23)], none⟩,
 ⟨some 8, .cp (.t 24), none⟩] (none))
 (.seq (.seq (.region [
 ⟨some 25, .call false zpq_ [], none⟩,
 ⟨some 26, .un .not (.t 25), none⟩] (none))
 (.cond (.t 26)
 (.seq (.region [
 ⟨some 6, .cp (.c (.s (.bool false))), none⟩] (none))
 .ret)
 .skip))
 (.seq (.region [
 ⟨some 27, .cp (.t 1), none⟩,
 ⟨some 28, .cp (.t 2), none⟩,
 ⟨some 29, .build false [.s (.int .i64 0), .s (.int .i64 0)] [(0, 1, (.t 27)), (1, 1, (.t 28))], none⟩,
 ⟨some 30, .bslice true 2 [(.t 29)], none⟩,
 ⟨some 9, .cp (.t 30), none⟩] (none))
 (.seq (.region [
 ⟨some 10, .cp (.c (.s (.slice none 0 0))), none⟩] (none))
 (.seq (.seq (.region [
 ⟨some 11, .cp (.c (.s (.int .i64 0))), none⟩] (none))
 (.block 0
 (.loop zgj_)))
 (.seq (.seq (.region [
 ⟨some 12, .cp (.c (.s (.int .i64 0))), none⟩] (none))
 (.block 2
 (.loop zmk_)))
 (.seq (.region [
 ⟨some 151, .cp (.t 7), none⟩,
 ⟨some 152, .call false zmg_ [(.t 151)], none⟩,
 ⟨some 19, .cp (.t 152), none⟩] (none))
 (.seq (.seq (.region [
 ⟨some 153, .cp (.t 19), none⟩,
 ⟨some 154, .len false (.t 153), none⟩,
 ⟨some 155, .cp (.t 10), none⟩,
 ⟨some 156, .len false (.t 155), none⟩,
 ⟨some 157, .bin .neq (.t 154) (.t 156), none⟩] (none))
 (.cond (.t 157)
 (.seq (.region [
 ⟨some 6, .cp (.c (.s (.bool false))), none⟩] (none))
 .ret)
 .skip))
 (.seq (.seq (.region [
 ⟨some 20, .cp (.c (.s (.int .i64 0))), none⟩] (none))
 (.block 6
 (.loop zml_)))
 (.seq (.region [
 ⟨some 6, .cp (.c (.s (.bool true))), none⟩] (none))
 .ret)))))))))))) }
def zid_ : XF := { np := 0, results := [(.inl 0, .v)], body :=
 (.seq (.region [
 ⟨some 0, .cp (.c (.s (.bool false))), none⟩] (none))
 (.seq (.region [
 ⟨some 6, .build false [.s (.int .i64 0), .s (.int .i64 0), .s (.int .i64 0), .s (.int .i64 0), .s (.int .i64 0), .s (.int .i64 0), .s (.string ⟨#[]⟩), .s (.string ⟨#[]⟩), .s (.string ⟨#[]⟩), .s (.int .i64 0), .s (.int .i64 0), .s (.bool false), .s (.slice none 0 0), .s (.slice none 0 0)] [(0, 1, (.c (.s (.int .i64 1)))), (1, 1, (.c (.s (.int .i64 2)))), (3, 1, (.c (.s (.int .i64 1)))), (4, 1, (.c (.s (.int .i64 1)))), (5, 1, (.c (.s (.int .i64 3)))), (6, 1, (.c (.s (.string ⟨#[115]⟩)))), (8, 1, (.c (.s (.string ⟨#[111]⟩)))), (9, 1, (.c (.s (.int .i64 4)))), (10, 1, (.c (.s (.int .i64 9))))], none⟩,
 ⟨some 1, .alloc [.s (.int .i64 0), .s (.int .i64 0), .s (.int .i64 0), .s (.int .i64 0), .s (.int .i64 0), .s (.int .i64 0), .s (.string ⟨#[]⟩), .s (.string ⟨#[]⟩), .s (.string ⟨#[]⟩), .s (.int .i64 0), .s (.int .i64 0), .s (.bool false), .s (.slice none 0 0), .s (.slice none 0 0)], none⟩,
 ⟨none, .store 14 (.t 1) (.t 6), none⟩] (none))
 (.seq (.region [
 ⟨some 7, .load 14 true (.t 1), none⟩,
 ⟨some 2, .alloc [.s (.int .i64 0), .s (.int .i64 0), .s (.int .i64 0), .s (.int .i64 0), .s (.int .i64 0), .s (.int .i64 0), .s (.string ⟨#[]⟩), .s (.string ⟨#[]⟩), .s (.string ⟨#[]⟩), .s (.int .i64 0), .s (.int .i64 0), .s (.bool false), .s (.slice none 0 0), .s (.slice none 0 0)], none⟩,
 ⟨none, .store 14 (.t 2) (.t 7), none⟩] (none))
 (.seq (.region [
 ⟨some 8, .faddr (.t 2) 3, none⟩,
 ⟨none, .store 1 (.t 8) (.c (.s (.int .i64 0))), none⟩,
 ⟨some 9, .faddr (.t 2) 10, none⟩,
 ⟨none, .store 1 (.t 9) (.c (.s (.int .i64 12))), none⟩] (none))
 (.seq (.region [
 ⟨some 10, .load 14 true (.t 2), none⟩,
 ⟨some 11, .load 14 true (.t 1), none⟩,
 ⟨some 12, .bslice false 14 [(.t 10), (.t 11)], none⟩,
 ⟨some 13, .call false zdu_ [(.t 12)], none⟩,
 ⟨some 3, .cp (.t 13), none⟩] (none))
 (.seq (.region [
 ⟨some 15, .load 14 true (.t 1), none⟩,
 ⟨some 16, .build false [.s (.int .i64 0), .s (.int .i64 0), .s (.int .i64 0), .s (.int .i64 0), .s (.int .i64 0), .s (.int .i64 0), .s (.string ⟨#[]⟩), .s (.string ⟨#[]⟩), .s (.string ⟨#[]⟩), .s (.int .i64 0), .s (.int .i64 0), .s (.bool false), .s (.slice none 0 0), .s (.slice none 0 0)] [(0, 14, (.t 15))], none⟩,
 ⟨some 17, .call false zlr_ [(.t 16), (.c (.s (.string ⟨#[100, 117, 114, 97, 116, 105, 111, 110]⟩))), (.c (.s (.string ⟨#[]⟩)))], none⟩,
 ⟨some 14, .cp (.t 17), none⟩,
 ⟨some 18, .extract (.t 14) 0, none⟩,
 ⟨some 19, .extract (.t 14) 1, none⟩,
 ⟨some 4, .alloc [.s (.int .i64 0), .s (.string ⟨#[]⟩), .s (.int .i64 0)], none⟩,
 ⟨none, .store 3 (.t 4) (.t 18), none⟩,
 ⟨some 5, .cp (.t 19), none⟩] (none))
 (.seq (.region [
 ⟨some 20, .load 14 true (.t 1), none⟩,
 ⟨some 21, .call false zhv_ [(.t 20)], none⟩,
 ⟨some 22, .bin .eql (.t 21) (.c (.s (.int .i64 0))), none⟩,
 ⟨some 23, .cp (.t 22), none⟩,
 ⟨some 24, .cp (.t 3), some (23, true)⟩,
 ⟨some 25, .len false (.t 24), some (23, true)⟩,
 ⟨some 26, .bin .eql (.t 25) (.c (.s (.int .i64 1))), some (23, true)⟩,
 ⟨some 27, .pick (.t 23) (.t 26) (.c (.s (.bool false))), none⟩,
 ⟨some 28, .cp (.t 27), none⟩,
 ⟨some 29, .cp (.t 3), some (28, true)⟩,
 ⟨some 30, .iaddr 14 (.t 29) (.c (.s (.int .i64 0))), some (28, true)⟩,
 ⟨some 31, .faddr (.t 30) 10, some (28, true)⟩,
 ⟨some 32, .load 1 false (.t 31), some (28, true)⟩,
 ⟨some 33, .bin .eql (.t 32) (.c (.s (.int .i64 9))), some (28, true)⟩,
 ⟨some 34, .pick (.t 28) (.t 33) (.c (.s (.bool false))), none⟩,
 ⟨some 35, .cp (.t 34), none⟩,
 ⟨some 36, .cp (.t 5), some (35, true)⟩,
 ⟨some 37, .pick (.t 35) (.t 36) (.c (.s (.bool false))), none⟩,
 ⟨some 38, .cp (.t 37), none⟩,
 ⟨some 39, .load 3 true (.t 4), some (38, true)⟩,
 ⟨some 40, .build false [.s (.int .i64 0), .s (.string ⟨#[]⟩), .s (.int .i64 0)] [(0, 1, (.c (.s (.int .i64 2)))), (2, 1, (.c (.s (.int .i64 5))))], some (38, true)⟩,
 ⟨some 41, .eqv (.a [.i, .t, .i]) false (.t 39) (.t 40), some (38, true)⟩,
 ⟨some 42, .pick (.t 38) (.t 41) (.c (.s (.bool false))), none⟩,
 ⟨some 43, .cp (.t 42), none⟩,
 ⟨some 44, .call false zlt_ [(.c (.s (.int .i64 16777216)))], some (43, true)⟩,
 ⟨some 45, .bin .eql (.t 44) (.c (.s (.int .i64 1))), some (43, true)⟩,
 ⟨some 46, .pick (.t 43) (.t 45) (.c (.s (.bool false))), none⟩,
 ⟨some 47, .cp (.t 46), none⟩,
 ⟨some 48, .call false zlq_ [], some (47, true)⟩,
 ⟨some 49, .len false (.t 48), some (47, true)⟩,
 ⟨some 50, .bin .eql (.t 49) (.c (.s (.int .i64 15))), some (47, true)⟩,
 ⟨some 51, .pick (.t 47) (.t 50) (.c (.s (.bool false))), none⟩,
 ⟨some 0, .cp (.t 51), none⟩] (none))
 .ret))))))) }
def zmm_ : XC :=
 (.seq (.seq (.region [
 ⟨some 5, .cp (.t 4), none⟩,
 ⟨some 6, .cp (.t 0), none⟩,
 ⟨some 7, .len false (.t 6), none⟩,
 ⟨some 8, .bin .lss (.t 5) (.t 7), none⟩,
 ⟨some 9, .cp (.t 8), none⟩,
 ⟨some 10, .cp (.t 4), some (9, true)⟩,
 ⟨some 11, .bin .lss (.t 10) (.c (.s (.int .i64 12))), some (9, true)⟩,
 ⟨some 12, .pick (.t 9) (.t 11) (.c (.s (.bool false))), none⟩] (none))
 (.cond (.t 12)
 .skip
 (.exit 0)))
 (.seq (.block 1
 (.region [
 ⟨some 15, .cp (.t 3), none⟩,
 ⟨some 16, .cp (.t 0), none⟩,
 ⟨some 17, .cp (.t 4), none⟩,
 ⟨some 18, .iaddr 14 (.t 16) (.t 17), none⟩,
 ⟨some 19, .load 14 true (.t 18), none⟩,
 ⟨some 20, .call false zlp_ [(.t 19)], none⟩,
 ⟨some 21, .bslice false 14 [(.t 20)], none⟩,
 ⟨some 22, .append 14 837723144972 (.t 15) (.t 21), none⟩,
 ⟨some 3, .cp (.t 22), none⟩] (none)))
 (.region [
 ⟨some 13, .cp (.t 4), none⟩,
 ⟨some 14, .bin .add (.t 13) (.c (.s (.int .i64 1))), none⟩,
 ⟨some 4, .cp (.t 14), none⟩] (none))))
def zie_ : XF := { np := 1, results := [(.inl 2, .v)], body :=
 (.seq (.region [
 ⟨some 2, .cp (.c (.s (.slice none 0 0))), none⟩] (none))
 (.seq (.region [
 ⟨some 3, .cp (.c (.s (.slice none 0 0))), none⟩] (none))
 (.seq (.seq (.region [
 ⟨some 4, .cp (.c (.s (.int .i64 0))), none⟩] (none))
 (.block 0
 (.loop zmm_)))
 (.seq (.region [
 ⟨some 23, .cp (.t 3), none⟩,
 ⟨some 2, .cp (.t 23), none⟩] (none))
 .ret)))) }
def zmn_ : XC :=
 (.seq (.seq (.region [
 ⟨some 11, .cp (.t 5), none⟩,
 ⟨some 12, .cp (.t 0), none⟩,
 ⟨some 13, .len false (.t 12), none⟩,
 ⟨some 14, .bin .lss (.t 11) (.t 13), none⟩] (none))
 (.cond (.t 14)
 .skip
 (.exit 0)))
 (.seq (.block 1
 (.seq (.region [
 ⟨some 17, .cp (.t 0), none⟩,
 ⟨some 18, .cp (.t 5), none⟩,
 ⟨some 19, .iaddr 14 (.t 17) (.t 18), none⟩,
 ⟨some 20, .load 14 true (.t 19), none⟩,
 ⟨some 21, .cp (.t 1), none⟩,
 ⟨some 22, .cp (.t 5), none⟩,
 ⟨some 23, .iaddr 14 (.t 21) (.t 22), none⟩,
 ⟨some 24, .load 14 true (.t 23), none⟩,
 ⟨some 25, .call false zge_ [(.t 20), (.t 24)], none⟩,
 ⟨some 26, .bin .neq (.t 25) (.c (.s (.int .i64 0))), none⟩] (some []))
 (.cond (.t 26)
 (.seq (.region [
 ⟨some 4, .cp (.c (.s (.bool false))), none⟩] (none))
 .ret)
 .skip)))
 (.region [
 ⟨some 15, .cp (.t 5), none⟩,
 ⟨some 16, .bin .add (.t 15) (.c (.s (.int .i64 1))), none⟩,
 ⟨some 5, .cp (.t 16), none⟩] (none))))
def zgl_ : XF := { np := 2, results := [(.inl 4, .v)], body :=
 (.seq (.region [
 ⟨some 4, .cp (.c (.s (.bool false))), none⟩] (none))
 (.seq (.seq (.region [
 ⟨some 6, .cp (.t 0), none⟩,
 ⟨some 7, .len false (.t 6), none⟩,
 ⟨some 8, .cp (.t 1), none⟩,
 ⟨some 9, .len false (.t 8), none⟩,
 ⟨some 10, .bin .neq (.t 7) (.t 9), none⟩] (none))
 (.cond (.t 10)
 (.seq (.region [
 ⟨some 4, .cp (.c (.s (.bool false))), none⟩] (none))
 .ret)
 .skip))
 (.seq (.seq (.region [
 ⟨some 5, .cp (.c (.s (.int .i64 0))), none⟩] (none))
 (.block 0
 (.loop zmn_)))
 (.seq (.region [
 ⟨some 4, .cp (.c (.s (.bool true))), none⟩] (none))
 .ret)))) }
def zgm_ : XC :=
 (.seq (.seq (.region [
 ⟨some 8, .cp (.t 5), none⟩,
 ⟨some 9, .cp (.t 3), none⟩,
 ⟨some 10, .len false (.t 9), none⟩,
 ⟨some 11, .bin .lss (.t 8) (.t 10), none⟩] (none))
 (.cond (.t 11)
 .skip
 (.exit 0)))
 (.seq (.block 1
 (.seq (.region [
 ⟨some 14, .cp (.t 5), none⟩,
 ⟨some 15, .bin .add (.t 14) (.c (.s (.int .i64 1))), none⟩,
 ⟨some 16, .cp (.t 3), none⟩,
 ⟨some 17, .len false (.t 16), none⟩,
 ⟨some 18, .bin .eql (.t 15) (.t 17), none⟩,
 ⟨some 19, .cp (.t 18), none⟩,
 ⟨some 20, .cp (.t 3), some (19, false)⟩,
 ⟨some 21, .cp (.t 5), some (19, false)⟩,
 ⟨some 22, .bin .add (.t 21) (.c (.s (.int .i64 1))), some (19, false)⟩,
 ⟨some 23, .iaddr 14 (.t 20) (.t 22), some (19, false)⟩,
 ⟨some 24, .faddr (.t 23) 0, some (19, false)⟩,
 ⟨some 25, .load 1 false (.t 24), some (19, false)⟩,
 ⟨some 26, .cp (.t 3), some (19, false)⟩,
 ⟨some 27, .cp (.t 5), some (19, false)⟩,
 ⟨some 28, .iaddr 14 (.t 26) (.t 27), some (19, false)⟩,
 ⟨some 29, .faddr (.t 28) 0, some (19, false)⟩,
 ⟨some 30, .load 1 false (.t 29), some (19, false)⟩,
 ⟨some 31, .bin .neq (.t 25) (.t 30), some (19, false)⟩,
 ⟨some 32, .pick (.t 19) (.c (.s (.bool true))) (.t 31), none⟩,
 ⟨some 33, .cp (.t 32), none⟩,
 ⟨some 34, .cp (.t 3), some (33, false)⟩,
 ⟨some 35, .cp (.t 5), some (33, false)⟩,
 ⟨some 36, .bin .add (.t 35) (.c (.s (.int .i64 1))), some (33, false)⟩,
 ⟨some 37, .iaddr 14 (.t 34) (.t 36), some (33, false)⟩,
 ⟨some 38, .faddr (.t 37) 1, some (33, false)⟩,
 ⟨some 39, .load 1 false (.t 38), some (33, false)⟩,
 ⟨some 40, .cp (.t 3), some (33, false)⟩,
 ⟨some 41, .cp (.t 5), some (33, false)⟩,
 ⟨some 42, .iaddr 14 (.t 40) (.t 41), some (33, false)⟩,
 ⟨some 43, .faddr (.t 42) 1, some (33, false)⟩,
 ⟨some 44, .load 1 false (.t 43), some (33, false)⟩,
 ⟨some 45, .bin .neq (.t 39) (.t 44), some (33, false)⟩,
 ⟨some 46, .pick (.t 33) (.c (.s (.bool true))) (.t 45), none⟩] (some []))
 (.cond (.t 46)
 (.region [
 ⟨some 47, .cp (.t 4), none⟩,
 ⟨some 48, .cp (.t 3), none⟩,
 ⟨some 49, .cp (.t 5), none⟩,
 ⟨some 50, .iaddr 14 (.t 48) (.t 49), none⟩,
 ⟨some 51, .load 14 true (.t 50), none⟩,
 ⟨some 52, .bslice false 14 [(.t 51)], none⟩,
 ⟨some 53, .append 14 837723144972 (.t 47) (.t 52), none⟩,
 ⟨some 4, .cp (.t 53), none⟩] (none))
 .skip)))
 (.region [
 ⟨some 12, .cp (.t 5), none⟩,
 ⟨some 13, .bin .add (.t 12) (.c (.s (.int .i64 1))), none⟩,
 ⟨some 5, .cp (.t 13), none⟩] (none))))
def zif_ : XF := { np := 1, results := [(.inl 2, .v)], body :=
 (.seq (.region [
 ⟨some 2, .cp (.c (.s (.slice none 0 0))), none⟩] (none))
 (.seq (.region [
 ⟨some 6, .cp (.t 0), none⟩,
 ⟨some 7, .call false zpy_ [(.t 6)], none⟩,
 ⟨some 3, .cp (.t 7), none⟩] (none))
 (.seq (.region [
 ⟨some 4, .cp (.c (.s (.slice none 0 0))), none⟩] (none))
 (.seq (.seq (.region [
 ⟨some 5, .cp (.c (.s (.int .i64 0))), none⟩] (none))
 (.block 0
 (.loop zgm_)))
 (.seq (.region [
 ⟨some 54, .cp (.t 4), none⟩,
 ⟨some 2, .cp (.t 54), none⟩] (none))
 .ret))))) }
def zdx_ : XC :=
 (.seq (.region [
 ⟨some 12, .bin .lss (.t 11) (.t 10), none⟩] (none))
 (.seq (.cond (.t 12)
 .skip
 (.exit 0))
 (.seq (.block 1
 (.seq (.region [
 ⟨some 13, .cp (.t 11), none⟩,
 ⟨some 14, .iaddr 14 (.t 9) (.t 11), none⟩,
 ⟨some 15, .load 14 true (.t 14), none⟩,
 ⟨some 8, .alloc [.s (.int .i64 0), .s (.int .i64 0), .s (.int .i64 0), .s (.int .i64 0), .s (.int .i64 0), .s (.int .i64 0), .s (.string ⟨#[]⟩), .s (.string ⟨#[]⟩), .s (.string ⟨#[]⟩), .s (.int .i64 0), .s (.int .i64 0), .s (.bool false), .s (.slice none 0 0), .s (.slice none 0 0)], none⟩,
 ⟨some 7, .cp (.t 13), none⟩,
 ⟨none, .store 14 (.t 8) (.t 15), none⟩] (none))
 (.seq (.region [
 ⟨some 16, .load 14 true (.t 8), none⟩,
 ⟨some 17, .call false zhw_ [(.t 16)], none⟩,
 ⟨some 18, .load 2 true (.t 3), none⟩,
 ⟨some 19, .eqv (.a [.i, .i]) false (.t 17) (.t 18), none⟩,
 ⟨some 20, .cp (.t 19), none⟩,
 ⟨some 21, .cp (.t 6), some (20, true)⟩,
 ⟨some 22, .bin .lss (.t 21) (.c (.s (.int .i64 0))), some (20, true)⟩,
 ⟨some 23, .cp (.t 22), some (20, true)⟩,
 ⟨some 24, .cp (.t 0), some (23, false)⟩,
 ⟨some 25, .cp (.t 6), some (23, false)⟩,
 ⟨some 26, .iaddr 14 (.t 24) (.t 25), some (23, false)⟩,
 ⟨some 27, .load 14 true (.t 26), some (23, false)⟩,
 ⟨some 28, .load 14 true (.t 8), some (23, false)⟩,
 ⟨some 29, .call false zds_ [(.t 27), (.t 28)], some (23, false)⟩,
 ⟨some 30, .bin .lss (.t 29) (.c (.s (.int .i64 0))), some (23, false)⟩,
 ⟨some 31, .pick (.t 23) (.c (.s (.bool true))) (.t 30), some (20, true)⟩,
 ⟨some 32, .pick (.t 20) (.t 31) (.c (.s (.bool false))), none⟩] (some [(1, some 2)]))
 (.cond (.t 32)
 (.region [
 ⟨some 33, .cp (.t 7), none⟩,
 ⟨some 6, .cp (.t 33), none⟩] (none))
 .skip))))
 (.region [
 ⟨some 34, .bin .add (.t 11) (.c (.s (.int .i64 1))), none⟩,
 ⟨some 11, .cp (.t 34), none⟩] (none)))))
def zig_ : XF := { np := 2, results := [(.inr (4, 14, true), .v), (.inl 5, .v)], body :=
 (.seq (.region [
 ⟨some 3, .box false (.t 1), none⟩,
 ⟨some 4, .alloc [.s (.int .i64 0), .s (.int .i64 0), .s (.int .i64 0), .s (.int .i64 0), .s (.int .i64 0), .s (.int .i64 0), .s (.string ⟨#[]⟩), .s (.string ⟨#[]⟩), .s (.string ⟨#[]⟩), .s (.int .i64 0), .s (.int .i64 0), .s (.bool false), .s (.slice none 0 0), .s (.slice none 0 0)], none⟩,
 ⟨some 5, .cp (.c (.s (.bool false))), none⟩] (none))
 (.seq (.region [
 ⟨some 6, .cp (.c (.s (.int .i64 (-1)))), none⟩] (none))
 (.seq (.seq (.region [
 ⟨some 9, .cp (.t 0), none⟩,
 ⟨some 10, .len false (.t 9), none⟩,
 ⟨some 11, .cp (.c (.s (.int .i64 0))), none⟩] (none))
 (.block 0
 (.loop zdx_)))
 (.seq (.seq (.region [
 ⟨some 35, .cp (.t 6), none⟩,
 ⟨some 36, .bin .lss (.t 35) (.c (.s (.int .i64 0))), none⟩] (none))
 (.cond (.t 36)
 (.seq (.region [
 ⟨some 37, .build false [.s (.int .i64 0), .s (.int .i64 0), .s (.int .i64 0), .s (.int .i64 0), .s (.int .i64 0), .s (.int .i64 0), .s (.string ⟨#[]⟩), .s (.string ⟨#[]⟩), .s (.string ⟨#[]⟩), .s (.int .i64 0), .s (.int .i64 0), .s (.bool false), .s (.slice none 0 0), .s (.slice none 0 0)] [], none⟩,
 ⟨none, .store 14 (.t 4) (.t 37), none⟩,
 ⟨some 5, .cp (.c (.s (.bool false))), none⟩] (none))
 .ret)
 .skip))
 (.seq (.region [
 ⟨some 38, .cp (.t 0), none⟩,
 ⟨some 39, .cp (.t 6), none⟩,
 ⟨some 40, .iaddr 14 (.t 38) (.t 39), none⟩,
 ⟨some 41, .load 14 true (.t 40), none⟩,
 ⟨some 42, .call false zme_ [(.t 41)], none⟩,
 ⟨none, .store 14 (.t 4) (.t 42), none⟩,
 ⟨some 5, .cp (.c (.s (.bool true))), none⟩] (none))
 .ret))))) }
def zih_ : XC :=
 (.seq (.seq (.region [
 ⟨some 74, .cp (.t 6), none⟩,
 ⟨some 75, .faddr (.t 2) 12, none⟩,
 ⟨some 76, .load 1 false (.t 75), none⟩,
 ⟨some 77, .len false (.t 76), none⟩,
 ⟨some 78, .bin .lss (.t 74) (.t 77), none⟩,
 ⟨some 79, .cp (.t 78), none⟩,
 ⟨some 80, .cp (.t 6), some (79, true)⟩,
 ⟨some 81, .faddr (.t 3) 12, some (79, true)⟩,
 ⟨some 82, .load 1 false (.t 81), some (79, true)⟩,
 ⟨some 83, .len false (.t 82), some (79, true)⟩,
 ⟨some 84, .bin .lss (.t 80) (.t 83), some (79, true)⟩,
 ⟨some 85, .pick (.t 79) (.t 84) (.c (.s (.bool false))), none⟩] (none))
 (.cond (.t 85)
 .skip
 (.exit 0)))
 (.seq (.block 1
 (.seq (.region [
 ⟨some 88, .faddr (.t 2) 12, none⟩,
 ⟨some 89, .load 1 false (.t 88), none⟩,
 ⟨some 90, .cp (.t 6), none⟩,
 ⟨some 91, .iaddr 4 (.t 89) (.t 90), none⟩,
 ⟨some 92, .load 4 true (.t 91), none⟩,
 ⟨some 93, .faddr (.t 3) 12, none⟩,
 ⟨some 94, .load 1 false (.t 93), none⟩,
 ⟨some 95, .cp (.t 6), none⟩,
 ⟨some 96, .iaddr 4 (.t 94) (.t 95), none⟩,
 ⟨some 97, .load 4 true (.t 96), none⟩,
 ⟨some 7, .alloc [.s (.string ⟨#[]⟩), .s (.int .i64 0), .s (.string ⟨#[]⟩), .s (.int .i64 0)], none⟩,
 ⟨some 8, .alloc [.s (.string ⟨#[]⟩), .s (.int .i64 0), .s (.string ⟨#[]⟩), .s (.int .i64 0)], none⟩,
 ⟨none, .store 4 (.t 7) (.t 92), none⟩,
 ⟨none, .store 4 (.t 8) (.t 97), none⟩] (some [(10, some 1), (10, some 3), (10, some 4), (10, some 6), (10, some 8), (10, some 9), (11, some 1), (11, some 3), (11, some 4), (11, some 6), (11, some 8), (11, some 9), (12, some 6), (12, some 8), (12, some 9)]))
 (.region [
 ⟨some 98, .cp (.t 5), none⟩,
 ⟨some 99, .faddr (.t 7) 0, none⟩,
 ⟨some 100, .load 1 false (.t 99), none⟩,
 ⟨some 101, .faddr (.t 8) 0, none⟩,
 ⟨some 102, .load 1 false (.t 101), none⟩,
 ⟨some 103, .call false zeu_ [(.t 100), (.t 102)], none⟩,
 ⟨some 104, .faddr (.t 7) 1, none⟩,
 ⟨some 105, .faddr (.t 104) 0, none⟩,
 ⟨some 106, .load 1 false (.t 105), none⟩,
 ⟨some 107, .faddr (.t 8) 1, none⟩,
 ⟨some 108, .faddr (.t 107) 0, none⟩,
 ⟨some 109, .load 1 false (.t 108), none⟩,
 ⟨some 110, .call false zbk_ [(.t 106), (.t 109)], none⟩,
 ⟨some 111, .faddr (.t 7) 1, none⟩,
 ⟨some 112, .faddr (.t 111) 1, none⟩,
 ⟨some 113, .load 1 false (.t 112), none⟩,
 ⟨some 114, .faddr (.t 8) 1, none⟩,
 ⟨some 115, .faddr (.t 114) 1, none⟩,
 ⟨some 116, .load 1 false (.t 115), none⟩,
 ⟨some 117, .call false zeu_ [(.t 113), (.t 116)], none⟩,
 ⟨some 118, .faddr (.t 7) 1, none⟩,
 ⟨some 119, .faddr (.t 118) 2, none⟩,
 ⟨some 120, .load 1 false (.t 119), none⟩,
 ⟨some 121, .faddr (.t 8) 1, none⟩,
 ⟨some 122, .faddr (.t 121) 2, none⟩,
 ⟨some 123, .load 1 false (.t 122), none⟩,
 ⟨some 124, .call false zbk_ [(.t 120), (.t 123)], none⟩,
 ⟨some 125, .bslice false 1 [(.t 103), (.t 110), (.t 117), (.t 124)], none⟩,
 ⟨some 126, .append 1 17592186044416 (.t 98) (.t 125), none⟩,
 ⟨some 5, .cp (.t 126), none⟩] (some [(5, none), (12, none), (19, some 22), (19, some 25)]))))
 (.region [
 ⟨some 86, .cp (.t 6), none⟩,
 ⟨some 87, .bin .add (.t 86) (.c (.s (.int .i64 1))), none⟩,
 ⟨some 6, .cp (.t 87), none⟩] (none))))
def zii_ : XC :=
 (.seq (.seq (.region [
 ⟨some 137, .cp (.t 9), none⟩,
 ⟨some 138, .faddr (.t 2) 13, none⟩,
 ⟨some 139, .load 1 false (.t 138), none⟩,
 ⟨some 140, .len false (.t 139), none⟩,
 ⟨some 141, .bin .lss (.t 137) (.t 140), none⟩,
 ⟨some 142, .cp (.t 141), none⟩,
 ⟨some 143, .cp (.t 9), some (142, true)⟩,
 ⟨some 144, .faddr (.t 3) 13, some (142, true)⟩,
 ⟨some 145, .load 1 false (.t 144), some (142, true)⟩,
 ⟨some 146, .len false (.t 145), some (142, true)⟩,
 ⟨some 147, .bin .lss (.t 143) (.t 146), some (142, true)⟩,
 ⟨some 148, .pick (.t 142) (.t 147) (.c (.s (.bool false))), none⟩] (none))
 (.cond (.t 148)
 .skip
 (.exit 2)))
 (.seq (.block 3
 (.region [
 ⟨some 151, .cp (.t 5), none⟩,
 ⟨some 152, .faddr (.t 2) 13, none⟩,
 ⟨some 153, .load 1 false (.t 152), none⟩,
 ⟨some 154, .cp (.t 9), none⟩,
 ⟨some 155, .iaddr 2 (.t 153) (.t 154), none⟩,
 ⟨some 156, .load 2 true (.t 155), none⟩,
 ⟨some 157, .faddr (.t 3) 13, none⟩,
 ⟨some 158, .load 1 false (.t 157), none⟩,
 ⟨some 159, .cp (.t 9), none⟩,
 ⟨some 160, .iaddr 2 (.t 158) (.t 159), none⟩,
 ⟨some 161, .load 2 true (.t 160), none⟩,
 ⟨some 162, .call false zpr_ [(.t 156), (.t 161)], none⟩,
 ⟨some 163, .bslice false 1 [(.t 162)], none⟩,
 ⟨some 164, .append 1 17592186044416 (.t 151) (.t 163), none⟩,
 ⟨some 5, .cp (.t 164), none⟩] (some [])))
 (.region [
 ⟨some 149, .cp (.t 9), none⟩,
 ⟨some 150, .bin .add (.t 149) (.c (.s (.int .i64 1))), none⟩,
 ⟨some 9, .cp (.t 150), none⟩] (none))))
def zij_ : XC :=
 (.seq (.seq (.region [
 ⟨some 175, .cp (.t 10), none⟩,
 ⟨some 176, .cp (.t 5), none⟩,
 ⟨some 177, .len false (.t 176), none⟩,
 ⟨some 178, .bin .lss (.t 175) (.t 177), none⟩] (none))
 (.cond (.t 178)
 .skip
 (.exit 4)))
 (.seq (.block 5
 (.seq (.region [
 ⟨some 181, .cp (.t 5), none⟩,
 ⟨some 182, .cp (.t 10), none⟩,
 ⟨some 183, .iaddr 1 (.t 181) (.t 182), none⟩,
 ⟨some 184, .load 1 false (.t 183), none⟩,
 ⟨some 185, .bin .neq (.t 184) (.c (.s (.int .i64 0))), none⟩] (none))
 (.cond (.t 185)
 (.seq (.region [
 ⟨some 186, .cp (.t 5), none⟩,
 ⟨some 187, .cp (.t 10), none⟩,
 ⟨some 188, .iaddr 1 (.t 186) (.t 187), none⟩,
 ⟨some 189, .load 1 false (.t 188), none⟩,
 ⟨some 4, .cp (.t 189), none⟩] (none))
 .ret)
 .skip)))
 (.region [
 ⟨some 179, .cp (.t 10), none⟩,
 ⟨some 180, .bin .add (.t 179) (.c (.s (.int .i64 1))), none⟩,
 ⟨some 10, .cp (.t 180), none⟩] (none))))
def zik_ : XF := { np := 2, results := [(.inl 4, .v)], body :=
 (.seq (.region [
 ⟨some 2, .box false (.t 0), none⟩,
 ⟨some 3, .box false (.t 1), none⟩,
 ⟨some 4, .cp (.c (.s (.int .i64 0))), none⟩] (none))
 (.seq (.region [
 ⟨some 11, .faddr (.t 2) 0, none⟩,
 ⟨some 12, .load 1 false (.t 11), none⟩,
 ⟨some 13, .faddr (.t 3) 0, none⟩,
 ⟨some 14, .load 1 false (.t 13), none⟩,
 ⟨some 15, .call false zbk_ [(.t 12), (.t 14)], none⟩,
 ⟨some 16, .faddr (.t 2) 1, none⟩,
 ⟨some 17, .load 1 false (.t 16), none⟩,
 ⟨some 18, .faddr (.t 3) 1, none⟩,
 ⟨some 19, .load 1 false (.t 18), none⟩,
 ⟨some 20, .call false zbk_ [(.t 17), (.t 19)], none⟩,
 ⟨some 21, .faddr (.t 2) 3, none⟩,
 ⟨some 22, .load 1 false (.t 21), none⟩,
 ⟨some 23, .faddr (.t 3) 3, none⟩,
 ⟨some 24, .load 1 false (.t 23), none⟩,
 ⟨some 25, .call false zbk_ [(.t 22), (.t 24)], none⟩,
 ⟨some 26, .faddr (.t 2) 2, none⟩,
 ⟨some 27, .load 1 false (.t 26), none⟩,
 ⟨some 28, .faddr (.t 3) 2, none⟩,
 ⟨some 29, .load 1 false (.t 28), none⟩,
 ⟨some 30, .call false zbk_ [(.t 27), (.t 29)], none⟩,
 ⟨some 31, .faddr (.t 2) 4, none⟩,
 ⟨some 32, .load 1 false (.t 31), none⟩,
 ⟨some 33, .faddr (.t 3) 4, none⟩,
 ⟨some 34, .load 1 false (.t 33), none⟩,
 ⟨some 35, .call false zbk_ [(.t 32), (.t 34)], none⟩,
 ⟨some 36, .faddr (.t 2) 5, none⟩,
 ⟨some 37, .load 1 false (.t 36), none⟩,
 ⟨some 38, .faddr (.t 3) 5, none⟩,
 ⟨some 39, .load 1 false (.t 38), none⟩,
 ⟨some 40, .call false zbk_ [(.t 37), (.t 39)], none⟩,
 ⟨some 41, .faddr (.t 2) 6, none⟩,
 ⟨some 42, .load 1 false (.t 41), none⟩,
 ⟨some 43, .faddr (.t 3) 6, none⟩,
 ⟨some 44, .load 1 false (.t 43), none⟩,
 ⟨some 45, .call false zeu_ [(.t 42), (.t 44)], none⟩,
 ⟨some 46, .faddr (.t 2) 7, none⟩,
 ⟨some 47, .load 1 false (.t 46), none⟩,
 ⟨some 48, .faddr (.t 3) 7, none⟩,
 ⟨some 49, .load 1 false (.t 48), none⟩,
 ⟨some 50, .call false zeu_ [(.t 47), (.t 49)], none⟩,
 ⟨some 51, .faddr (.t 2) 8, none⟩,
 ⟨some 52, .load 1 false (.t 51), none⟩,
 ⟨some 53, .faddr (.t 3) 8, none⟩,
 ⟨some 54, .load 1 false (.t 53), none⟩,
 ⟨some 55, .call false zeu_ [(.t 52), (.t 54)], none⟩,
 ⟨some 56, .faddr (.t 2) 9, none⟩,
 ⟨some 57, .load 1 false (.t 56), none⟩,
 ⟨some 58, .faddr (.t 3) 9, none⟩,
 ⟨some 59, .load 1 false (.t 58), none⟩,
 ⟨some 60, .call false zbk_ [(.t 57), (.t 59)], none⟩,
 ⟨some 61, .faddr (.t 2) 10, none⟩,
 ⟨some 62, .load 1 false (.t 61), none⟩,
 ⟨some 63, .faddr (.t 3) 10, none⟩,
 ⟨some 64, .load 1 false (.t 63), none⟩,
 ⟨some 65, .call false zbk_ [(.t 62), (.t 64)], none⟩,
 ⟨some 66, .faddr (.t 2) 11, none⟩,
 ⟨some 67, .load 1 false (.t 66), none⟩,
 ⟨some 68, .call false zlv_ [(.t 67)], none⟩,
 ⟨some 69, .faddr (.t 3) 11, none⟩,
 ⟨some 70, .load 1 false (.t 69), none⟩,
 ⟨some 71, .call false zlv_ [(.t 70)], none⟩,
 ⟨some 72, .call false zbk_ [(.t 68), (.t 71)], none⟩,
 ⟨some 73, .bslice true 1 [(.t 15), (.t 20), (.t 25), (.t 30), (.t 35), (.t 40), (.t 45), (.t 50), (.t 55), (.t 60), (.t 65), (.t 72)], none⟩,
 ⟨some 5, .cp (.t 73), none⟩] (some [(4, none), (9, none), (14, none), (19, none), (24, none), (29, none), (34, none), (39, none), (44, none), (49, none), (54, some 56), (54, some 59), (57, some 59)]))
 (.seq (.seq (.region [
 ⟨some 6, .cp (.c (.s (.int .i64 0))), none⟩] (none))
 (.block 0
 (.loop zih_)))
 (.seq (.region [
 ⟨some 127, .cp (.t 5), none⟩,
 ⟨some 128, .faddr (.t 2) 12, none⟩,
 ⟨some 129, .load 1 false (.t 128), none⟩,
 ⟨some 130, .len false (.t 129), none⟩,
 ⟨some 131, .faddr (.t 3) 12, none⟩,
 ⟨some 132, .load 1 false (.t 131), none⟩,
 ⟨some 133, .len false (.t 132), none⟩,
 ⟨some 134, .call false zbk_ [(.t 130), (.t 133)], none⟩,
 ⟨some 135, .bslice false 1 [(.t 134)], none⟩,
 ⟨some 136, .append 1 17592186044416 (.t 127) (.t 135), none⟩,
 ⟨some 5, .cp (.t 136), none⟩] (none))
 (.seq (.seq (.region [
 ⟨some 9, .cp (.c (.s (.int .i64 0))), none⟩] (none))
 (.block 2
 (.loop zii_)))
 (.seq (.region [
 ⟨some 165, .cp (.t 5), none⟩,
 ⟨some 166, .faddr (.t 2) 13, none⟩,
 ⟨some 167, .load 1 false (.t 166), none⟩,
 ⟨some 168, .len false (.t 167), none⟩,
 ⟨some 169, .faddr (.t 3) 13, none⟩,
 ⟨some 170, .load 1 false (.t 169), none⟩,
 ⟨some 171, .len false (.t 170), none⟩,
 ⟨some 172, .call false zbk_ [(.t 168), (.t 171)], none⟩,
 ⟨some 173, .bslice false 1 [(.t 172)], none⟩,
 ⟨some 174, .append 1 17592186044416 (.t 165) (.t 173), none⟩,
 ⟨some 5, .cp (.t 174), none⟩] (none))
 (.seq (.seq (.region [
 ⟨some 10, .cp (.c (.s (.int .i64 0))), none⟩] (none))
 (.block 4
 (.loop zij_)))
 (.seq (.region [
 ⟨some 4, .cp (.c (.s (.int .i64 0))), none⟩] (none))
 .ret)))))))) }
def zev_ : XF := { np := 2, results := [(.inl 4, .v)], body :=
 (.seq (.region [
 ⟨some 3, .box false (.t 1), none⟩,
 ⟨some 4, .cp (.c (.s (.slice none 0 0))), none⟩] (none))
 (.seq (.region [
 ⟨some 5, .cp (.t 0), none⟩,
 ⟨some 6, .call true zqq_ [(.t 5)], none⟩,
 ⟨some 7, .mkfn false zia_ [] [(.t 3)], none⟩,
 ⟨some 8, .call false zmi_ [(.t 6), (.t 7)], none⟩,
 ⟨some 9, .call false zdu_ [(.t 8)], none⟩,
 ⟨some 4, .cp (.t 9), none⟩] (none))
 .ret)) }
def zqs_ : XC :=
 (.seq (.region [
 ⟨some 10, .bin .lss (.t 9) (.t 8), none⟩] (none))
 (.seq (.cond (.t 10)
 .skip
 (.exit 0))
 (.seq (.block 1
 (.seq (.region [
 ⟨some 11, .iaddr 14 (.t 7) (.t 9), none⟩,
 ⟨some 12, .load 14 true (.t 11), none⟩,
 ⟨some 5, .alloc [.s (.int .i64 0), .s (.int .i64 0), .s (.int .i64 0), .s (.int .i64 0), .s (.int .i64 0), .s (.int .i64 0), .s (.string ⟨#[]⟩), .s (.string ⟨#[]⟩), .s (.string ⟨#[]⟩), .s (.int .i64 0), .s (.int .i64 0), .s (.bool false), .s (.slice none 0 0), .s (.slice none 0 0)], none⟩,
 ⟨none, .store 14 (.t 5) (.t 12), none⟩] (none))
 (.region [
 ⟨some 13, .cp (.t 3), none⟩,
 ⟨some 14, .faddr (.t 5) 0, none⟩,
 ⟨some 15, .load 1 false (.t 14), none⟩,
 ⟨none, .mput .i (.t 13) (.t 15) (.c (.s (.bool true))), none⟩] (none))))
 (.region [
 ⟨some 16, .bin .add (.t 9) (.c (.s (.int .i64 1))), none⟩,
 ⟨some 9, .cp (.t 16), none⟩] (none)))))
def zil_ : XF := { np := 1, results := [(.inl 2, .v)], body :=
 (.seq (.region [
 ⟨some 2, .cp (.c (.s (.slice none 0 0))), none⟩] (none))
 (.seq (.region [
 ⟨some 6, .mkmap, none⟩,
 ⟨some 3, .cp (.t 6), none⟩] (none))
 (.seq (.seq (.region [
 ⟨some 7, .cp (.t 0), none⟩,
 ⟨some 8, .len false (.t 7), none⟩,
 ⟨some 9, .cp (.c (.s (.int .i64 0))), none⟩] (none))
 (.block 0
 (.loop zqs_)))
 (.seq (.region [
 ⟨some 17, .cp (.t 3), none⟩,
 ⟨some 18, .callK zqp_ [(.t 17)], none⟩,
 ⟨some 19, .call false zqo_ [(.t 18)], none⟩,
 ⟨some 2, .cp (.t 19), none⟩] (none))
 .ret)))) }
def zim_ : XF := { np := 1, results := [(.inl 2, .v)], body :=
 (.seq (.region [
 ⟨some 2, .cp (.c (.s (.slice none 0 0))), none⟩] (none))
 (.seq (.region [
 ⟨some 4, .cp (.t 0), none⟩,
 ⟨some 5, .call false zly_ [(.t 4)], none⟩,
 ⟨some 3, .alloc [.s (.slice none 0 0)], none⟩,
 ⟨none, .store 1 (.t 3) (.t 5), none⟩] (none))
 (.seq (.region [
 ⟨some 6, .load 1 false (.t 3), none⟩,
 ⟨some 7, .mkfn false zma_ [] [(.t 3)], none⟩,
 ⟨some 8, .call false zlx_ [(.t 6), (.t 7)], none⟩,
 ⟨some 2, .cp (.t 8), none⟩] (none))
 .ret))) }
def zin_ : XF := { np := 3, results := [(.inr (6, 3, true), .v), (.inl 7, .v)], body :=
 (.seq (.region [
 ⟨some 3, .box false (.t 0), none⟩,
 ⟨some 6, .alloc [.s (.int .i64 0), .s (.string ⟨#[]⟩), .s (.int .i64 0)], none⟩,
 ⟨some 7, .cp (.c (.s (.bool false))), none⟩] (none))
 (.seq (.seq (.region [
 ⟨some 11, .cp (.t 1), none⟩,
 ⟨some 12, .bin .eql (.t 11) (.c (.s (.string ⟨#[97, 116, 116, 114]⟩))), none⟩] (none))
 (.cond (.t 12)
 (.seq (.region [
 ⟨some 13, .faddr (.t 3) 0, none⟩,
 ⟨some 14, .faddr (.t 13) 12, none⟩,
 ⟨some 15, .load 1 false (.t 14), none⟩,
 ⟨some 16, .cp (.t 2), none⟩,
 ⟨some 17, .call false zbuh_ [(.t 15), (.t 16)], none⟩,
 ⟨some 18, .extract (.t 17) 0, none⟩,
 ⟨some 19, .extract (.t 17) 1, none⟩,
 ⟨none, .store 3 (.t 6) (.t 18), none⟩,
 ⟨some 7, .cp (.t 19), none⟩] (none))
 .ret)
 .skip))
 (.seq (.region [
 ⟨some 21, .cp (.t 1), none⟩,
 ⟨some 22, .call false zps_ [(.t 21)], none⟩,
 ⟨some 20, .cp (.t 22), none⟩,
 ⟨some 23, .extract (.t 20) 0, none⟩,
 ⟨some 24, .extract (.t 20) 1, none⟩,
 ⟨some 8, .cp (.t 23), none⟩,
 ⟨some 9, .cp (.t 24), none⟩] (none))
 (.seq (.seq (.region [
 ⟨some 25, .cp (.t 9), none⟩,
 ⟨some 26, .un .not (.t 25), none⟩,
 ⟨some 27, .cp (.t 26), none⟩,
 ⟨some 28, .cp (.t 2), some (27, false)⟩,
 ⟨some 29, .bin .neq (.t 28) (.c (.s (.string ⟨#[]⟩))), some (27, false)⟩,
 ⟨some 30, .pick (.t 27) (.c (.s (.bool true))) (.t 29), none⟩] (none))
 (.cond (.t 30)
 (.seq (.region [
 ⟨some 31, .build false [.s (.int .i64 0), .s (.string ⟨#[]⟩), .s (.int .i64 0)] [], none⟩,
 ⟨none, .store 3 (.t 6) (.t 31), none⟩,
 ⟨some 7, .cp (.c (.s (.bool false))), none⟩] (none))
 .ret)
 .skip))
 (.seq (.region [
 ⟨some 32, .cp (.t 8), none⟩,
 ⟨some 33, .build false [.s (.int .i64 0), .s (.string ⟨#[]⟩), .s (.int .i64 0)] [(0, 1, (.t 32))], none⟩,
 ⟨some 10, .alloc [.s (.int .i64 0), .s (.string ⟨#[]⟩), .s (.int .i64 0)], none⟩,
 ⟨none, .store 3 (.t 10) (.t 33), none⟩] (none))
 (.seq (.seq (.region [
 ⟨some 34, .cp (.t 8), none⟩] (none))
 (.block 0
 (.seq (.region [
 ⟨some 36, .bin .eql (.t 34) (.c (.s (.int .i64 1))), none⟩,
 ⟨some 35, .cp (.t 36), none⟩] (none))
 (.cond (.t 35)
 (.region [
 ⟨some 37, .load 14 true (.t 3), none⟩,
 ⟨some 38, .cp (.t 1), none⟩,
 ⟨some 39, .call false zbuj_ [(.t 37), (.t 38)], none⟩,
 ⟨some 40, .faddr (.t 10) 1, none⟩,
 ⟨none, .store 1 (.t 40) (.t 39), none⟩] (none))
 (.seq (.region [
 ⟨some 42, .bin .eql (.t 34) (.c (.s (.int .i64 2))), none⟩,
 ⟨some 41, .cp (.t 42), none⟩] (none))
 (.cond (.t 41)
 (.region [
 ⟨some 43, .load 14 true (.t 3), none⟩,
 ⟨some 44, .cp (.t 1), none⟩,
 ⟨some 45, .call false zqf_ [(.t 43), (.t 44)], none⟩,
 ⟨some 46, .faddr (.t 10) 2, none⟩,
 ⟨none, .store 1 (.t 46) (.t 45), none⟩] (none))
 (.seq (.region [
 ⟨some 48, .bin .eql (.t 34) (.c (.s (.int .i64 3))), none⟩,
 ⟨some 47, .cp (.t 48), none⟩] (none))
 (.cond (.t 47)
 (.region [
 ⟨some 49, .cp (.t 1), none⟩,
 ⟨some 50, .bin .eql (.t 49) (.c (.s (.string ⟨#[101, 114, 114, 111, 114]⟩))), none⟩,
 ⟨some 51, .cp (.t 50), none⟩,
 ⟨some 52, .faddr (.t 3) 0, some (51, true)⟩,
 ⟨some 53, .faddr (.t 52) 11, some (51, true)⟩,
 ⟨some 54, .load 1 false (.t 53), some (51, true)⟩,
 ⟨some 55, .pick (.t 51) (.t 54) (.c (.s (.bool false))), none⟩,
 ⟨some 56, .cp (.t 55), none⟩,
 ⟨some 57, .cp (.t 1), some (56, false)⟩,
 ⟨some 58, .bin .eql (.t 57) (.c (.s (.string ⟨#[114, 111, 111, 116]⟩))), some (56, false)⟩,
 ⟨some 59, .cp (.t 58), some (56, false)⟩,
 ⟨some 60, .faddr (.t 3) 0, some (59, true)⟩,
 ⟨some 61, .faddr (.t 60) 2, some (59, true)⟩,
 ⟨some 62, .load 1 false (.t 61), some (59, true)⟩,
 ⟨some 63, .bin .eql (.t 62) (.c (.s (.int .i64 0))), some (59, true)⟩,
 ⟨some 64, .pick (.t 59) (.t 63) (.c (.s (.bool false))), some (56, false)⟩,
 ⟨some 65, .pick (.t 56) (.c (.s (.bool true))) (.t 64), none⟩,
 ⟨some 66, .call false zhx_ [(.t 65)], none⟩,
 ⟨some 67, .faddr (.t 10) 2, none⟩,
 ⟨none, .store 1 (.t 67) (.t 66), none⟩] (none))
 .skip))))))))
 (.seq (.region [
 ⟨some 68, .load 3 true (.t 10), none⟩,
 ⟨none, .store 3 (.t 6) (.t 68), none⟩,
 ⟨some 7, .cp (.c (.s (.bool true))), none⟩] (none))
 .ret))))))) }
def zau_ : XF := { np := 1, results := [(.inl 2, .v)], body :=
 (.seq (.region [
 ⟨some 1, .box false (.t 0), none⟩,
 ⟨some 2, .cp (.c (.s (.int .i64 0))), none⟩] (none))
 (.seq (.block 0
 (.seq (.region [
 ⟨some 4, .faddr (.t 1) 0, none⟩,
 ⟨some 5, .load 1 false (.t 4), none⟩,
 ⟨some 6, .call false zgg_ [(.t 5)], none⟩,
 ⟨some 7, .cp (.t 6), none⟩,
 ⟨some 8, .faddr (.t 1) 1, some (7, false)⟩,
 ⟨some 9, .load 1 false (.t 8), some (7, false)⟩,
 ⟨some 10, .call false zgg_ [(.t 9)], some (7, false)⟩,
 ⟨some 11, .pick (.t 7) (.c (.s (.bool true))) (.t 10), none⟩,
 ⟨some 12, .cp (.t 11), none⟩,
 ⟨some 13, .faddr (.t 1) 2, some (12, false)⟩,
 ⟨some 14, .load 1 false (.t 13), some (12, false)⟩,
 ⟨some 15, .bin .lss (.t 14) (.c (.s (.int .i64 0))), some (12, false)⟩,
 ⟨some 16, .pick (.t 12) (.c (.s (.bool true))) (.t 15), none⟩,
 ⟨some 17, .cp (.t 16), none⟩,
 ⟨some 18, .faddr (.t 1) 2, some (17, false)⟩,
 ⟨some 19, .load 1 false (.t 18), some (17, false)⟩,
 ⟨some 20, .bin .gtr (.t 19) (.c (.s (.int .i64 1099511627776))), some (17, false)⟩,
 ⟨some 21, .pick (.t 17) (.c (.s (.bool true))) (.t 20), none⟩,
 ⟨some 22, .cp (.t 21), none⟩,
 ⟨some 23, .faddr (.t 1) 3, some (22, false)⟩,
 ⟨some 24, .load 1 false (.t 23), some (22, false)⟩,
 ⟨some 25, .bin .lss (.t 24) (.c (.s (.int .i64 0))), some (22, false)⟩,
 ⟨some 26, .pick (.t 22) (.c (.s (.bool true))) (.t 25), none⟩,
 ⟨some 27, .cp (.t 26), none⟩,
 ⟨some 28, .faddr (.t 1) 3, some (27, false)⟩,
 ⟨some 29, .load 1 false (.t 28), some (27, false)⟩,
 ⟨some 30, .bin .gtr (.t 29) (.c (.s (.int .i64 1048576))), some (27, false)⟩,
 ⟨some 31, .pick (.t 27) (.c (.s (.bool true))) (.t 30), none⟩,
 ⟨some 32, .cp (.t 31), none⟩,
 ⟨some 33, .faddr (.t 1) 4, some (32, false)⟩,
 ⟨some 34, .load 1 false (.t 33), some (32, false)⟩,
 ⟨some 35, .bin .lss (.t 34) (.c (.s (.int .i64 1))), some (32, false)⟩,
 ⟨some 36, .pick (.t 32) (.c (.s (.bool true))) (.t 35), none⟩,
 ⟨some 37, .cp (.t 36), none⟩,
 ⟨some 38, .faddr (.t 1) 4, some (37, false)⟩,
 ⟨some 39, .load 1 false (.t 38), some (37, false)⟩,
 ⟨some 40, .bin .gtr (.t 39) (.c (.s (.int .i64 1048576))), some (37, false)⟩,
 ⟨some 41, .pick (.t 37) (.c (.s (.bool true))) (.t 40), none⟩,
 ⟨some 3, .cp (.t 41), none⟩] (none))
 (.cond (.t 3)
 (.seq (.region [
 ⟨some 2, .cp (.c (.s (.int .i64 2))), none⟩] (none))
 .ret)
 (.seq (.region [
 ⟨some 43, .faddr (.t 1) 5, none⟩,
 ⟨some 44, .load 1 false (.t 43), none⟩,
 ⟨some 45, .bin .lss (.t 44) (.c (.s (.int .i64 1))), none⟩,
 ⟨some 46, .cp (.t 45), none⟩,
 ⟨some 47, .faddr (.t 1) 5, some (46, false)⟩,
 ⟨some 48, .load 1 false (.t 47), some (46, false)⟩,
 ⟨some 49, .bin .gtr (.t 48) (.c (.s (.int .i64 5))), some (46, false)⟩,
 ⟨some 50, .pick (.t 46) (.c (.s (.bool true))) (.t 49), none⟩,
 ⟨some 42, .cp (.t 50), none⟩] (none))
 (.cond (.t 42)
 (.seq (.region [
 ⟨some 2, .cp (.c (.s (.int .i64 12))), none⟩] (none))
 .ret)
 (.seq (.region [
 ⟨some 52, .faddr (.t 1) 6, none⟩,
 ⟨some 53, .load 1 false (.t 52), none⟩,
 ⟨some 54, .call false zgh_ [(.t 53)], none⟩,
 ⟨some 55, .un .not (.t 54), none⟩,
 ⟨some 56, .cp (.t 55), none⟩,
 ⟨some 57, .faddr (.t 1) 8, some (56, false)⟩,
 ⟨some 58, .load 1 false (.t 57), some (56, false)⟩,
 ⟨some 59, .call false zgh_ [(.t 58)], some (56, false)⟩,
 ⟨some 60, .un .not (.t 59), some (56, false)⟩,
 ⟨some 61, .pick (.t 56) (.c (.s (.bool true))) (.t 60), none⟩,
 ⟨some 62, .cp (.t 61), none⟩,
 ⟨some 63, .faddr (.t 1) 7, some (62, false)⟩,
 ⟨some 64, .load 1 false (.t 63), some (62, false)⟩,
 ⟨some 65, .bin .neq (.t 64) (.c (.s (.string ⟨#[]⟩))), some (62, false)⟩,
 ⟨some 66, .cp (.t 65), some (62, false)⟩,
 ⟨some 67, .faddr (.t 1) 7, some (66, true)⟩,
 ⟨some 68, .load 1 false (.t 67), some (66, true)⟩,
 ⟨some 69, .call false zgh_ [(.t 68)], some (66, true)⟩,
 ⟨some 70, .un .not (.t 69), some (66, true)⟩,
 ⟨some 71, .pick (.t 66) (.t 70) (.c (.s (.bool false))), some (62, false)⟩,
 ⟨some 72, .pick (.t 62) (.c (.s (.bool true))) (.t 71), none⟩,
 ⟨some 51, .cp (.t 72), none⟩] (none))
 (.cond (.t 51)
 (.seq (.region [
 ⟨some 2, .cp (.c (.s (.int .i64 11))), none⟩] (none))
 .ret)
 (.seq (.region [
 ⟨some 74, .faddr (.t 1) 9, none⟩,
 ⟨some 75, .load 1 false (.t 74), none⟩,
 ⟨some 76, .faddr (.t 1) 10, none⟩,
 ⟨some 77, .load 1 false (.t 76), none⟩,
 ⟨some 78, .minmax false [(.t 75), (.t 77)], none⟩,
 ⟨some 79, .bin .lss (.t 78) (.c (.s (.int .i64 (-1099511627776)))), none⟩,
 ⟨some 80, .cp (.t 79), none⟩,
 ⟨some 81, .faddr (.t 1) 9, some (80, false)⟩,
 ⟨some 82, .load 1 false (.t 81), some (80, false)⟩,
 ⟨some 83, .faddr (.t 1) 10, some (80, false)⟩,
 ⟨some 84, .load 1 false (.t 83), some (80, false)⟩,
 ⟨some 85, .minmax true [(.t 82), (.t 84)], some (80, false)⟩,
 ⟨some 86, .bin .gtr (.t 85) (.c (.s (.int .i64 1099511627776))), some (80, false)⟩,
 ⟨some 87, .pick (.t 80) (.c (.s (.bool true))) (.t 86), none⟩,
 ⟨some 73, .cp (.t 87), none⟩] (none))
 (.cond (.t 73)
 (.seq (.region [
 ⟨some 2, .cp (.c (.s (.int .i64 32))), none⟩] (none))
 .ret)
 (.seq (.region [
 ⟨some 89, .faddr (.t 1) 10, none⟩,
 ⟨some 90, .load 1 false (.t 89), none⟩,
 ⟨some 91, .faddr (.t 1) 9, none⟩,
 ⟨some 92, .load 1 false (.t 91), none⟩,
 ⟨some 93, .bin .lss (.t 90) (.t 92), none⟩,
 ⟨some 88, .cp (.t 93), none⟩] (none))
 (.cond (.t 88)
 (.seq (.region [
 ⟨some 2, .cp (.c (.s (.int .i64 8))), none⟩] (none))
 .ret)
 (.seq (.region [
 ⟨some 95, .faddr (.t 1) 10, none⟩,
 ⟨some 96, .load 1 false (.t 95), none⟩,
 ⟨some 97, .faddr (.t 1) 9, none⟩,
 ⟨some 98, .load 1 false (.t 97), none⟩,
 ⟨some 99, .bin .sub (.t 96) (.t 98), none⟩,
 ⟨some 100, .bin .gtr (.t 99) (.c (.s (.int .i64 1099511627776))), none⟩,
 ⟨some 94, .cp (.t 100), none⟩] (none))
 (.cond (.t 94)
 (.seq (.region [
 ⟨some 2, .cp (.c (.s (.int .i64 32))), none⟩] (none))
 .ret)
 .skip)))))))))))))
 (.seq (.region [
 ⟨some 101, .faddr (.t 1) 12, none⟩,
 ⟨some 102, .load 1 false (.t 101), none⟩,
 ⟨some 103, .call false zqb_ [(.t 102)], none⟩,
 ⟨some 104, .faddr (.t 1) 13, none⟩,
 ⟨some 105, .load 1 false (.t 104), none⟩,
 ⟨some 106, .call false zqc_ [(.t 105)], none⟩,
 ⟨some 107, .bslice false 1 [(.t 103), (.t 106)], none⟩,
 ⟨some 108, .call false zqa_ [(.t 107)], none⟩,
 ⟨some 2, .cp (.t 108), none⟩] (some [(2, some 4)]))
 .ret))) }
def zio_ : XF := { np := 1, results := [(.inl 2, .v)], body :=
 (.seq (.region [
 ⟨some 2, .cp (.c (.s (.int .i64 0))), none⟩] (none))
 (.seq (.region [
 ⟨some 3, .cp (.t 0), none⟩,
 ⟨some 4, .call false zls_ [(.t 3)], none⟩,
 ⟨some 5, .bin .shr (.t 4) (.c (.s (.int .u64 4))), none⟩,
 ⟨some 2, .cp (.t 5), none⟩] (none))
 .ret)) }
def zip_ : XF := { np := 0, results := [(.inl 0, .v)], body :=
 (.seq (.region [
 ⟨some 0, .cp (.c (.s (.slice none 0 0))), none⟩] (none))
 (.seq (.region [
 ⟨some 1, .bslice false 1 [(.c (.s (.string ⟨#[99, 108, 111, 99, 107]⟩))), (.c (.s (.string ⟨#[100, 117, 114, 97, 116, 105, 111, 110]⟩))), (.c (.s (.string ⟨#[101, 110, 100]⟩))), (.c (.s (.string ⟨#[101, 114, 114, 111, 114]⟩))), (.c (.s (.string ⟨#[105, 100]⟩))), (.c (.s (.string ⟨#[107, 105, 110, 100]⟩))), (.c (.s (.string ⟨#[111, 112, 101, 114, 97, 116, 105, 111, 110]⟩))), (.c (.s (.string ⟨#[112, 97, 114, 101, 110, 116]⟩))), (.c (.s (.string ⟨#[114, 101, 118, 105, 115, 105, 111, 110]⟩))), (.c (.s (.string ⟨#[114, 111, 111, 116]⟩))), (.c (.s (.string ⟨#[115, 101, 114, 118, 105, 99, 101]⟩))), (.c (.s (.string ⟨#[115, 108, 111, 116]⟩))), (.c (.s (.string ⟨#[115, 116, 97, 114, 116]⟩))), (.c (.s (.string ⟨#[116, 114, 97, 99, 101]⟩))), (.c (.s (.string ⟨#[118, 101, 114, 115, 105, 111, 110]⟩)))], none⟩,
 ⟨some 0, .cp (.t 1), none⟩] (none))
 .ret)) }
def zcs_ : XC :=
 (.seq (.seq (.region [
 ⟨some 108, .cp (.t 5), none⟩,
 ⟨some 109, .faddr (.t 1) 12, none⟩,
 ⟨some 110, .load 1 false (.t 109), none⟩,
 ⟨some 111, .bin .rem (.t 110) (.c (.s (.int .u8 3))), none⟩,
 ⟨some 112, .conv .i64 (.t 111), none⟩,
 ⟨some 113, .bin .lss (.t 108) (.t 112), none⟩] (none))
 (.cond (.t 113)
 .skip
 (.exit 0)))
 (.seq (.block 1
 (.region [
 ⟨some 116, .faddr (.t 3) 13, none⟩,
 ⟨some 117, .load 1 false (.t 116), none⟩,
 ⟨some 118, .faddr (.t 1) 12, none⟩,
 ⟨some 119, .load 1 false (.t 118), none⟩,
 ⟨some 120, .bin .quo (.t 119) (.c (.s (.int .u8 3))), none⟩,
 ⟨some 121, .bin .rem (.t 120) (.c (.s (.int .u8 5))), none⟩,
 ⟨some 122, .conv .i64 (.t 121), none⟩,
 ⟨some 123, .bin .add (.c (.s (.int .i64 1))) (.t 122), none⟩,
 ⟨some 124, .faddr (.t 1) 12, none⟩,
 ⟨some 125, .load 1 false (.t 124), none⟩,
 ⟨some 126, .bin .quo (.t 125) (.c (.s (.int .u8 15))), none⟩,
 ⟨some 127, .bin .rem (.t 126) (.c (.s (.int .u8 5))), none⟩,
 ⟨some 128, .conv .i64 (.t 127), none⟩,
 ⟨some 129, .bin .add (.c (.s (.int .i64 1))) (.t 128), none⟩,
 ⟨some 130, .cp (.t 5), none⟩,
 ⟨some 131, .bin .add (.t 129) (.t 130), none⟩,
 ⟨some 132, .build false [.s (.int .i64 0), .s (.int .i64 0)] [(0, 1, (.t 123)), (1, 1, (.t 131))], none⟩,
 ⟨some 133, .bslice false 2 [(.t 132)], none⟩,
 ⟨some 134, .append 2 8796093022208 (.t 117) (.t 133), none⟩,
 ⟨some 135, .faddr (.t 3) 13, none⟩,
 ⟨none, .store 1 (.t 135) (.t 134), none⟩] (none)))
 (.region [
 ⟨some 114, .cp (.t 5), none⟩,
 ⟨some 115, .bin .add (.t 114) (.c (.s (.int .i64 1))), none⟩,
 ⟨some 5, .cp (.t 115), none⟩] (none))))
def ziq_ : XF := { np := 1, results := [(.inr (2, 14, true), .v)], body :=
 (.seq (.region [
 ⟨some 1, .box false (.t 0), none⟩,
 ⟨some 2, .alloc [.s (.int .i64 0), .s (.int .i64 0), .s (.int .i64 0), .s (.int .i64 0), .s (.int .i64 0), .s (.int .i64 0), .s (.string ⟨#[]⟩), .s (.string ⟨#[]⟩), .s (.string ⟨#[]⟩), .s (.int .i64 0), .s (.int .i64 0), .s (.bool false), .s (.slice none 0 0), .s (.slice none 0 0)], none⟩] (none))
 (.seq (.region [
 ⟨some 6, .faddr (.t 1) 0, none⟩,
 ⟨some 7, .load 1 false (.t 6), none⟩,
 ⟨some 8, .bin .rem (.t 7) (.c (.s (.int .u8 3))), none⟩,
 ⟨some 9, .conv .i64 (.t 8), none⟩,
 ⟨some 10, .bin .shl (.t 9) (.c (.s (.int .u64 20))), none⟩,
 ⟨some 11, .bin .add (.t 10) (.c (.s (.int .i64 1))), none⟩,
 ⟨some 12, .faddr (.t 1) 0, none⟩,
 ⟨some 13, .load 1 false (.t 12), none⟩,
 ⟨some 14, .bin .quo (.t 13) (.c (.s (.int .u8 3))), none⟩,
 ⟨some 15, .bin .rem (.t 14) (.c (.s (.int .u8 4))), none⟩,
 ⟨some 16, .conv .i64 (.t 15), none⟩,
 ⟨some 17, .bin .add (.t 11) (.t 16), none⟩,
 ⟨some 18, .faddr (.t 1) 1, none⟩,
 ⟨some 19, .load 1 false (.t 18), none⟩,
 ⟨some 20, .bin .rem (.t 19) (.c (.s (.int .u8 4))), none⟩,
 ⟨some 21, .conv .i64 (.t 20), none⟩,
 ⟨some 22, .bin .add (.c (.s (.int .i64 1))) (.t 21), none⟩,
 ⟨some 23, .faddr (.t 1) 2, none⟩,
 ⟨some 24, .load 1 false (.t 23), none⟩,
 ⟨some 25, .bin .rem (.t 24) (.c (.s (.int .u8 5))), none⟩,
 ⟨some 26, .conv .i64 (.t 25), none⟩,
 ⟨some 27, .faddr (.t 1) 3, none⟩,
 ⟨some 28, .load 1 false (.t 27), none⟩,
 ⟨some 29, .bin .rem (.t 28) (.c (.s (.int .u8 3))), none⟩,
 ⟨some 30, .conv .i64 (.t 29), none⟩,
 ⟨some 31, .faddr (.t 1) 4, none⟩,
 ⟨some 32, .load 1 false (.t 31), none⟩,
 ⟨some 33, .bin .rem (.t 32) (.c (.s (.int .u8 3))), none⟩,
 ⟨some 34, .conv .i64 (.t 33), none⟩,
 ⟨some 35, .bin .add (.c (.s (.int .i64 1))) (.t 34), none⟩,
 ⟨some 36, .faddr (.t 1) 5, none⟩,
 ⟨some 37, .load 1 false (.t 36), none⟩,
 ⟨some 38, .bin .rem (.t 37) (.c (.s (.int .u8 5))), none⟩,
 ⟨some 39, .conv .i64 (.t 38), none⟩,
 ⟨some 40, .bin .add (.c (.s (.int .i64 1))) (.t 39), none⟩,
 ⟨some 41, .build false [.s (.int .i64 0), .s (.int .i64 0), .s (.int .i64 0), .s (.int .i64 0), .s (.int .i64 0), .s (.int .i64 0), .s (.string ⟨#[]⟩), .s (.string ⟨#[]⟩), .s (.string ⟨#[]⟩), .s (.int .i64 0), .s (.int .i64 0), .s (.bool false), .s (.slice none 0 0), .s (.slice none 0 0)] [(0, 1, (.t 17)), (1, 1, (.t 22)), (2, 1, (.t 26)), (3, 1, (.t 30)), (4, 1, (.t 35)), (5, 1, (.t 40))], none⟩,
 ⟨some 3, .alloc [.s (.int .i64 0), .s (.int .i64 0), .s (.int .i64 0), .s (.int .i64 0), .s (.int .i64 0), .s (.int .i64 0), .s (.string ⟨#[]⟩), .s (.string ⟨#[]⟩), .s (.string ⟨#[]⟩), .s (.int .i64 0), .s (.int .i64 0), .s (.bool false), .s (.slice none 0 0), .s (.slice none 0 0)], none⟩,
 ⟨none, .store 14 (.t 3) (.t 41), none⟩] (none))
 (.seq (.region [
 ⟨some 42, .bslice false 1 [(.c (.s (.string ⟨#[97, 112, 105]⟩))), (.c (.s (.string ⟨#[100, 98]⟩))), (.c (.s (.string ⟨#[119, 101, 98]⟩)))], none⟩,
 ⟨some 43, .faddr (.t 1) 6, none⟩,
 ⟨some 44, .load 1 false (.t 43), none⟩,
 ⟨some 45, .bin .rem (.t 44) (.c (.s (.int .u8 3))), none⟩,
 ⟨some 46, .iaddr 1 (.t 42) (.t 45), none⟩,
 ⟨some 47, .load 1 false (.t 46), none⟩,
 ⟨some 48, .bslice false 1 [(.c (.s (.string ⟨#[]⟩))), (.c (.s (.string ⟨#[118, 49]⟩))), (.c (.s (.string ⟨#[118, 50]⟩)))], none⟩,
 ⟨some 49, .faddr (.t 1) 7, none⟩,
 ⟨some 50, .load 1 false (.t 49), none⟩,
 ⟨some 51, .bin .rem (.t 50) (.c (.s (.int .u8 3))), none⟩,
 ⟨some 52, .iaddr 1 (.t 48) (.t 51), none⟩,
 ⟨some 53, .load 1 false (.t 52), none⟩,
 ⟨some 54, .bslice false 1 [(.c (.s (.string ⟨#[103, 101, 116]⟩))), (.c (.s (.string ⟨#[112, 117, 116]⟩)))], none⟩,
 ⟨some 55, .faddr (.t 1) 8, none⟩,
 ⟨some 56, .load 1 false (.t 55), none⟩,
 ⟨some 57, .bin .rem (.t 56) (.c (.s (.int .u8 2))), none⟩,
 ⟨some 58, .iaddr 1 (.t 54) (.t 57), none⟩,
 ⟨some 59, .load 1 false (.t 58), none⟩,
 ⟨some 60, .faddr (.t 3) 6, none⟩,
 ⟨none, .store 1 (.t 60) (.t 47), none⟩,
 ⟨some 61, .faddr (.t 3) 7, none⟩,
 ⟨none, .store 1 (.t 61) (.t 53), none⟩,
 ⟨some 62, .faddr (.t 3) 8, none⟩,
 ⟨none, .store 1 (.t 62) (.t 59), none⟩] (some [(19, some 8), (19, some 10), (19, some 11), (19, some 14), (19, some 16), (19, some 17), (21, some 14), (21, some 16), (21, some 17)]))
 (.seq (.region [
 ⟨some 63, .faddr (.t 1) 9, none⟩,
 ⟨some 64, .load 1 false (.t 63), none⟩,
 ⟨some 65, .conv .i64 (.t 64), none⟩,
 ⟨some 66, .bin .sub (.t 65) (.c (.s (.int .i64 50))), none⟩,
 ⟨some 67, .faddr (.t 1) 13, none⟩,
 ⟨some 68, .load 1 false (.t 67), none⟩,
 ⟨some 69, .faddr (.t 3) 9, none⟩,
 ⟨none, .store 1 (.t 69) (.t 66), none⟩,
 ⟨some 70, .faddr (.t 3) 11, none⟩,
 ⟨none, .store 1 (.t 70) (.t 68), none⟩] (some [(7, some 5)]))
 (.seq (.region [
 ⟨some 71, .faddr (.t 3) 9, none⟩,
 ⟨some 72, .load 1 false (.t 71), none⟩,
 ⟨some 73, .faddr (.t 1) 10, none⟩,
 ⟨some 74, .load 1 false (.t 73), none⟩,
 ⟨some 75, .bin .rem (.t 74) (.c (.s (.int .u8 40))), none⟩,
 ⟨some 76, .conv .i64 (.t 75), none⟩,
 ⟨some 77, .bin .add (.t 72) (.t 76), none⟩,
 ⟨some 78, .faddr (.t 3) 10, none⟩,
 ⟨none, .store 1 (.t 78) (.t 77), none⟩] (none))
 (.seq (.region [
 ⟨some 79, .faddr (.t 1) 11, none⟩,
 ⟨some 80, .load 1 false (.t 79), none⟩,
 ⟨some 81, .bin .quo (.t 80) (.c (.s (.int .u8 4))), none⟩,
 ⟨some 82, .bin .rem (.t 81) (.c (.s (.int .u8 2))), none⟩,
 ⟨some 83, .conv .i64 (.t 82), none⟩,
 ⟨some 84, .build false [.s (.int .i64 0), .s (.string ⟨#[]⟩), .s (.int .i64 0)] [(0, 1, (.c (.s (.int .i64 3)))), (2, 1, (.t 83))], none⟩,
 ⟨some 85, .build false [.s (.string ⟨#[]⟩), .s (.int .i64 0), .s (.string ⟨#[]⟩), .s (.int .i64 0)] [(0, 1, (.c (.s (.string ⟨#[111, 107]⟩)))), (1, 3, (.t 84))], none⟩,
 ⟨some 86, .faddr (.t 1) 11, none⟩,
 ⟨some 87, .load 1 false (.t 86), none⟩,
 ⟨some 88, .conv .i64 (.t 87), none⟩,
 ⟨some 89, .bin .sub (.t 88) (.c (.s (.int .i64 60))), none⟩,
 ⟨some 90, .build false [.s (.int .i64 0), .s (.string ⟨#[]⟩), .s (.int .i64 0)] [(0, 1, (.c (.s (.int .i64 2)))), (2, 1, (.t 89))], none⟩,
 ⟨some 91, .build false [.s (.string ⟨#[]⟩), .s (.int .i64 0), .s (.string ⟨#[]⟩), .s (.int .i64 0)] [(0, 1, (.c (.s (.string ⟨#[115, 105, 122, 101]⟩)))), (1, 3, (.t 90))], none⟩,
 ⟨some 92, .bslice false 1 [(.c (.s (.string ⟨#[97]⟩))), (.c (.s (.string ⟨#[98]⟩))), (.c (.s (.string ⟨#[119, 101, 115, 116, 32, 49]⟩)))], none⟩,
 ⟨some 93, .faddr (.t 1) 11, none⟩,
 ⟨some 94, .load 1 false (.t 93), none⟩,
 ⟨some 95, .bin .quo (.t 94) (.c (.s (.int .u8 8))), none⟩,
 ⟨some 96, .bin .rem (.t 95) (.c (.s (.int .u8 3))), none⟩,
 ⟨some 97, .iaddr 1 (.t 92) (.t 96), none⟩,
 ⟨some 98, .load 1 false (.t 97), none⟩,
 ⟨some 99, .build false [.s (.int .i64 0), .s (.string ⟨#[]⟩), .s (.int .i64 0)] [(0, 1, (.c (.s (.int .i64 1)))), (1, 1, (.t 98))], none⟩,
 ⟨some 100, .build false [.s (.string ⟨#[]⟩), .s (.int .i64 0), .s (.string ⟨#[]⟩), .s (.int .i64 0)] [(0, 1, (.c (.s (.string ⟨#[122, 111, 110, 101]⟩)))), (1, 3, (.t 99))], none⟩,
 ⟨some 101, .bslice false 4 [(.t 85), (.t 91), (.t 100)], none⟩,
 ⟨some 4, .cp (.t 101), none⟩] (some []))
 (.seq (.region [
 ⟨some 102, .cp (.t 4), none⟩,
 ⟨some 103, .faddr (.t 1) 11, none⟩,
 ⟨some 104, .load 1 false (.t 103), none⟩,
 ⟨some 105, .bin .rem (.t 104) (.c (.s (.int .u8 4))), none⟩,
 ⟨some 106, .slLst 4 (.t 102) none (some (.t 105)), none⟩,
 ⟨some 107, .faddr (.t 3) 12, none⟩,
 ⟨none, .store 1 (.t 107) (.t 106), none⟩] (none))
 (.seq (.seq (.region [
 ⟨some 5, .cp (.c (.s (.int .i64 0))), none⟩] (none))
 (.block 0
 (.loop zcs_)))
 (.seq (.region [
 ⟨some 136, .load 14 true (.t 3), none⟩,
 ⟨none, .store 14 (.t 2) (.t 136), none⟩] (none))
 .ret))))))))) }
def zir_ : XF := { np := 1, results := [(.inl 2, .v)], body :=
 (.seq (.region [
 ⟨some 2, .cp (.c (.s (.int .i64 0))), none⟩] (none))
 (.seq (.seq (.region [
 ⟨some 3, .cp (.t 0), none⟩] (none))
 (.cond (.t 3)
 (.seq (.region [
 ⟨some 2, .cp (.c (.s (.int .i64 1))), none⟩] (none))
 .ret)
 .skip))
 (.seq (.region [
 ⟨some 2, .cp (.c (.s (.int .i64 0))), none⟩] (none))
 .ret))) }
def zqt_ : XF := { np := 2, results := [(.inl 4, .v)], body :=
 (.seq (.region [
 ⟨some 2, .box false (.t 0), none⟩,
 ⟨some 3, .box false (.t 1), none⟩,
 ⟨some 4, .cp (.c (.s (.bool false))), none⟩] (none))
 (.seq (.seq (.region [
 ⟨some 5, .faddr (.t 3) 0, none⟩,
 ⟨some 6, .load 1 false (.t 5), none⟩,
 ⟨some 7, .faddr (.t 2) 3, none⟩,
 ⟨some 8, .faddr (.t 7) 0, none⟩,
 ⟨some 9, .load 1 false (.t 8), none⟩,
 ⟨some 10, .bin .neq (.t 6) (.t 9), none⟩] (none))
 (.cond (.t 10)
 (.seq (.region [
 ⟨some 4, .cp (.c (.s (.bool false))), none⟩] (none))
 .ret)
 .skip))
 (.seq (.seq (.region [
 ⟨some 11, .faddr (.t 2) 0, none⟩,
 ⟨some 12, .load 1 false (.t 11), none⟩] (none))
 (.block 0
 (.seq (.region [
 ⟨some 14, .bin .eql (.t 12) (.c (.s (.int .i64 5))), none⟩,
 ⟨some 13, .cp (.t 14), none⟩] (none))
 (.cond (.t 13)
 (.seq (.region [
 ⟨some 15, .load 3 true (.t 3), none⟩,
 ⟨some 16, .faddr (.t 2) 3, none⟩,
 ⟨some 17, .load 3 true (.t 16), none⟩,
 ⟨some 18, .eqv (.a [.i, .t, .i]) false (.t 15) (.t 17), none⟩,
 ⟨some 4, .cp (.t 18), none⟩] (none))
 .ret)
 (.seq (.region [
 ⟨some 20, .bin .eql (.t 12) (.c (.s (.int .i64 6))), none⟩,
 ⟨some 19, .cp (.t 20), none⟩] (none))
 (.cond (.t 19)
 (.seq (.region [
 ⟨some 21, .load 3 true (.t 3), none⟩,
 ⟨some 22, .faddr (.t 2) 3, none⟩,
 ⟨some 23, .load 3 true (.t 22), none⟩,
 ⟨some 24, .call false zmd_ [(.t 21), (.t 23)], none⟩,
 ⟨some 25, .bin .lss (.t 24) (.c (.s (.int .i64 0))), none⟩,
 ⟨some 4, .cp (.t 25), none⟩] (none))
 .ret)
 .skip))))))
 (.seq (.region [
 ⟨some 26, .faddr (.t 3) 1, none⟩,
 ⟨some 27, .load 1 false (.t 26), none⟩,
 ⟨some 28, .faddr (.t 2) 3, none⟩,
 ⟨some 29, .faddr (.t 28) 1, none⟩,
 ⟨some 30, .load 1 false (.t 29), none⟩,
 ⟨some 31, .call false zbup_ [(.t 27), (.t 30)], none⟩,
 ⟨some 4, .cp (.t 31), none⟩] (none))
 .ret)))) }
def zmo_ : XC :=
 (.seq (.region [
 ⟨some 11, .bin .lss (.t 10) (.t 9), none⟩] (none))
 (.seq (.cond (.t 11)
 .skip
 (.exit 0))
 (.seq (.block 1
 (.seq (.region [
 ⟨some 12, .cp (.t 10), none⟩,
 ⟨some 13, .iaddr 14 (.t 8) (.t 10), none⟩,
 ⟨some 14, .load 14 true (.t 13), none⟩,
 ⟨some 7, .alloc [.s (.int .i64 0), .s (.int .i64 0), .s (.int .i64 0), .s (.int .i64 0), .s (.int .i64 0), .s (.int .i64 0), .s (.string ⟨#[]⟩), .s (.string ⟨#[]⟩), .s (.string ⟨#[]⟩), .s (.int .i64 0), .s (.int .i64 0), .s (.bool false), .s (.slice none 0 0), .s (.slice none 0 0)], none⟩,
 ⟨some 6, .cp (.t 12), none⟩,
 ⟨none, .store 14 (.t 7) (.t 14), none⟩] (none))
 (.seq (.region [
 ⟨some 15, .cp (.t 1), none⟩,
 ⟨some 16, .cp (.t 6), none⟩,
 ⟨some 17, .callv false (.t 15) [(.t 16)], none⟩] (none))
 (.cond (.t 17)
 (.region [
 ⟨some 18, .cp (.t 5), none⟩,
 ⟨some 19, .load 14 true (.t 7), none⟩,
 ⟨some 20, .call false zme_ [(.t 19)], none⟩,
 ⟨some 21, .bslice false 14 [(.t 20)], none⟩,
 ⟨some 22, .append 14 837723144972 (.t 18) (.t 21), none⟩,
 ⟨some 5, .cp (.t 22), none⟩] (none))
 .skip))))
 (.region [
 ⟨some 23, .bin .add (.t 10) (.c (.s (.int .i64 1))), none⟩,
 ⟨some 10, .cp (.t 23), none⟩] (none)))))
def zis_ : XF := { np := 2, results := [(.inl 4, .v)], body :=
 (.seq (.region [
 ⟨some 4, .cp (.c (.s (.slice none 0 0))), none⟩] (none))
 (.seq (.region [
 ⟨some 5, .cp (.c (.s (.slice none 0 0))), none⟩] (none))
 (.seq (.seq (.region [
 ⟨some 8, .cp (.t 0), none⟩,
 ⟨some 9, .len false (.t 8), none⟩,
 ⟨some 10, .cp (.c (.s (.int .i64 0))), none⟩] (none))
 (.block 0
 (.loop zmo_)))
 (.seq (.region [
 ⟨some 24, .cp (.t 5), none⟩,
 ⟨some 4, .cp (.t 24), none⟩] (none))
 .ret)))) }
def zit_ : XC :=
 (.seq (.seq (.region [
 ⟨some 12, .cp (.t 5), none⟩,
 ⟨some 13, .cp (.t 3), none⟩,
 ⟨some 14, .len false (.t 13), none⟩,
 ⟨some 15, .bin .lss (.t 12) (.t 14), none⟩,
 ⟨some 16, .cp (.t 15), none⟩,
 ⟨some 17, .cp (.t 3), some (16, true)⟩,
 ⟨some 18, .cp (.t 5), some (16, true)⟩,
 ⟨some 19, .iaddr 14 (.t 17) (.t 18), some (16, true)⟩,
 ⟨some 20, .load 14 true (.t 19), some (16, true)⟩,
 ⟨some 21, .cp (.t 0), some (16, true)⟩,
 ⟨some 22, .cp (.t 4), some (16, true)⟩,
 ⟨some 23, .iaddr 14 (.t 21) (.t 22), some (16, true)⟩,
 ⟨some 24, .load 14 true (.t 23), some (16, true)⟩,
 ⟨some 25, .call false zge_ [(.t 20), (.t 24)], some (16, true)⟩,
 ⟨some 26, .bin .lss (.t 25) (.c (.s (.int .i64 0))), some (16, true)⟩,
 ⟨some 27, .pick (.t 16) (.t 26) (.c (.s (.bool false))), none⟩] (some []))
 (.cond (.t 27)
 .skip
 (.exit 2)))
 (.block 3
 (.region [
 ⟨some 28, .cp (.t 5), none⟩,
 ⟨some 29, .bin .add (.t 28) (.c (.s (.int .i64 1))), none⟩,
 ⟨some 5, .cp (.t 29), none⟩] (none))))
def zqu_ : XC :=
 (.seq (.seq (.region [
 ⟨some 6, .cp (.t 4), none⟩,
 ⟨some 7, .cp (.t 0), none⟩,
 ⟨some 8, .len false (.t 7), none⟩,
 ⟨some 9, .bin .lss (.t 6) (.t 8), none⟩] (none))
 (.cond (.t 9)
 .skip
 (.exit 0)))
 (.seq (.block 1
 (.seq (.region [
 ⟨some 5, .cp (.c (.s (.int .i64 0))), none⟩] (none))
 (.seq (.block 2
 (.loop zit_))
 (.seq (.region [
 ⟨some 30, .cp (.t 5), none⟩,
 ⟨some 31, .cp (.t 3), none⟩,
 ⟨some 32, .len false (.t 31), none⟩,
 ⟨some 33, .bin .eql (.t 30) (.t 32), none⟩,
 ⟨some 34, .cp (.t 33), none⟩,
 ⟨some 35, .cp (.t 3), some (34, false)⟩,
 ⟨some 36, .cp (.t 5), some (34, false)⟩,
 ⟨some 37, .iaddr 14 (.t 35) (.t 36), some (34, false)⟩,
 ⟨some 38, .load 14 true (.t 37), some (34, false)⟩,
 ⟨some 39, .cp (.t 0), some (34, false)⟩,
 ⟨some 40, .cp (.t 4), some (34, false)⟩,
 ⟨some 41, .iaddr 14 (.t 39) (.t 40), some (34, false)⟩,
 ⟨some 42, .load 14 true (.t 41), some (34, false)⟩,
 ⟨some 43, .call false zge_ [(.t 38), (.t 42)], some (34, false)⟩,
 ⟨some 44, .bin .neq (.t 43) (.c (.s (.int .i64 0))), some (34, false)⟩,
 ⟨some 45, .pick (.t 34) (.c (.s (.bool true))) (.t 44), none⟩] (some []))
 (.cond (.t 45)
 (.region [
 ⟨some 46, .bslice true 14 [], none⟩,
 ⟨some 47, .cp (.t 3), none⟩,
 ⟨some 48, .cp (.t 5), none⟩,
 ⟨some 49, .slLst 14 (.t 47) none (some (.t 48)), none⟩,
 ⟨some 50, .append 14 837723144972 (.t 46) (.t 49), none⟩,
 ⟨some 51, .cp (.t 0), none⟩,
 ⟨some 52, .cp (.t 4), none⟩,
 ⟨some 53, .iaddr 14 (.t 51) (.t 52), none⟩,
 ⟨some 54, .load 14 true (.t 53), none⟩,
 ⟨some 55, .bslice false 14 [(.t 54)], none⟩,
 ⟨some 56, .append 14 837723144972 (.t 50) (.t 55), none⟩,
 ⟨some 57, .cp (.t 3), none⟩,
 ⟨some 58, .cp (.t 5), none⟩,
 ⟨some 59, .slLst 14 (.t 57) (some (.t 58)) none, none⟩,
 ⟨some 60, .append 14 837723144972 (.t 56) (.t 59), none⟩,
 ⟨some 3, .cp (.t 60), none⟩] (some [(0, some 3), (0, some 7), (0, some 8), (0, some 13), (4, some 7), (4, some 8), (4, some 13), (10, some 13)]))
 .skip)))))
 (.region [
 ⟨some 10, .cp (.t 4), none⟩,
 ⟨some 11, .bin .add (.t 10) (.c (.s (.int .i64 1))), none⟩,
 ⟨some 4, .cp (.t 11), none⟩] (none))))
def ziu_ : XF := { np := 1, results := [(.inl 2, .v)], body :=
 (.seq (.region [
 ⟨some 2, .cp (.c (.s (.slice none 0 0))), none⟩] (none))
 (.seq (.region [
 ⟨some 3, .cp (.c (.s (.slice none 0 0))), none⟩] (none))
 (.seq (.seq (.region [
 ⟨some 4, .cp (.c (.s (.int .i64 0))), none⟩] (none))
 (.block 0
 (.loop zqu_)))
 (.seq (.region [
 ⟨some 61, .cp (.t 3), none⟩,
 ⟨some 2, .cp (.t 61), none⟩] (none))
 .ret)))) }
def ziv_ : XF := { np := 1, results := [(.inr (2, 2, true), .v)], body :=
 (.seq (.region [
 ⟨some 1, .box false (.t 0), none⟩,
 ⟨some 2, .alloc [.s (.int .i64 0), .s (.int .i64 0)], none⟩] (none))
 (.seq (.region [
 ⟨some 3, .faddr (.t 1) 0, none⟩,
 ⟨some 4, .load 1 false (.t 3), none⟩,
 ⟨some 5, .faddr (.t 1) 1, none⟩,
 ⟨some 6, .load 1 false (.t 5), none⟩,
 ⟨some 7, .build false [.s (.int .i64 0), .s (.int .i64 0)] [(0, 1, (.t 4)), (1, 1, (.t 6))], none⟩,
 ⟨none, .store 2 (.t 2) (.t 7), none⟩] (none))
 .ret)) }
def ziw_ : XF := { np := 2, results := [(.inl 4, .v)], body :=
 (.seq (.region [
 ⟨some 2, .box false (.t 0), none⟩,
 ⟨some 3, .box false (.t 1), none⟩,
 ⟨some 4, .cp (.c (.s (.int .i64 0))), none⟩] (none))
 (.seq (.region [
 ⟨some 7, .faddr (.t 2) 0, none⟩,
 ⟨some 8, .load 1 false (.t 7), none⟩,
 ⟨some 9, .faddr (.t 2) 1, none⟩,
 ⟨some 10, .load 1 false (.t 9), none⟩,
 ⟨some 11, .faddr (.t 2) 3, none⟩,
 ⟨some 12, .load 1 false (.t 11), none⟩,
 ⟨some 13, .faddr (.t 2) 2, none⟩,
 ⟨some 14, .load 1 false (.t 13), none⟩,
 ⟨some 15, .faddr (.t 2) 4, none⟩,
 ⟨some 16, .load 1 false (.t 15), none⟩,
 ⟨some 17, .faddr (.t 2) 5, none⟩,
 ⟨some 18, .load 1 false (.t 17), none⟩,
 ⟨some 19, .build false [.s (.int .i64 0), .s (.int .i64 0), .s (.int .i64 0), .s (.int .i64 0), .s (.int .i64 0), .s (.int .i64 0)] [(0, 1, (.t 8)), (1, 1, (.t 10)), (2, 1, (.t 12)), (3, 1, (.t 14)), (4, 1, (.t 16)), (5, 1, (.t 18))], none⟩,
 ⟨some 5, .alloc [.s (.int .i64 0), .s (.int .i64 0), .s (.int .i64 0), .s (.int .i64 0), .s (.int .i64 0), .s (.int .i64 0)], none⟩,
 ⟨none, .store 6 (.t 5) (.t 19), none⟩] (none))
 (.seq (.region [
 ⟨some 20, .faddr (.t 3) 0, none⟩,
 ⟨some 21, .load 1 false (.t 20), none⟩,
 ⟨some 22, .faddr (.t 3) 1, none⟩,
 ⟨some 23, .load 1 false (.t 22), none⟩,
 ⟨some 24, .faddr (.t 3) 3, none⟩,
 ⟨some 25, .load 1 false (.t 24), none⟩,
 ⟨some 26, .faddr (.t 3) 2, none⟩,
 ⟨some 27, .load 1 false (.t 26), none⟩,
 ⟨some 28, .faddr (.t 3) 4, none⟩,
 ⟨some 29, .load 1 false (.t 28), none⟩,
 ⟨some 30, .faddr (.t 3) 5, none⟩,
 ⟨some 31, .load 1 false (.t 30), none⟩,
 ⟨some 32, .build false [.s (.int .i64 0), .s (.int .i64 0), .s (.int .i64 0), .s (.int .i64 0), .s (.int .i64 0), .s (.int .i64 0)] [(0, 1, (.t 21)), (1, 1, (.t 23)), (2, 1, (.t 25)), (3, 1, (.t 27)), (4, 1, (.t 29)), (5, 1, (.t 31))], none⟩,
 ⟨some 6, .alloc [.s (.int .i64 0), .s (.int .i64 0), .s (.int .i64 0), .s (.int .i64 0), .s (.int .i64 0), .s (.int .i64 0)], none⟩,
 ⟨none, .store 6 (.t 6) (.t 32), none⟩] (none))
 (.seq (.region [
 ⟨some 33, .slBox 6 (.t 5), none⟩,
 ⟨some 34, .slBox 6 (.t 6), none⟩,
 ⟨some 35, .call false zlu_ [(.t 33), (.t 34)], none⟩,
 ⟨some 36, .faddr (.t 2) 6, none⟩,
 ⟨some 37, .load 1 false (.t 36), none⟩,
 ⟨some 38, .faddr (.t 3) 6, none⟩,
 ⟨some 39, .load 1 false (.t 38), none⟩,
 ⟨some 40, .call false zdv_ [(.t 37), (.t 39)], none⟩,
 ⟨some 41, .faddr (.t 2) 7, none⟩,
 ⟨some 42, .load 1 false (.t 41), none⟩,
 ⟨some 43, .faddr (.t 3) 7, none⟩,
 ⟨some 44, .load 1 false (.t 43), none⟩,
 ⟨some 45, .call false zdv_ [(.t 42), (.t 44)], none⟩,
 ⟨some 46, .faddr (.t 2) 8, none⟩,
 ⟨some 47, .load 1 false (.t 46), none⟩,
 ⟨some 48, .faddr (.t 3) 8, none⟩,
 ⟨some 49, .load 1 false (.t 48), none⟩,
 ⟨some 50, .call false zdv_ [(.t 47), (.t 49)], none⟩,
 ⟨some 51, .faddr (.t 2) 9, none⟩,
 ⟨some 52, .load 1 false (.t 51), none⟩,
 ⟨some 53, .faddr (.t 3) 9, none⟩,
 ⟨some 54, .load 1 false (.t 53), none⟩,
 ⟨some 55, .call false zcx_ [(.t 52), (.t 54)], none⟩,
 ⟨some 56, .faddr (.t 2) 10, none⟩,
 ⟨some 57, .load 1 false (.t 56), none⟩,
 ⟨some 58, .faddr (.t 3) 10, none⟩,
 ⟨some 59, .load 1 false (.t 58), none⟩,
 ⟨some 60, .call false zcx_ [(.t 57), (.t 59)], none⟩,
 ⟨some 61, .faddr (.t 2) 11, none⟩,
 ⟨some 62, .load 1 false (.t 61), none⟩,
 ⟨some 63, .call false zhx_ [(.t 62)], none⟩,
 ⟨some 64, .faddr (.t 3) 11, none⟩,
 ⟨some 65, .load 1 false (.t 64), none⟩,
 ⟨some 66, .call false zhx_ [(.t 65)], none⟩,
 ⟨some 67, .bin .sub (.t 63) (.t 66), none⟩,
 ⟨some 68, .faddr (.t 2) 12, none⟩,
 ⟨some 69, .load 1 false (.t 68), none⟩,
 ⟨some 70, .faddr (.t 3) 12, none⟩,
 ⟨some 71, .load 1 false (.t 70), none⟩,
 ⟨some 72, .call false zqd_ [(.t 69), (.t 71)], none⟩,
 ⟨some 73, .faddr (.t 2) 13, none⟩,
 ⟨some 74, .load 1 false (.t 73), none⟩,
 ⟨some 75, .faddr (.t 3) 13, none⟩,
 ⟨some 76, .load 1 false (.t 75), none⟩,
 ⟨some 77, .call false zqe_ [(.t 74), (.t 76), (.c (.fn zgf_ [] []))], none⟩,
 ⟨some 78, .bslice false 1 [(.t 35), (.t 40), (.t 45), (.t 50), (.t 55), (.t 60), (.t 67), (.t 72), (.t 77)], none⟩,
 ⟨some 79, .call false zgi_ [(.t 78)], none⟩,
 ⟨some 4, .cp (.t 79), none⟩] (some [(2, none), (7, none), (12, none), (17, none), (22, none), (27, none), (30, none), (33, none), (39, some 41), (39, some 43)]))
 .ret)))) }
def zix_ : XF := { np := 1, results := [(.inr (2, 14, true), .v)], body :=
 (.seq (.region [
 ⟨some 1, .box false (.t 0), none⟩,
 ⟨some 2, .alloc [.s (.int .i64 0), .s (.int .i64 0), .s (.int .i64 0), .s (.int .i64 0), .s (.int .i64 0), .s (.int .i64 0), .s (.string ⟨#[]⟩), .s (.string ⟨#[]⟩), .s (.string ⟨#[]⟩), .s (.int .i64 0), .s (.int .i64 0), .s (.bool false), .s (.slice none 0 0), .s (.slice none 0 0)], none⟩] (none))
 (.seq (.region [
 ⟨some 3, .faddr (.t 1) 12, none⟩,
 ⟨some 4, .load 1 false (.t 3), none⟩,
 ⟨some 5, .call false zqk_ [(.t 4)], none⟩,
 ⟨some 6, .faddr (.t 1) 13, none⟩,
 ⟨some 7, .load 1 false (.t 6), none⟩,
 ⟨some 8, .call false zql_ [(.t 7)], none⟩,
 ⟨some 9, .faddr (.t 1) 12, none⟩,
 ⟨none, .store 1 (.t 9) (.t 5), none⟩,
 ⟨some 10, .faddr (.t 1) 13, none⟩,
 ⟨none, .store 1 (.t 10) (.t 8), none⟩] (some [(2, some 4)]))
 (.seq (.region [
 ⟨some 11, .load 14 true (.t 1), none⟩,
 ⟨none, .store 14 (.t 2) (.t 11), none⟩] (none))
 .ret))) }
def zgn_ : XF := { np := 2, results := [(.inl 4, .v)], body :=
 (.seq (.region [
 ⟨some 4, .cp (.c (.s (.int .i64 0))), none⟩] (none))
 (.seq (.seq (.region [
 ⟨some 5, .cp (.t 0), none⟩,
 ⟨some 6, .cp (.t 1), none⟩,
 ⟨some 7, .bin .lss (.t 5) (.t 6), none⟩] (none))
 (.cond (.t 7)
 (.seq (.region [
 ⟨some 4, .cp (.c (.s (.int .i64 (-1)))), none⟩] (none))
 .ret)
 .skip))
 (.seq (.seq (.region [
 ⟨some 8, .cp (.t 0), none⟩,
 ⟨some 9, .cp (.t 1), none⟩,
 ⟨some 10, .bin .gtr (.t 8) (.t 9), none⟩] (none))
 (.cond (.t 10)
 (.seq (.region [
 ⟨some 4, .cp (.c (.s (.int .i64 1))), none⟩] (none))
 .ret)
 .skip))
 (.seq (.region [
 ⟨some 4, .cp (.c (.s (.int .i64 0))), none⟩] (none))
 .ret)))) }
def zew_ : XF := { np := 2, results := [(.inl 4, .v)], body :=
 (.seq (.region [
 ⟨some 4, .cp (.c (.s (.int .i64 0))), none⟩] (none))
 (.seq (.seq (.region [
 ⟨some 5, .cp (.t 0), none⟩,
 ⟨some 6, .cp (.t 1), none⟩,
 ⟨some 7, .bin .lss (.t 5) (.t 6), none⟩] (none))
 (.cond (.t 7)
 (.seq (.region [
 ⟨some 4, .cp (.c (.s (.int .i64 (-1)))), none⟩] (none))
 .ret)
 .skip))
 (.seq (.seq (.region [
 ⟨some 8, .cp (.t 0), none⟩,
 ⟨some 9, .cp (.t 1), none⟩,
 ⟨some 10, .bin .gtr (.t 8) (.t 9), none⟩] (none))
 (.cond (.t 10)
 (.seq (.region [
 ⟨some 4, .cp (.c (.s (.int .i64 1))), none⟩] (none))
 .ret)
 .skip))
 (.seq (.region [
 ⟨some 4, .cp (.c (.s (.int .i64 0))), none⟩] (none))
 .ret)))) }
def zgo_ : XF := { np := 2, results := [(.inl 4, .v)], body :=
 (.seq (.region [
 ⟨some 2, .box false (.t 0), none⟩,
 ⟨some 3, .box false (.t 1), none⟩,
 ⟨some 4, .cp (.c (.s (.int .i64 0))), none⟩] (none))
 (.seq (.seq (.region [
 ⟨some 6, .faddr (.t 2) 0, none⟩,
 ⟨some 7, .load 1 false (.t 6), none⟩,
 ⟨some 8, .faddr (.t 3) 0, none⟩,
 ⟨some 9, .load 1 false (.t 8), none⟩,
 ⟨some 10, .call false zbk_ [(.t 7), (.t 9)], none⟩,
 ⟨some 5, .cp (.t 10), none⟩] (none))
 (.seq (.region [
 ⟨some 11, .cp (.t 5), none⟩,
 ⟨some 12, .bin .neq (.t 11) (.c (.s (.int .i64 0))), none⟩] (none))
 (.cond (.t 12)
 (.seq (.region [
 ⟨some 13, .cp (.t 5), none⟩,
 ⟨some 4, .cp (.t 13), none⟩] (none))
 .ret)
 .skip)))
 (.seq (.region [
 ⟨some 14, .faddr (.t 2) 1, none⟩,
 ⟨some 15, .load 1 false (.t 14), none⟩,
 ⟨some 16, .faddr (.t 3) 1, none⟩,
 ⟨some 17, .load 1 false (.t 16), none⟩,
 ⟨some 18, .call false zbk_ [(.t 15), (.t 17)], none⟩,
 ⟨some 4, .cp (.t 18), none⟩] (none))
 .ret))) }
def zmp_ : XC :=
 (.seq (.seq (.region [
 ⟨some 16, .cp (.t 6), none⟩,
 ⟨some 17, .cp (.t 0), none⟩,
 ⟨some 18, .len false (.t 17), none⟩,
 ⟨some 19, .bin .lss (.t 16) (.t 18), none⟩] (none))
 (.cond (.t 19)
 .skip
 (.exit 0)))
 (.seq (.block 1
 (.seq (.region [
 ⟨some 22, .cp (.t 0), none⟩,
 ⟨some 23, .cp (.t 6), none⟩,
 ⟨some 24, .iaddr 14 (.t 22) (.t 23), none⟩,
 ⟨some 25, .load 14 true (.t 24), none⟩,
 ⟨some 7, .alloc [.s (.int .i64 0), .s (.int .i64 0), .s (.int .i64 0), .s (.int .i64 0), .s (.int .i64 0), .s (.int .i64 0), .s (.string ⟨#[]⟩), .s (.string ⟨#[]⟩), .s (.string ⟨#[]⟩), .s (.int .i64 0), .s (.int .i64 0), .s (.bool false), .s (.slice none 0 0), .s (.slice none 0 0)], none⟩,
 ⟨none, .store 14 (.t 7) (.t 25), none⟩] (none))
 (.seq (.region [
 ⟨some 26, .cp (.t 1), none⟩,
 ⟨some 27, .load 14 true (.t 7), none⟩,
 ⟨some 28, .callv false (.t 26) [(.t 27)], none⟩,
 ⟨some 29, .un .not (.t 28), none⟩] (none))
 (.cond (.t 29)
 (.seq (.region [
 ⟨some 30, .cp (.t 0), none⟩,
 ⟨some 31, .cp (.t 5), none⟩,
 ⟨some 32, .load 14 true (.t 7), none⟩,
 ⟨some 33, .iaddr 14 (.t 30) (.t 31), none⟩,
 ⟨none, .store 14 (.t 33) (.t 32), none⟩] (none))
 (.region [
 ⟨some 34, .cp (.t 5), none⟩,
 ⟨some 35, .bin .add (.t 34) (.c (.s (.int .i64 1))), none⟩,
 ⟨some 5, .cp (.t 35), none⟩] (none)))
 .skip))))
 (.region [
 ⟨some 20, .cp (.t 6), none⟩,
 ⟨some 21, .bin .add (.t 20) (.c (.s (.int .i64 1))), none⟩,
 ⟨some 6, .cp (.t 21), none⟩] (none))))
def zex_ : XF := { np := 2, results := [(.inl 4, .v)], body :=
 (.seq (.region [
 ⟨some 4, .cp (.c (.s (.slice none 0 0))), none⟩] (none))
 (.seq (.region [
 ⟨some 8, .cp (.t 0), none⟩,
 ⟨some 9, .cp (.t 1), none⟩,
 ⟨some 10, .call false zqr_ [(.t 8), (.t 9)], none⟩,
 ⟨some 5, .cp (.t 10), none⟩] (none))
 (.seq (.seq (.region [
 ⟨some 11, .cp (.t 5), none⟩,
 ⟨some 12, .bin .eql (.t 11) (.c (.s (.int .i64 (-1)))), none⟩] (none))
 (.cond (.t 12)
 (.seq (.region [
 ⟨some 13, .cp (.t 0), none⟩,
 ⟨some 4, .cp (.t 13), none⟩] (none))
 .ret)
 .skip))
 (.seq (.seq (.region [
 ⟨some 14, .cp (.t 5), none⟩,
 ⟨some 15, .bin .add (.t 14) (.c (.s (.int .i64 1))), none⟩,
 ⟨some 6, .cp (.t 15), none⟩] (none))
 (.block 0
 (.loop zmp_)))
 (.seq (.region [
 ⟨some 36, .cp (.t 0), none⟩,
 ⟨some 37, .cp (.t 5), none⟩,
 ⟨some 38, .slLst 14 (.t 36) (some (.t 37)) none, none⟩,
 ⟨none, .clear 14 (.agg [.s (.int .i64 0), .s (.int .i64 0), .s (.int .i64 0), .s (.int .i64 0), .s (.int .i64 0), .s (.int .i64 0), .s (.string ⟨#[]⟩), .s (.string ⟨#[]⟩), .s (.string ⟨#[]⟩), .s (.int .i64 0), .s (.int .i64 0), .s (.bool false), .s (.slice none 0 0), .s (.slice none 0 0)]) (.t 38), none⟩] (none))
 (.seq (.region [
 ⟨some 39, .cp (.t 0), none⟩,
 ⟨some 40, .cp (.t 5), none⟩,
 ⟨some 41, .slFrz 14 (.t 39) none (some (.t 40)), none⟩,
 ⟨some 4, .cp (.t 41), none⟩] (none))
 .ret)))))) }
def zgp_ : XF := { np := 1, results := [(.inl 2, .v)], body :=
 (.seq (.region [
 ⟨some 2, .cp (.c (.s (.slice none 0 0))), none⟩] (none))
 (.seq (.seq (.region [
 ⟨some 3, .cp (.t 0), none⟩,
 ⟨some 4, .eqv .s false (.t 3) (.c (.s (.slice none 0 0))), none⟩] (none))
 (.cond (.t 4)
 (.seq (.region [
 ⟨some 2, .cp (.c (.s (.slice none 0 0))), none⟩] (none))
 .ret)
 .skip))
 (.seq (.region [
 ⟨some 5, .bslice true 14 [], none⟩,
 ⟨some 6, .cp (.t 0), none⟩,
 ⟨some 7, .append 14 837723144972 (.t 5) (.t 6), none⟩,
 ⟨some 2, .cp (.t 7), none⟩] (none))
 .ret))) }
def ziy_ : XF := { np := 2, results := [(.inl 3, .v)], body :=
 (.seq (.region [
 ⟨some 2, .box false (.t 0), none⟩,
 ⟨some 3, .cp (.c (.s (.bool false))), none⟩] (none))
 (.seq (.region [
 ⟨some 4, .faddr (.t 2) 0, none⟩,
 ⟨some 5, .load 1 false (.t 4), none⟩,
 ⟨some 6, .load 1 false (.t 1), none⟩,
 ⟨some 7, .bin .neq (.t 5) (.t 6), none⟩,
 ⟨some 3, .cp (.t 7), none⟩] (none))
 .ret)) }
def zqv_ : XF := { np := 1, results := [], body := .skip, nat := some (.rd (zee_ zcy_)) }
def ziz_ : XF := { np := 1, nat := some .keep, results := [(.inl 2, .v)], body :=
 (.seq (.region [
 ⟨some 1, .box false (.t 0), none⟩,
 ⟨some 2, .cp (.c (.s .nilFunc)), none⟩] (none))
 (.seq (.region [
 ⟨some 3, .mkfn false zcy_ [] [(.t 1)], none⟩,
 ⟨some 2, .cp (.t 3), none⟩] (none))
 .ret)) }
def zey_ : XF := { np := 1, results := [(.inl 2, .v)], body :=
 (.seq (.region [
 ⟨some 2, .cp (.c (.s (.slice none 0 0))), none⟩] (none))
 (.seq (.region [
 ⟨some 3, .cp (.t 0), none⟩,
 ⟨some 4, .call false zdw_ [(.t 3)], none⟩,
 ⟨some 5, .call true zqj_ [(.t 4), (.c (.fn zds_ [] []))], none⟩,
 ⟨some 6, .call false zhz_ [(.t 5), (.c (.fn zdt_ [] []))], none⟩,
 ⟨some 2, .cp (.t 6), none⟩] (none))
 .ret)) }
def zgq_ : XF := { np := 2, results := [(.inl 3, .v)], body :=
 (.seq (.region [
 ⟨some 3, .cp (.c (.s (.bool false))), none⟩] (none))
 (.seq (.region [
 ⟨some 4, .cp (.t 0), none⟩,
 ⟨some 5, .bin .add (.t 4) (.c (.s (.int .i64 1))), none⟩,
 ⟨some 6, .load 1 false (.t 1), none⟩,
 ⟨some 7, .len false (.t 6), none⟩,
 ⟨some 8, .bin .eql (.t 5) (.t 7), none⟩,
 ⟨some 9, .cp (.t 8), none⟩,
 ⟨some 10, .load 1 false (.t 1), some (9, false)⟩,
 ⟨some 11, .cp (.t 0), some (9, false)⟩,
 ⟨some 12, .bin .add (.t 11) (.c (.s (.int .i64 1))), some (9, false)⟩,
 ⟨some 13, .iaddr 14 (.t 10) (.t 12), some (9, false)⟩,
 ⟨some 14, .load 14 true (.t 13), some (9, false)⟩,
 ⟨some 15, .call false zhw_ [(.t 14)], some (9, false)⟩,
 ⟨some 16, .load 1 false (.t 1), some (9, false)⟩,
 ⟨some 17, .cp (.t 0), some (9, false)⟩,
 ⟨some 18, .iaddr 14 (.t 16) (.t 17), some (9, false)⟩,
 ⟨some 19, .load 14 true (.t 18), some (9, false)⟩,
 ⟨some 20, .call false zhw_ [(.t 19)], some (9, false)⟩,
 ⟨some 21, .eqv (.a [.i, .i]) true (.t 15) (.t 20), some (9, false)⟩,
 ⟨some 22, .pick (.t 9) (.c (.s (.bool true))) (.t 21), none⟩,
 ⟨some 3, .cp (.t 22), none⟩] (some [(11, none)]))
 .ret)) }
def zqw_ : XF := { np := 2, results := [(.inr (4, 3, true), .v), (.inl 5, .v)], body :=
 (.seq (.region [
 ⟨some 4, .alloc [.s (.int .i64 0), .s (.string ⟨#[]⟩), .s (.int .i64 0)], none⟩,
 ⟨some 5, .cp (.c (.s (.bool false))), none⟩] (none))
 (.seq (.region [
 ⟨some 9, .cp (.t 0), none⟩,
 ⟨some 10, .cp (.t 1), none⟩,
 ⟨some 11, .call false zbuk_ [(.t 9), (.t 10)], none⟩,
 ⟨some 8, .cp (.t 11), none⟩,
 ⟨some 12, .extract (.t 8) 0, none⟩,
 ⟨some 13, .extract (.t 8) 1, none⟩,
 ⟨some 6, .cp (.t 12), none⟩,
 ⟨some 7, .cp (.t 13), none⟩] (none))
 (.seq (.seq (.region [
 ⟨some 14, .cp (.t 7), none⟩,
 ⟨some 15, .un .not (.t 14), none⟩] (none))
 (.cond (.t 15)
 (.seq (.region [
 ⟨some 16, .build false [.s (.int .i64 0), .s (.string ⟨#[]⟩), .s (.int .i64 0)] [], none⟩,
 ⟨none, .store 3 (.t 4) (.t 16), none⟩,
 ⟨some 5, .cp (.c (.s (.bool false))), none⟩] (none))
 .ret)
 .skip))
 (.seq (.region [
 ⟨some 17, .cp (.t 0), none⟩,
 ⟨some 18, .cp (.t 6), none⟩,
 ⟨some 19, .iaddr 4 (.t 17) (.t 18), none⟩,
 ⟨some 20, .faddr (.t 19) 1, none⟩,
 ⟨some 21, .load 3 true (.t 20), none⟩,
 ⟨none, .store 3 (.t 4) (.t 21), none⟩,
 ⟨some 5, .cp (.c (.s (.bool true))), none⟩] (none))
 .ret)))) }
def zja_ : XF := { np := 1, results := [(.inl 2, .v), (.inl 3, .v)], body :=
 (.seq (.region [
 ⟨some 2, .cp (.c (.s (.int .i64 0))), none⟩,
 ⟨some 3, .cp (.c (.s (.bool false))), none⟩] (none))
 (.seq (.seq (.region [
 ⟨some 4, .call false zlq_ [], none⟩,
 ⟨some 5, .cp (.t 0), none⟩,
 ⟨some 6, .call false zqg_ [(.t 4), (.t 5)], none⟩,
 ⟨some 7, .un .not (.t 6), none⟩] (none))
 (.cond (.t 7)
 (.seq (.region [
 ⟨some 2, .cp (.c (.s (.int .i64 0))), none⟩,
 ⟨some 3, .cp (.c (.s (.bool false))), none⟩] (none))
 .ret)
 .skip))
 (.seq (.seq (.region [
 ⟨some 8, .cp (.t 0), none⟩] (none))
 (.block 0
 (.seq (.seq (.region [
 ⟨some 10, .bin .eql (.t 8) (.c (.s (.string ⟨#[107, 105, 110, 100]⟩))), none⟩,
 ⟨some 9, .cp (.t 10), none⟩] (none))
 (.cond (.t 9)
 .skip
 (.seq (.region [
 ⟨some 11, .bin .eql (.t 8) (.c (.s (.string ⟨#[111, 112, 101, 114, 97, 116, 105, 111, 110]⟩))), none⟩,
 ⟨some 9, .cp (.t 11), none⟩] (none))
 (.cond (.t 9)
 .skip
 (.seq (.region [
 ⟨some 12, .bin .eql (.t 8) (.c (.s (.string ⟨#[115, 101, 114, 118, 105, 99, 101]⟩))), none⟩,
 ⟨some 9, .cp (.t 12), none⟩] (none))
 (.cond (.t 9)
 .skip
 (.region [
 ⟨some 13, .bin .eql (.t 8) (.c (.s (.string ⟨#[118, 101, 114, 115, 105, 111, 110]⟩))), none⟩,
 ⟨some 9, .cp (.t 13), none⟩] (none))))))))
 (.cond (.t 9)
 (.seq (.region [
 ⟨some 2, .cp (.c (.s (.int .i64 1))), none⟩,
 ⟨some 3, .cp (.c (.s (.bool true))), none⟩] (none))
 .ret)
 (.seq (.seq (.region [
 ⟨some 15, .bin .eql (.t 8) (.c (.s (.string ⟨#[101, 114, 114, 111, 114]⟩))), none⟩,
 ⟨some 14, .cp (.t 15), none⟩] (none))
 (.cond (.t 14)
 .skip
 (.region [
 ⟨some 16, .bin .eql (.t 8) (.c (.s (.string ⟨#[114, 111, 111, 116]⟩))), none⟩,
 ⟨some 14, .cp (.t 16), none⟩] (none))))
 (.cond (.t 14)
 (.seq (.region [
 ⟨some 2, .cp (.c (.s (.int .i64 3))), none⟩,
 ⟨some 3, .cp (.c (.s (.bool true))), none⟩] (none))
 .ret)
 .skip))))))
 (.seq (.region [
 ⟨some 2, .cp (.c (.s (.int .i64 2))), none⟩,
 ⟨some 3, .cp (.c (.s (.bool true))), none⟩] (none))
 .ret)))) }
def zqx_ : XF := { np := 2, results := [(.inl 4, .v)], body :=
 (.seq (.region [
 ⟨some 2, .box false (.t 0), none⟩,
 ⟨some 4, .cp (.c (.s (.string ⟨#[]⟩))), none⟩] (none))
 (.seq (.seq (.region [
 ⟨some 7, .cp (.t 1), none⟩] (none))
 (.block 0
 (.seq (.region [
 ⟨some 9, .bin .eql (.t 7) (.c (.s (.string ⟨#[107, 105, 110, 100]⟩))), none⟩,
 ⟨some 8, .cp (.t 9), none⟩] (none))
 (.cond (.t 8)
 (.seq (.region [
 ⟨some 11, .faddr (.t 2) 0, none⟩,
 ⟨some 12, .faddr (.t 11) 5, none⟩,
 ⟨some 13, .load 1 false (.t 12), none⟩,
 ⟨some 14, .call false zbui_ [(.t 13)], none⟩,
 ⟨some 10, .cp (.t 14), none⟩,
 ⟨some 15, .extract (.t 10) 0, none⟩,
 ⟨some 16, .extract (.t 10) 1, none⟩,
 ⟨some 5, .cp (.t 15), none⟩,
 ⟨some 6, .cp (.t 16), none⟩] (none))
 (.seq (.region [
 ⟨some 17, .cp (.t 5), none⟩,
 ⟨some 4, .cp (.t 17), none⟩] (none))
 .ret))
 (.seq (.region [
 ⟨some 19, .bin .eql (.t 7) (.c (.s (.string ⟨#[111, 112, 101, 114, 97, 116, 105, 111, 110]⟩))), none⟩,
 ⟨some 18, .cp (.t 19), none⟩] (none))
 (.cond (.t 18)
 (.seq (.region [
 ⟨some 20, .faddr (.t 2) 0, none⟩,
 ⟨some 21, .faddr (.t 20) 8, none⟩,
 ⟨some 22, .load 1 false (.t 21), none⟩,
 ⟨some 4, .cp (.t 22), none⟩] (none))
 .ret)
 (.seq (.region [
 ⟨some 24, .bin .eql (.t 7) (.c (.s (.string ⟨#[115, 101, 114, 118, 105, 99, 101]⟩))), none⟩,
 ⟨some 23, .cp (.t 24), none⟩] (none))
 (.cond (.t 23)
 (.seq (.region [
 ⟨some 25, .faddr (.t 2) 0, none⟩,
 ⟨some 26, .faddr (.t 25) 6, none⟩,
 ⟨some 27, .load 1 false (.t 26), none⟩,
 ⟨some 4, .cp (.t 27), none⟩] (none))
 .ret)
 .skip))))))))
 (.seq (.region [
 ⟨some 28, .faddr (.t 2) 0, none⟩,
 ⟨some 29, .faddr (.t 28) 7, none⟩,
 ⟨some 30, .load 1 false (.t 29), none⟩,
 ⟨some 4, .cp (.t 30), none⟩] (none))
 .ret))) }
def zjb_ : XF := { np := 2, results := [(.inl 4, .v)], body :=
 (.seq (.region [
 ⟨some 2, .box false (.t 0), none⟩,
 ⟨some 4, .cp (.c (.s (.int .i64 0))), none⟩] (none))
 (.seq (.region [
 ⟨some 6, .faddr (.t 2) 0, none⟩,
 ⟨some 7, .load 14 true (.t 6), none⟩,
 ⟨some 5, .alloc [.s (.int .i64 0), .s (.int .i64 0), .s (.int .i64 0), .s (.int .i64 0), .s (.int .i64 0), .s (.int .i64 0), .s (.string ⟨#[]⟩), .s (.string ⟨#[]⟩), .s (.string ⟨#[]⟩), .s (.int .i64 0), .s (.int .i64 0), .s (.bool false), .s (.slice none 0 0), .s (.slice none 0 0)], none⟩,
 ⟨none, .store 14 (.t 5) (.t 7), none⟩] (none))
 (.seq (.seq (.region [
 ⟨some 8, .cp (.t 1), none⟩] (none))
 (.block 0
 (.seq (.region [
 ⟨some 10, .bin .eql (.t 8) (.c (.s (.string ⟨#[99, 108, 111, 99, 107]⟩))), none⟩,
 ⟨some 9, .cp (.t 10), none⟩] (none))
 (.cond (.t 9)
 (.seq (.region [
 ⟨some 11, .faddr (.t 5) 4, none⟩,
 ⟨some 12, .load 1 false (.t 11), none⟩,
 ⟨some 4, .cp (.t 12), none⟩] (none))
 .ret)
 (.seq (.region [
 ⟨some 14, .bin .eql (.t 8) (.c (.s (.string ⟨#[100, 117, 114, 97, 116, 105, 111, 110]⟩))), none⟩,
 ⟨some 13, .cp (.t 14), none⟩] (none))
 (.cond (.t 13)
 (.seq (.region [
 ⟨some 15, .load 14 true (.t 5), none⟩,
 ⟨some 16, .call false zpu_ [(.t 15)], none⟩,
 ⟨some 4, .cp (.t 16), none⟩] (none))
 .ret)
 (.seq (.region [
 ⟨some 18, .bin .eql (.t 8) (.c (.s (.string ⟨#[101, 110, 100]⟩))), none⟩,
 ⟨some 17, .cp (.t 18), none⟩] (none))
 (.cond (.t 17)
 (.seq (.region [
 ⟨some 19, .faddr (.t 5) 10, none⟩,
 ⟨some 20, .load 1 false (.t 19), none⟩,
 ⟨some 4, .cp (.t 20), none⟩] (none))
 .ret)
 (.seq (.region [
 ⟨some 22, .bin .eql (.t 8) (.c (.s (.string ⟨#[105, 100]⟩))), none⟩,
 ⟨some 21, .cp (.t 22), none⟩] (none))
 (.cond (.t 21)
 (.seq (.region [
 ⟨some 23, .faddr (.t 5) 1, none⟩,
 ⟨some 24, .load 1 false (.t 23), none⟩,
 ⟨some 4, .cp (.t 24), none⟩] (none))
 .ret)
 (.seq (.region [
 ⟨some 26, .bin .eql (.t 8) (.c (.s (.string ⟨#[112, 97, 114, 101, 110, 116]⟩))), none⟩,
 ⟨some 25, .cp (.t 26), none⟩] (none))
 (.cond (.t 25)
 (.seq (.region [
 ⟨some 27, .faddr (.t 5) 2, none⟩,
 ⟨some 28, .load 1 false (.t 27), none⟩,
 ⟨some 4, .cp (.t 28), none⟩] (none))
 .ret)
 (.seq (.region [
 ⟨some 30, .bin .eql (.t 8) (.c (.s (.string ⟨#[114, 101, 118, 105, 115, 105, 111, 110]⟩))), none⟩,
 ⟨some 29, .cp (.t 30), none⟩] (none))
 (.cond (.t 29)
 (.seq (.region [
 ⟨some 31, .faddr (.t 5) 3, none⟩,
 ⟨some 32, .load 1 false (.t 31), none⟩,
 ⟨some 4, .cp (.t 32), none⟩] (none))
 .ret)
 (.seq (.region [
 ⟨some 34, .bin .eql (.t 8) (.c (.s (.string ⟨#[115, 108, 111, 116]⟩))), none⟩,
 ⟨some 33, .cp (.t 34), none⟩] (none))
 (.cond (.t 33)
 (.seq (.region [
 ⟨some 35, .faddr (.t 5) 0, none⟩,
 ⟨some 36, .load 1 false (.t 35), none⟩,
 ⟨some 37, .call false zls_ [(.t 36)], none⟩,
 ⟨some 4, .cp (.t 37), none⟩] (none))
 .ret)
 (.seq (.region [
 ⟨some 39, .bin .eql (.t 8) (.c (.s (.string ⟨#[115, 116, 97, 114, 116]⟩))), none⟩,
 ⟨some 38, .cp (.t 39), none⟩] (none))
 (.cond (.t 38)
 (.seq (.region [
 ⟨some 40, .faddr (.t 5) 9, none⟩,
 ⟨some 41, .load 1 false (.t 40), none⟩,
 ⟨some 4, .cp (.t 41), none⟩] (none))
 .ret)
 .skip))))))))))))))))))
 (.seq (.region [
 ⟨some 42, .faddr (.t 5) 0, none⟩,
 ⟨some 43, .load 1 false (.t 42), none⟩,
 ⟨some 4, .cp (.t 43), none⟩] (none))
 .ret)))) }
def zjc_ : XF := { np := 1, results := [(.inl 2, .v)], body :=
 (.seq (.region [
 ⟨some 2, .cp (.c (.s (.int .i64 0))), none⟩] (none))
 (.seq (.seq (.region [
 ⟨some 3, .cp (.t 0), none⟩] (none))
 (.cond (.t 3)
 (.seq (.region [
 ⟨some 2, .cp (.c (.s (.int .i64 1))), none⟩] (none))
 .ret)
 .skip))
 (.seq (.region [
 ⟨some 2, .cp (.c (.s (.int .i64 0))), none⟩] (none))
 .ret))) }
def zez_ : XF := { np := 1, results := [(.inl 2, .v)], body :=
 (.seq (.region [
 ⟨some 2, .cp (.c (.s (.bool false))), none⟩] (none))
 (.seq (.region [
 ⟨some 3, .cp (.t 0), none⟩,
 ⟨some 4, .bin .lss (.t 3) (.c (.s (.int .i64 1))), none⟩,
 ⟨some 5, .cp (.t 4), none⟩,
 ⟨some 6, .cp (.t 0), some (5, false)⟩,
 ⟨some 7, .bin .gtr (.t 6) (.c (.s (.int .i64 1099511627776))), some (5, false)⟩,
 ⟨some 8, .pick (.t 5) (.c (.s (.bool true))) (.t 7), none⟩,
 ⟨some 2, .cp (.t 8), none⟩] (none))
 .ret)) }
def zfa_ : XF := { np := 1, results := [(.inl 2, .v)], body :=
 (.seq (.region [
 ⟨some 2, .cp (.c (.s (.bool false))), none⟩] (none))
 (.seq (.region [
 ⟨some 3, .cp (.t 0), none⟩,
 ⟨some 4, .bin .neq (.t 3) (.c (.s (.string ⟨#[]⟩))), none⟩,
 ⟨some 5, .cp (.t 4), none⟩,
 ⟨some 6, .cp (.t 0), some (5, true)⟩,
 ⟨some 7, .len true (.t 6), some (5, true)⟩,
 ⟨some 8, .bin .leq (.t 7) (.c (.s (.int .i64 64))), some (5, true)⟩,
 ⟨some 9, .pick (.t 5) (.t 8) (.c (.s (.bool false))), none⟩,
 ⟨some 10, .cp (.t 9), none⟩,
 ⟨some 11, .cp (.t 0), some (10, true)⟩,
 ⟨some 12, .call false zlw_ [(.t 11), (.c (.s (.int .u8 33))), (.c (.s (.int .u8 126)))], some (10, true)⟩,
 ⟨some 13, .pick (.t 10) (.t 12) (.c (.s (.bool false))), none⟩,
 ⟨some 2, .cp (.t 13), none⟩] (none))
 .ret)) }
def zmq_ : XC :=
 (.seq (.region [
 ⟨some 9, .bin .lss (.t 8) (.t 7), none⟩] (none))
 (.seq (.cond (.t 9)
 .skip
 (.exit 0))
 (.seq (.block 1
 (.seq (.region [
 ⟨some 10, .iaddr 1 (.t 6) (.t 8), none⟩,
 ⟨some 11, .load 1 false (.t 10), none⟩,
 ⟨some 5, .cp (.t 11), none⟩] (none))
 (.seq (.region [
 ⟨some 12, .cp (.t 5), none⟩,
 ⟨some 13, .cp (.t 3), none⟩,
 ⟨some 14, .bin .neq (.t 12) (.t 13), none⟩] (none))
 (.cond (.t 14)
 (.seq (.region [
 ⟨some 15, .cp (.t 5), none⟩,
 ⟨some 2, .cp (.t 15), none⟩] (none))
 .ret)
 .skip))))
 (.region [
 ⟨some 16, .bin .add (.t 8) (.c (.s (.int .i64 1))), none⟩,
 ⟨some 8, .cp (.t 16), none⟩] (none)))))
def zjd_ : XF := { np := 1, results := [(.inl 2, .v)], body :=
 (.seq (.region [
 ⟨some 2, .cp (.c (.s (.int .i64 0))), none⟩] (none))
 (.seq (.region [
 ⟨some 3, .cp (.c (.s (.int .i64 0))), none⟩] (none))
 (.seq (.seq (.region [
 ⟨some 6, .cp (.t 0), none⟩,
 ⟨some 7, .len false (.t 6), none⟩,
 ⟨some 8, .cp (.c (.s (.int .i64 0))), none⟩] (none))
 (.block 0
 (.loop zmq_)))
 (.seq (.region [
 ⟨some 17, .cp (.t 3), none⟩,
 ⟨some 2, .cp (.t 17), none⟩] (none))
 .ret)))) }
def zdy_ : XC :=
 (.seq (.region [
 ⟨some 12, .bin .lss (.t 11) (.t 10), none⟩] (none))
 (.seq (.cond (.t 12)
 .skip
 (.exit 0))
 (.seq (.block 1
 (.seq (.region [
 ⟨some 13, .cp (.t 11), none⟩,
 ⟨some 14, .iaddr 4 (.t 9) (.t 11), none⟩,
 ⟨some 15, .load 4 true (.t 14), none⟩,
 ⟨some 4, .alloc [.s (.string ⟨#[]⟩), .s (.int .i64 0), .s (.string ⟨#[]⟩), .s (.int .i64 0)], none⟩,
 ⟨some 3, .cp (.t 13), none⟩,
 ⟨none, .store 4 (.t 4) (.t 15), none⟩] (none))
 (.seq (.block 2
 (.seq (.region [
 ⟨some 17, .faddr (.t 4) 0, none⟩,
 ⟨some 18, .load 1 false (.t 17), none⟩,
 ⟨some 19, .call false zgh_ [(.t 18)], none⟩,
 ⟨some 20, .un .not (.t 19), none⟩,
 ⟨some 16, .cp (.t 20), none⟩] (none))
 (.cond (.t 16)
 (.seq (.region [
 ⟨some 2, .cp (.c (.s (.int .i64 11))), none⟩] (none))
 .ret)
 (.seq (.region [
 ⟨some 22, .cp (.t 3), none⟩,
 ⟨some 23, .bin .gtr (.t 22) (.c (.s (.int .i64 0))), none⟩,
 ⟨some 24, .cp (.t 23), none⟩,
 ⟨some 25, .faddr (.t 4) 0, some (24, true)⟩,
 ⟨some 26, .load 1 false (.t 25), some (24, true)⟩,
 ⟨some 27, .cp (.t 0), some (24, true)⟩,
 ⟨some 28, .cp (.t 3), some (24, true)⟩,
 ⟨some 29, .bin .sub (.t 28) (.c (.s (.int .i64 1))), some (24, true)⟩,
 ⟨some 30, .iaddr 4 (.t 27) (.t 29), some (24, true)⟩,
 ⟨some 31, .faddr (.t 30) 0, some (24, true)⟩,
 ⟨some 32, .load 1 false (.t 31), some (24, true)⟩,
 ⟨some 33, .bin .leq (.t 26) (.t 32), some (24, true)⟩,
 ⟨some 34, .pick (.t 24) (.t 33) (.c (.s (.bool false))), none⟩,
 ⟨some 21, .cp (.t 34), none⟩] (some []))
 (.cond (.t 21)
 (.seq (.region [
 ⟨some 2, .cp (.c (.s (.int .i64 8))), none⟩] (none))
 .ret)
 .skip)))))
 (.seq (.region [
 ⟨some 35, .faddr (.t 4) 1, none⟩,
 ⟨some 36, .load 3 true (.t 35), none⟩,
 ⟨some 37, .call false zpt_ [(.t 36)], none⟩,
 ⟨some 5, .cp (.t 37), none⟩] (none))
 (.seq (.region [
 ⟨some 38, .cp (.t 5), none⟩,
 ⟨some 39, .bin .neq (.t 38) (.c (.s (.int .i64 0))), none⟩] (none))
 (.cond (.t 39)
 (.seq (.region [
 ⟨some 40, .cp (.t 5), none⟩,
 ⟨some 2, .cp (.t 40), none⟩] (none))
 .ret)
 .skip))))))
 (.region [
 ⟨some 41, .bin .add (.t 11) (.c (.s (.int .i64 1))), none⟩,
 ⟨some 11, .cp (.t 41), none⟩] (none)))))
def zgr_ : XF := { np := 1, results := [(.inl 2, .v)], body :=
 (.seq (.region [
 ⟨some 2, .cp (.c (.s (.int .i64 0))), none⟩] (none))
 (.seq (.seq (.region [
 ⟨some 6, .cp (.t 0), none⟩,
 ⟨some 7, .len false (.t 6), none⟩,
 ⟨some 8, .bin .gtr (.t 7) (.c (.s (.int .i64 32))), none⟩] (none))
 (.cond (.t 8)
 (.seq (.region [
 ⟨some 2, .cp (.c (.s (.int .i64 6))), none⟩] (none))
 .ret)
 .skip))
 (.seq (.seq (.region [
 ⟨some 9, .cp (.t 0), none⟩,
 ⟨some 10, .len false (.t 9), none⟩,
 ⟨some 11, .cp (.c (.s (.int .i64 0))), none⟩] (none))
 (.block 0
 (.loop zdy_)))
 (.seq (.region [
 ⟨some 2, .cp (.c (.s (.int .i64 0))), none⟩] (none))
 .ret)))) }
def zfb_ : XC :=
 (.seq (.region [
 ⟨some 11, .bin .lss (.t 10) (.t 9), none⟩] (none))
 (.seq (.cond (.t 11)
 .skip
 (.exit 0))
 (.seq (.block 1
 (.seq (.region [
 ⟨some 12, .cp (.t 10), none⟩,
 ⟨some 13, .iaddr 2 (.t 8) (.t 10), none⟩,
 ⟨some 14, .load 2 true (.t 13), none⟩,
 ⟨some 4, .alloc [.s (.int .i64 0), .s (.int .i64 0)], none⟩,
 ⟨some 3, .cp (.t 12), none⟩,
 ⟨none, .store 2 (.t 4) (.t 14), none⟩] (none))
 (.block 2
 (.seq (.region [
 ⟨some 16, .faddr (.t 4) 0, none⟩,
 ⟨some 17, .load 1 false (.t 16), none⟩,
 ⟨some 18, .call false zgg_ [(.t 17)], none⟩,
 ⟨some 19, .cp (.t 18), none⟩,
 ⟨some 20, .faddr (.t 4) 1, some (19, false)⟩,
 ⟨some 21, .load 1 false (.t 20), some (19, false)⟩,
 ⟨some 22, .call false zgg_ [(.t 21)], some (19, false)⟩,
 ⟨some 23, .pick (.t 19) (.c (.s (.bool true))) (.t 22), none⟩,
 ⟨some 15, .cp (.t 23), none⟩] (none))
 (.cond (.t 15)
 (.seq (.region [
 ⟨some 2, .cp (.c (.s (.int .i64 2))), none⟩] (none))
 .ret)
 (.seq (.region [
 ⟨some 25, .cp (.t 3), none⟩,
 ⟨some 26, .bin .gtr (.t 25) (.c (.s (.int .i64 0))), none⟩,
 ⟨some 27, .cp (.t 26), none⟩,
 ⟨some 28, .cp (.t 0), some (27, true)⟩,
 ⟨some 29, .cp (.t 3), some (27, true)⟩,
 ⟨some 30, .bin .sub (.t 29) (.c (.s (.int .i64 1))), some (27, true)⟩,
 ⟨some 31, .iaddr 2 (.t 28) (.t 30), some (27, true)⟩,
 ⟨some 32, .load 2 true (.t 31), some (27, true)⟩,
 ⟨some 33, .load 2 true (.t 4), some (27, true)⟩,
 ⟨some 34, .call false zgf_ [(.t 32), (.t 33)], some (27, true)⟩,
 ⟨some 35, .bin .geq (.t 34) (.c (.s (.int .i64 0))), some (27, true)⟩,
 ⟨some 36, .pick (.t 27) (.t 35) (.c (.s (.bool false))), none⟩,
 ⟨some 24, .cp (.t 36), none⟩] (some []))
 (.cond (.t 24)
 (.seq (.region [
 ⟨some 2, .cp (.c (.s (.int .i64 8))), none⟩] (none))
 .ret)
 .skip)))))))
 (.region [
 ⟨some 37, .bin .add (.t 10) (.c (.s (.int .i64 1))), none⟩,
 ⟨some 10, .cp (.t 37), none⟩] (none)))))
def zgs_ : XF := { np := 1, results := [(.inl 2, .v)], body :=
 (.seq (.region [
 ⟨some 2, .cp (.c (.s (.int .i64 0))), none⟩] (none))
 (.seq (.seq (.region [
 ⟨some 5, .cp (.t 0), none⟩,
 ⟨some 6, .len false (.t 5), none⟩,
 ⟨some 7, .bin .gtr (.t 6) (.c (.s (.int .i64 16))), none⟩] (none))
 (.cond (.t 7)
 (.seq (.region [
 ⟨some 2, .cp (.c (.s (.int .i64 6))), none⟩] (none))
 .ret)
 .skip))
 (.seq (.seq (.region [
 ⟨some 8, .cp (.t 0), none⟩,
 ⟨some 9, .len false (.t 8), none⟩,
 ⟨some 10, .cp (.c (.s (.int .i64 0))), none⟩] (none))
 (.block 0
 (.loop zfb_)))
 (.seq (.region [
 ⟨some 2, .cp (.c (.s (.int .i64 0))), none⟩] (none))
 .ret)))) }
def zje_ : XF := { np := 1, results := [(.inl 2, .v)], body :=
 (.seq (.region [
 ⟨some 2, .cp (.c (.s (.int .i64 0))), none⟩] (none))
 (.seq (.region [
 ⟨some 3, .cp (.t 0), none⟩,
 ⟨some 4, .bin .shr (.t 3) (.c (.s (.int .u64 20))), none⟩,
 ⟨some 2, .cp (.t 4), none⟩] (none))
 .ret)) }
def zas_ : XF := { np := 1, results := [(.inl 2, .v)], body :=
 (.seq (.region [
 ⟨some 1, .box false (.t 0), none⟩,
 ⟨some 2, .cp (.c (.s (.int .i64 0))), none⟩] (none))
 (.seq (.region [
 ⟨some 3, .cp (.c (.s (.bool false))), none⟩] (none))
 (.seq (.seq (.region [
 ⟨some 4, .faddr (.t 1) 0, none⟩,
 ⟨some 5, .load 1 false (.t 4), none⟩] (none))
 (.block 0
 (.seq (.region [
 ⟨some 7, .bin .eql (.t 5) (.c (.s (.int .i64 1))), none⟩,
 ⟨some 6, .cp (.t 7), none⟩] (none))
 (.cond (.t 6)
 (.region [
 ⟨some 8, .faddr (.t 1) 1, none⟩,
 ⟨some 9, .load 1 false (.t 8), none⟩,
 ⟨some 10, .call false zlw_ [(.t 9), (.c (.s (.int .u8 32))), (.c (.s (.int .u8 126)))], none⟩,
 ⟨some 11, .cp (.t 10), none⟩,
 ⟨some 12, .faddr (.t 1) 2, some (11, true)⟩,
 ⟨some 13, .load 1 false (.t 12), some (11, true)⟩,
 ⟨some 14, .bin .eql (.t 13) (.c (.s (.int .i64 0))), some (11, true)⟩,
 ⟨some 15, .pick (.t 11) (.t 14) (.c (.s (.bool false))), none⟩,
 ⟨some 3, .cp (.t 15), none⟩] (none))
 (.seq (.region [
 ⟨some 17, .bin .eql (.t 5) (.c (.s (.int .i64 2))), none⟩,
 ⟨some 16, .cp (.t 17), none⟩] (none))
 (.cond (.t 16)
 (.region [
 ⟨some 18, .faddr (.t 1) 1, none⟩,
 ⟨some 19, .load 1 false (.t 18), none⟩,
 ⟨some 20, .bin .eql (.t 19) (.c (.s (.string ⟨#[]⟩))), none⟩,
 ⟨some 21, .cp (.t 20), none⟩,
 ⟨some 22, .faddr (.t 1) 2, some (21, true)⟩,
 ⟨some 23, .load 1 false (.t 22), some (21, true)⟩,
 ⟨some 24, .bin .geq (.t 23) (.c (.s (.int .i64 (-1099511627776)))), some (21, true)⟩,
 ⟨some 25, .pick (.t 21) (.t 24) (.c (.s (.bool false))), none⟩,
 ⟨some 26, .cp (.t 25), none⟩,
 ⟨some 27, .faddr (.t 1) 2, some (26, true)⟩,
 ⟨some 28, .load 1 false (.t 27), some (26, true)⟩,
 ⟨some 29, .bin .leq (.t 28) (.c (.s (.int .i64 1099511627776))), some (26, true)⟩,
 ⟨some 30, .pick (.t 26) (.t 29) (.c (.s (.bool false))), none⟩,
 ⟨some 3, .cp (.t 30), none⟩] (none))
 (.seq (.region [
 ⟨some 32, .bin .eql (.t 5) (.c (.s (.int .i64 3))), none⟩,
 ⟨some 31, .cp (.t 32), none⟩] (none))
 (.cond (.t 31)
 (.region [
 ⟨some 33, .faddr (.t 1) 1, none⟩,
 ⟨some 34, .load 1 false (.t 33), none⟩,
 ⟨some 35, .bin .eql (.t 34) (.c (.s (.string ⟨#[]⟩))), none⟩,
 ⟨some 36, .cp (.t 35), none⟩,
 ⟨some 37, .faddr (.t 1) 2, some (36, true)⟩,
 ⟨some 38, .load 1 false (.t 37), some (36, true)⟩,
 ⟨some 39, .bin .eql (.t 38) (.c (.s (.int .i64 0))), some (36, true)⟩,
 ⟨some 40, .cp (.t 39), some (36, true)⟩,
 ⟨some 41, .faddr (.t 1) 2, some (40, false)⟩,
 ⟨some 42, .load 1 false (.t 41), some (40, false)⟩,
 ⟨some 43, .bin .eql (.t 42) (.c (.s (.int .i64 1))), some (40, false)⟩,
 ⟨some 44, .pick (.t 40) (.c (.s (.bool true))) (.t 43), some (36, true)⟩,
 ⟨some 45, .pick (.t 36) (.t 44) (.c (.s (.bool false))), none⟩,
 ⟨some 3, .cp (.t 45), none⟩] (none))
 (.seq (.region [
 ⟨some 2, .cp (.c (.s (.int .i64 12))), none⟩] (none))
 .ret)))))))))
 (.seq (.block 1
 (.seq (.region [
 ⟨some 47, .faddr (.t 1) 1, none⟩,
 ⟨some 48, .load 1 false (.t 47), none⟩,
 ⟨some 49, .len true (.t 48), none⟩,
 ⟨some 50, .bin .gtr (.t 49) (.c (.s (.int .i64 4096))), none⟩,
 ⟨some 46, .cp (.t 50), none⟩] (none))
 (.cond (.t 46)
 (.seq (.region [
 ⟨some 2, .cp (.c (.s (.int .i64 5))), none⟩] (none))
 .ret)
 (.seq (.region [
 ⟨some 52, .cp (.t 3), none⟩,
 ⟨some 53, .un .not (.t 52), none⟩,
 ⟨some 51, .cp (.t 53), none⟩] (none))
 (.cond (.t 51)
 (.seq (.region [
 ⟨some 2, .cp (.c (.s (.int .i64 3))), none⟩] (none))
 .ret)
 .skip)))))
 (.seq (.region [
 ⟨some 2, .cp (.c (.s (.int .i64 0))), none⟩] (none))
 .ret))))) }
def zjf_ : XF := { np := 2, results := [(.inl 4, .v)], body :=
 (.seq (.region [
 ⟨some 2, .box false (.t 0), none⟩,
 ⟨some 3, .box false (.t 1), none⟩,
 ⟨some 4, .cp (.c (.s (.int .i64 0))), none⟩] (none))
 (.seq (.region [
 ⟨some 5, .faddr (.t 2) 0, none⟩,
 ⟨some 6, .load 1 false (.t 5), none⟩,
 ⟨some 7, .faddr (.t 3) 0, none⟩,
 ⟨some 8, .load 1 false (.t 7), none⟩,
 ⟨some 9, .call false zcx_ [(.t 6), (.t 8)], none⟩,
 ⟨some 10, .faddr (.t 2) 1, none⟩,
 ⟨some 11, .load 1 false (.t 10), none⟩,
 ⟨some 12, .faddr (.t 3) 1, none⟩,
 ⟨some 13, .load 1 false (.t 12), none⟩,
 ⟨some 14, .call false zdv_ [(.t 11), (.t 13)], none⟩,
 ⟨some 15, .faddr (.t 2) 2, none⟩,
 ⟨some 16, .load 1 false (.t 15), none⟩,
 ⟨some 17, .faddr (.t 3) 2, none⟩,
 ⟨some 18, .load 1 false (.t 17), none⟩,
 ⟨some 19, .call false zcx_ [(.t 16), (.t 18)], none⟩,
 ⟨some 20, .bslice false 1 [(.t 9), (.t 14), (.t 19)], none⟩,
 ⟨some 21, .call false zgi_ [(.t 20)], none⟩,
 ⟨some 4, .cp (.t 21), none⟩] (some [(4, none), (9, some 11), (9, some 13)]))
 .ret)) }
def zqy_ : XF := { np := 2, results := [(.inl 4, .v)], body :=
 (.seq (.region [
 ⟨some 4, .cp (.c (.s (.bool false))), none⟩] (none))
 (.seq (.region [
 ⟨some 5, .cp (.t 0), none⟩,
 ⟨some 6, .cp (.t 1), none⟩,
 ⟨some 7, .call false zbuq_ [(.t 5), (.t 6)], none⟩,
 ⟨some 4, .cp (.t 7), none⟩] (none))
 .ret)) }
def zmr_ : XC :=
 (.seq (.region [
 ⟨some 9, .bin .lss (.t 8) (.t 7), none⟩] (none))
 (.seq (.cond (.t 9)
 .skip
 (.exit 0))
 (.seq (.block 1
 (.seq (.region [
 ⟨some 10, .iaddr 1 (.t 6) (.t 8), none⟩,
 ⟨some 11, .load 1 false (.t 10), none⟩,
 ⟨some 5, .cp (.t 11), none⟩] (none))
 (.seq (.region [
 ⟨some 12, .cp (.t 5), none⟩,
 ⟨some 13, .cp (.t 3), none⟩,
 ⟨some 14, .bin .neq (.t 12) (.t 13), none⟩] (none))
 (.cond (.t 14)
 (.seq (.region [
 ⟨some 15, .cp (.t 5), none⟩,
 ⟨some 2, .cp (.t 15), none⟩] (none))
 .ret)
 .skip))))
 (.region [
 ⟨some 16, .bin .add (.t 8) (.c (.s (.int .i64 1))), none⟩,
 ⟨some 8, .cp (.t 16), none⟩] (none)))))
def zjg_ : XF := { np := 1, results := [(.inl 2, .v)], body :=
 (.seq (.region [
 ⟨some 2, .cp (.c (.s (.int .i64 0))), none⟩] (none))
 (.seq (.region [
 ⟨some 3, .cp (.c (.s (.int .i64 0))), none⟩] (none))
 (.seq (.seq (.region [
 ⟨some 6, .cp (.t 0), none⟩,
 ⟨some 7, .len false (.t 6), none⟩,
 ⟨some 8, .cp (.c (.s (.int .i64 0))), none⟩] (none))
 (.block 0
 (.loop zmr_)))
 (.seq (.region [
 ⟨some 17, .cp (.t 3), none⟩,
 ⟨some 2, .cp (.t 17), none⟩] (none))
 .ret)))) }
def zms_ : XC :=
 (.seq (.region [
 ⟨some 12, .bin .lss (.t 11) (.t 10), none⟩] (none))
 (.seq (.cond (.t 12)
 .skip
 (.exit 0))
 (.seq (.block 1
 (.seq (.region [
 ⟨some 13, .cp (.t 11), none⟩,
 ⟨some 14, .iaddr 1 (.t 9) (.t 11), none⟩,
 ⟨some 15, .load 1 false (.t 14), none⟩,
 ⟨some 5, .cp (.t 13), none⟩,
 ⟨some 6, .cp (.t 15), none⟩] (none))
 (.seq (.seq (.region [
 ⟨some 16, .cp (.t 5), none⟩,
 ⟨some 17, .cp (.t 1), none⟩,
 ⟨some 18, .len false (.t 17), none⟩,
 ⟨some 19, .bin .geq (.t 16) (.t 18), none⟩] (none))
 (.cond (.t 19)
 (.seq (.region [
 ⟨some 4, .cp (.c (.s (.int .i64 1))), none⟩] (none))
 .ret)
 .skip))
 (.seq (.region [
 ⟨some 20, .cp (.t 1), none⟩,
 ⟨some 21, .cp (.t 5), none⟩,
 ⟨some 22, .iaddr 1 (.t 20) (.t 21), none⟩,
 ⟨some 23, .load 1 false (.t 22), none⟩,
 ⟨some 7, .cp (.t 23), none⟩] (none))
 (.seq (.region [
 ⟨some 24, .cp (.t 6), none⟩,
 ⟨some 25, .cp (.t 7), none⟩,
 ⟨some 26, .call false zcx_ [(.t 24), (.t 25)], none⟩,
 ⟨some 8, .cp (.t 26), none⟩] (none))
 (.seq (.region [
 ⟨some 27, .cp (.t 8), none⟩,
 ⟨some 28, .bin .neq (.t 27) (.c (.s (.int .i64 0))), none⟩] (none))
 (.cond (.t 28)
 (.seq (.region [
 ⟨some 29, .cp (.t 8), none⟩,
 ⟨some 4, .cp (.t 29), none⟩] (none))
 .ret)
 .skip)))))))
 (.region [
 ⟨some 30, .bin .add (.t 11) (.c (.s (.int .i64 1))), none⟩,
 ⟨some 11, .cp (.t 30), none⟩] (none)))))
def zjh_ : XF := { np := 2, results := [(.inl 4, .v)], body :=
 (.seq (.region [
 ⟨some 4, .cp (.c (.s (.int .i64 0))), none⟩] (none))
 (.seq (.seq (.region [
 ⟨some 9, .cp (.t 0), none⟩,
 ⟨some 10, .len false (.t 9), none⟩,
 ⟨some 11, .cp (.c (.s (.int .i64 0))), none⟩] (none))
 (.block 0
 (.loop zms_)))
 (.seq (.seq (.region [
 ⟨some 31, .cp (.t 0), none⟩,
 ⟨some 32, .len false (.t 31), none⟩,
 ⟨some 33, .cp (.t 1), none⟩,
 ⟨some 34, .len false (.t 33), none⟩,
 ⟨some 35, .bin .lss (.t 32) (.t 34), none⟩] (none))
 (.cond (.t 35)
 (.seq (.region [
 ⟨some 4, .cp (.c (.s (.int .i64 (-1)))), none⟩] (none))
 .ret)
 .skip))
 (.seq (.region [
 ⟨some 4, .cp (.c (.s (.int .i64 0))), none⟩] (none))
 .ret)))) }
def zfc_ : XF := { np := 2, results := [(.inl 4, .v)], body :=
 (.seq (.region [
 ⟨some 4, .cp (.c (.s (.int .i64 0))), none⟩] (none))
 (.seq (.region [
 ⟨some 7, .cp (.t 0), none⟩,
 ⟨some 8, .call false zmb_ [(.t 7)], none⟩,
 ⟨some 5, .cp (.t 8), none⟩] (none))
 (.seq (.region [
 ⟨some 9, .cp (.t 1), none⟩,
 ⟨some 10, .call false zmb_ [(.t 9)], none⟩,
 ⟨some 6, .cp (.t 10), none⟩] (none))
 (.seq (.seq (.region [
 ⟨some 11, .cp (.t 5), none⟩] (none))
 (.cond (.t 11)
 (.seq (.seq (.region [
 ⟨some 12, .cp (.t 6), none⟩] (none))
 (.cond (.t 12)
 (.seq (.region [
 ⟨some 4, .cp (.c (.s (.int .i64 0))), none⟩] (none))
 .ret)
 .skip))
 (.seq (.region [
 ⟨some 4, .cp (.c (.s (.int .i64 (-1)))), none⟩] (none))
 .ret))
 .skip))
 (.seq (.seq (.region [
 ⟨some 13, .cp (.t 6), none⟩] (none))
 (.cond (.t 13)
 (.seq (.region [
 ⟨some 4, .cp (.c (.s (.int .i64 1))), none⟩] (none))
 .ret)
 .skip))
 (.seq (.seq (.region [
 ⟨some 14, .cp (.t 0), none⟩,
 ⟨some 15, .cp (.t 1), none⟩,
 ⟨some 16, .bin .lss (.t 14) (.t 15), none⟩] (none))
 (.cond (.t 16)
 (.seq (.region [
 ⟨some 4, .cp (.c (.s (.int .i64 (-1)))), none⟩] (none))
 .ret)
 .skip))
 (.seq (.seq (.region [
 ⟨some 17, .cp (.t 0), none⟩,
 ⟨some 18, .cp (.t 1), none⟩,
 ⟨some 19, .bin .gtr (.t 17) (.t 18), none⟩] (none))
 (.cond (.t 19)
 (.seq (.region [
 ⟨some 4, .cp (.c (.s (.int .i64 1))), none⟩] (none))
 .ret)
 .skip))
 (.seq (.region [
 ⟨some 4, .cp (.c (.s (.int .i64 0))), none⟩] (none))
 .ret)))))))) }
def zgt_ : XF := { np := 2, results := [(.inl 4, .v)], body :=
 (.seq (.region [
 ⟨some 4, .cp (.c (.s (.int .i64 0))), none⟩] (none))
 (.seq (.region [
 ⟨some 7, .cp (.t 0), none⟩,
 ⟨some 8, .call false zmc_ [(.t 7)], none⟩,
 ⟨some 5, .cp (.t 8), none⟩] (none))
 (.seq (.region [
 ⟨some 9, .cp (.t 1), none⟩,
 ⟨some 10, .call false zmc_ [(.t 9)], none⟩,
 ⟨some 6, .cp (.t 10), none⟩] (none))
 (.seq (.seq (.region [
 ⟨some 11, .cp (.t 5), none⟩] (none))
 (.cond (.t 11)
 (.seq (.seq (.region [
 ⟨some 12, .cp (.t 6), none⟩] (none))
 (.cond (.t 12)
 (.seq (.region [
 ⟨some 4, .cp (.c (.s (.int .i64 0))), none⟩] (none))
 .ret)
 .skip))
 (.seq (.region [
 ⟨some 4, .cp (.c (.s (.int .i64 (-1)))), none⟩] (none))
 .ret))
 .skip))
 (.seq (.seq (.region [
 ⟨some 13, .cp (.t 6), none⟩] (none))
 (.cond (.t 13)
 (.seq (.region [
 ⟨some 4, .cp (.c (.s (.int .i64 1))), none⟩] (none))
 .ret)
 .skip))
 (.seq (.seq (.region [
 ⟨some 14, .cp (.t 0), none⟩,
 ⟨some 15, .cp (.t 1), none⟩,
 ⟨some 16, .bin .lss (.t 14) (.t 15), none⟩] (none))
 (.cond (.t 16)
 (.seq (.region [
 ⟨some 4, .cp (.c (.s (.int .i64 (-1)))), none⟩] (none))
 .ret)
 .skip))
 (.seq (.seq (.region [
 ⟨some 17, .cp (.t 0), none⟩,
 ⟨some 18, .cp (.t 1), none⟩,
 ⟨some 19, .bin .gtr (.t 17) (.t 18), none⟩] (none))
 (.cond (.t 19)
 (.seq (.region [
 ⟨some 4, .cp (.c (.s (.int .i64 1))), none⟩] (none))
 .ret)
 .skip))
 (.seq (.region [
 ⟨some 4, .cp (.c (.s (.int .i64 0))), none⟩] (none))
 .ret)))))))) }
def zji_ : XF := { np := 2, results := [(.inl 4, .v)], body :=
 (.seq (.region [
 ⟨some 4, .cp (.c (.s (.int .i64 0))), none⟩] (none))
 (.seq (.region [
 ⟨some 5, .cp (.t 0), none⟩,
 ⟨some 6, .cp (.t 1), none⟩,
 ⟨some 7, .call false zqi_ [(.t 5), (.t 6), (.c (.fn zhy_ [] []))], none⟩,
 ⟨some 4, .cp (.t 7), none⟩] (none))
 .ret)) }
def zgu_ : XC :=
 (.seq (.region [
 ⟨some 14, .bin .lss (.t 13) (.t 12), none⟩] (none))
 (.seq (.cond (.t 14)
 .skip
 (.exit 0))
 (.seq (.block 1
 (.seq (.region [
 ⟨some 15, .cp (.t 13), none⟩,
 ⟨some 16, .iaddr 2 (.t 11) (.t 13), none⟩,
 ⟨some 17, .load 2 true (.t 16), none⟩,
 ⟨some 8, .alloc [.s (.int .i64 0), .s (.int .i64 0)], none⟩,
 ⟨some 7, .cp (.t 15), none⟩,
 ⟨none, .store 2 (.t 8) (.t 17), none⟩] (none))
 (.seq (.seq (.region [
 ⟨some 18, .cp (.t 7), none⟩,
 ⟨some 19, .cp (.t 1), none⟩,
 ⟨some 20, .len false (.t 19), none⟩,
 ⟨some 21, .bin .geq (.t 18) (.t 20), none⟩] (none))
 (.cond (.t 21)
 (.seq (.region [
 ⟨some 6, .cp (.c (.s (.int .i64 1))), none⟩] (none))
 .ret)
 .skip))
 (.seq (.region [
 ⟨some 22, .cp (.t 1), none⟩,
 ⟨some 23, .cp (.t 7), none⟩,
 ⟨some 24, .iaddr 2 (.t 22) (.t 23), none⟩,
 ⟨some 25, .load 2 true (.t 24), none⟩,
 ⟨some 9, .alloc [.s (.int .i64 0), .s (.int .i64 0)], none⟩,
 ⟨none, .store 2 (.t 9) (.t 25), none⟩] (none))
 (.seq (.region [
 ⟨some 26, .cp (.t 2), none⟩,
 ⟨some 27, .load 2 true (.t 8), none⟩,
 ⟨some 28, .load 2 true (.t 9), none⟩,
 ⟨some 29, .callv false (.t 26) [(.t 27), (.t 28)], none⟩,
 ⟨some 10, .cp (.t 29), none⟩] (none))
 (.seq (.region [
 ⟨some 30, .cp (.t 10), none⟩,
 ⟨some 31, .bin .neq (.t 30) (.c (.s (.int .i64 0))), none⟩] (none))
 (.cond (.t 31)
 (.seq (.region [
 ⟨some 32, .cp (.t 10), none⟩,
 ⟨some 6, .cp (.t 32), none⟩] (none))
 .ret)
 .skip)))))))
 (.region [
 ⟨some 33, .bin .add (.t 13) (.c (.s (.int .i64 1))), none⟩,
 ⟨some 13, .cp (.t 33), none⟩] (none)))))
def zjj_ : XF := { np := 3, results := [(.inl 6, .v)], body :=
 (.seq (.region [
 ⟨some 6, .cp (.c (.s (.int .i64 0))), none⟩] (none))
 (.seq (.seq (.region [
 ⟨some 11, .cp (.t 0), none⟩,
 ⟨some 12, .len false (.t 11), none⟩,
 ⟨some 13, .cp (.c (.s (.int .i64 0))), none⟩] (none))
 (.block 0
 (.loop zgu_)))
 (.seq (.seq (.region [
 ⟨some 34, .cp (.t 0), none⟩,
 ⟨some 35, .len false (.t 34), none⟩,
 ⟨some 36, .cp (.t 1), none⟩,
 ⟨some 37, .len false (.t 36), none⟩,
 ⟨some 38, .bin .lss (.t 35) (.t 37), none⟩] (none))
 (.cond (.t 38)
 (.seq (.region [
 ⟨some 6, .cp (.c (.s (.int .i64 (-1)))), none⟩] (none))
 .ret)
 .skip))
 (.seq (.region [
 ⟨some 6, .cp (.c (.s (.int .i64 0))), none⟩] (none))
 .ret)))) }
def zjk_ : XF := { np := 2, results := [(.inl 4, .v)], body :=
 (.seq (.region [
 ⟨some 2, .box false (.t 0), none⟩,
 ⟨some 3, .box false (.t 1), none⟩,
 ⟨some 4, .cp (.c (.s (.int .i64 0))), none⟩] (none))
 (.seq (.region [
 ⟨some 5, .faddr (.t 2) 0, none⟩,
 ⟨some 6, .load 1 false (.t 5), none⟩,
 ⟨some 7, .faddr (.t 3) 0, none⟩,
 ⟨some 8, .load 1 false (.t 7), none⟩,
 ⟨some 9, .call false zcx_ [(.t 6), (.t 8)], none⟩,
 ⟨some 10, .faddr (.t 2) 1, none⟩,
 ⟨some 11, .load 1 false (.t 10), none⟩,
 ⟨some 12, .faddr (.t 3) 1, none⟩,
 ⟨some 13, .load 1 false (.t 12), none⟩,
 ⟨some 14, .call false zcx_ [(.t 11), (.t 13)], none⟩,
 ⟨some 15, .bslice false 1 [(.t 9), (.t 14)], none⟩,
 ⟨some 16, .call false zgi_ [(.t 15)], none⟩,
 ⟨some 4, .cp (.t 16), none⟩] (some [(4, some 6), (4, some 8)]))
 .ret)) }
def zgv_ : XF := { np := 1, results := [(.inl 2, .v)], body :=
 (.seq (.region [
 ⟨some 2, .cp (.c (.s (.slice none 0 0))), none⟩] (none))
 (.seq (.seq (.region [
 ⟨some 3, .cp (.t 0), none⟩,
 ⟨some 4, .eqv .s false (.t 3) (.c (.s (.slice none 0 0))), none⟩] (none))
 (.cond (.t 4)
 (.seq (.region [
 ⟨some 2, .cp (.c (.s (.slice none 0 0))), none⟩] (none))
 .ret)
 .skip))
 (.seq (.region [
 ⟨some 5, .bslice true 4 [], none⟩,
 ⟨some 6, .cp (.t 0), none⟩,
 ⟨some 7, .append 4 2932031007402 (.t 5) (.t 6), none⟩,
 ⟨some 2, .cp (.t 7), none⟩] (none))
 .ret))) }
def zgw_ : XF := { np := 1, results := [(.inl 2, .v)], body :=
 (.seq (.region [
 ⟨some 2, .cp (.c (.s (.slice none 0 0))), none⟩] (none))
 (.seq (.seq (.region [
 ⟨some 3, .cp (.t 0), none⟩,
 ⟨some 4, .eqv .s false (.t 3) (.c (.s (.slice none 0 0))), none⟩] (none))
 (.cond (.t 4)
 (.seq (.region [
 ⟨some 2, .cp (.c (.s (.slice none 0 0))), none⟩] (none))
 .ret)
 .skip))
 (.seq (.region [
 ⟨some 5, .bslice true 2 [], none⟩,
 ⟨some 6, .cp (.t 0), none⟩,
 ⟨some 7, .append 2 8796093022208 (.t 5) (.t 6), none⟩,
 ⟨some 2, .cp (.t 7), none⟩] (none))
 .ret))) }
def zmt_ : XC :=
 (.seq (.region [
 ⟨some 9, .bin .lss (.t 8) (.t 7), none⟩] (none))
 (.seq (.cond (.t 9)
 .skip
 (.exit 0))
 (.seq (.block 1
 (.seq (.region [
 ⟨some 10, .cp (.t 8), none⟩,
 ⟨some 5, .cp (.t 10), none⟩] (none))
 (.seq (.region [
 ⟨some 11, .cp (.t 1), none⟩,
 ⟨some 12, .cp (.t 0), none⟩,
 ⟨some 13, .cp (.t 5), none⟩,
 ⟨some 14, .iaddr 14 (.t 12) (.t 13), none⟩,
 ⟨some 15, .load 14 true (.t 14), none⟩,
 ⟨some 16, .callv false (.t 11) [(.t 15)], none⟩] (none))
 (.cond (.t 16)
 (.seq (.region [
 ⟨some 17, .cp (.t 5), none⟩,
 ⟨some 4, .cp (.t 17), none⟩] (none))
 .ret)
 .skip))))
 (.region [
 ⟨some 18, .bin .add (.t 8) (.c (.s (.int .i64 1))), none⟩,
 ⟨some 8, .cp (.t 18), none⟩] (none)))))
def zjl_ : XF := { np := 2, results := [(.inl 4, .v)], body :=
 (.seq (.region [
 ⟨some 4, .cp (.c (.s (.int .i64 0))), none⟩] (none))
 (.seq (.seq (.region [
 ⟨some 6, .cp (.t 0), none⟩,
 ⟨some 7, .len false (.t 6), none⟩,
 ⟨some 8, .cp (.c (.s (.int .i64 0))), none⟩] (none))
 (.block 0
 (.loop zmt_)))
 (.seq (.region [
 ⟨some 4, .cp (.c (.s (.int .i64 (-1)))), none⟩] (none))
 .ret))) }
def zxm_ : XF := { np := 2, results := [], body := .skip, nat := some (.none) }
def zmu_ : XC :=
 (.seq (.seq (.region [
 ⟨some 32, .cp (.t 7), none⟩,
 ⟨some 33, .cp (.t 6), none⟩,
 ⟨some 34, .len false (.t 33), none⟩,
 ⟨some 35, .bin .lss (.t 32) (.t 34), none⟩] (none))
 (.cond (.t 35)
 .skip
 (.exit 2)))
 (.seq (.block 3
 (.seq (.region [
 ⟨some 38, .cp (.t 1), none⟩,
 ⟨some 39, .cp (.t 6), none⟩,
 ⟨some 40, .cp (.t 7), none⟩,
 ⟨some 41, .iaddr 14 (.t 39) (.t 40), none⟩,
 ⟨some 42, .load 14 true (.t 41), none⟩,
 ⟨some 43, .cp (.t 6), none⟩,
 ⟨some 44, .cp (.t 7), none⟩,
 ⟨some 45, .bin .sub (.t 44) (.c (.s (.int .i64 1))), none⟩,
 ⟨some 46, .iaddr 14 (.t 43) (.t 45), none⟩,
 ⟨some 47, .load 14 true (.t 46), none⟩,
 ⟨some 48, .callv false (.t 38) [(.t 42), (.t 47)], none⟩,
 ⟨some 49, .un .not (.t 48), none⟩] (some []))
 (.cond (.t 49)
 (.seq (.region [
 ⟨some 50, .cp (.t 0), none⟩,
 ⟨some 51, .cp (.t 5), none⟩,
 ⟨some 52, .cp (.t 6), none⟩,
 ⟨some 53, .cp (.t 7), none⟩,
 ⟨some 54, .iaddr 14 (.t 52) (.t 53), none⟩,
 ⟨some 55, .load 14 true (.t 54), none⟩,
 ⟨some 56, .iaddr 14 (.t 50) (.t 51), none⟩,
 ⟨none, .store 14 (.t 56) (.t 55), none⟩] (none))
 (.region [
 ⟨some 57, .cp (.t 5), none⟩,
 ⟨some 58, .bin .add (.t 57) (.c (.s (.int .i64 1))), none⟩,
 ⟨some 5, .cp (.t 58), none⟩] (none)))
 .skip)))
 (.region [
 ⟨some 36, .cp (.t 7), none⟩,
 ⟨some 37, .bin .add (.t 36) (.c (.s (.int .i64 1))), none⟩,
 ⟨some 7, .cp (.t 37), none⟩] (none))))
def zmv_ : XC :=
 (.seq (.seq (.region [
 ⟨some 12, .cp (.t 5), none⟩,
 ⟨some 13, .cp (.t 0), none⟩,
 ⟨some 14, .len false (.t 13), none⟩,
 ⟨some 15, .bin .lss (.t 12) (.t 14), none⟩] (none))
 (.cond (.t 15)
 .skip
 (.exit 0)))
 (.seq (.block 1
 (.seq (.region [
 ⟨some 18, .cp (.t 1), none⟩,
 ⟨some 19, .cp (.t 0), none⟩,
 ⟨some 20, .cp (.t 5), none⟩,
 ⟨some 21, .iaddr 14 (.t 19) (.t 20), none⟩,
 ⟨some 22, .load 14 true (.t 21), none⟩,
 ⟨some 23, .cp (.t 0), none⟩,
 ⟨some 24, .cp (.t 5), none⟩,
 ⟨some 25, .bin .sub (.t 24) (.c (.s (.int .i64 1))), none⟩,
 ⟨some 26, .iaddr 14 (.t 23) (.t 25), none⟩,
 ⟨some 27, .load 14 true (.t 26), none⟩,
 ⟨some 28, .callv false (.t 18) [(.t 22), (.t 27)], none⟩] (some []))
 (.cond (.t 28)
 (.seq (.region [
 ⟨some 29, .cp (.t 0), none⟩,
 ⟨some 30, .cp (.t 5), none⟩,
 ⟨some 31, .slLst 14 (.t 29) (some (.t 30)) none, none⟩,
 ⟨some 6, .cp (.t 31), none⟩] (none))
 (.seq (.seq (.region [
 ⟨some 7, .cp (.c (.s (.int .i64 1))), none⟩] (none))
 (.block 2
 (.loop zmu_)))
 (.seq (.region [
 ⟨some 59, .cp (.t 0), none⟩,
 ⟨some 60, .cp (.t 5), none⟩,
 ⟨some 61, .slLst 14 (.t 59) (some (.t 60)) none, none⟩,
 ⟨none, .clear 14 (.agg [.s (.int .i64 0), .s (.int .i64 0), .s (.int .i64 0), .s (.int .i64 0), .s (.int .i64 0), .s (.int .i64 0), .s (.string ⟨#[]⟩), .s (.string ⟨#[]⟩), .s (.string ⟨#[]⟩), .s (.int .i64 0), .s (.int .i64 0), .s (.bool false), .s (.slice none 0 0), .s (.slice none 0 0)]) (.t 61), none⟩] (none))
 (.seq (.region [
 ⟨some 62, .cp (.t 0), none⟩,
 ⟨some 63, .cp (.t 5), none⟩,
 ⟨some 64, .slFrz 14 (.t 62) none (some (.t 63)), none⟩,
 ⟨some 4, .cp (.t 64), none⟩] (none))
 .ret))))
 .skip)))
 (.region [
 ⟨some 16, .cp (.t 5), none⟩,
 ⟨some 17, .bin .add (.t 16) (.c (.s (.int .i64 1))), none⟩,
 ⟨some 5, .cp (.t 17), none⟩] (none))))
def zfd_ : XF := { np := 2, results := [(.inl 4, .v)], body :=
 (.seq (.region [
 ⟨some 4, .cp (.c (.s (.slice none 0 0))), none⟩] (none))
 (.seq (.seq (.region [
 ⟨some 8, .cp (.t 0), none⟩,
 ⟨some 9, .len false (.t 8), none⟩,
 ⟨some 10, .bin .lss (.t 9) (.c (.s (.int .i64 2))), none⟩] (none))
 (.cond (.t 10)
 (.seq (.region [
 ⟨some 11, .cp (.t 0), none⟩,
 ⟨some 4, .cp (.t 11), none⟩] (none))
 .ret)
 .skip))
 (.seq (.seq (.region [
 ⟨some 5, .cp (.c (.s (.int .i64 1))), none⟩] (none))
 (.block 0
 (.loop zmv_)))
 (.seq (.region [
 ⟨some 65, .cp (.t 0), none⟩,
 ⟨some 4, .cp (.t 65), none⟩] (none))
 .ret)))) }
def zgx_ : XF := { np := 2, results := [(.inl 4, .v)], body :=
 (.seq (.region [
 ⟨some 4, .cp (.c (.s (.slice none 0 0))), none⟩] (none))
 (.seq (.region [
 ⟨some 6, .cp (.t 0), none⟩,
 ⟨some 7, .call true zqm_ [(.t 6)], none⟩,
 ⟨some 5, .cp (.t 7), none⟩] (none))
 (.seq (.region [
 ⟨some 8, .cp (.t 5), none⟩,
 ⟨some 9, .cp (.t 1), none⟩,
 ⟨some 10, .call false zmf_ [(.t 8), (.t 9)], none⟩] (none))
 (.seq (.region [
 ⟨some 11, .cp (.t 5), none⟩,
 ⟨some 4, .cp (.t 11), none⟩] (none))
 .ret)))) }
def zgy_ : XF := { np := 1, results := [(.inl 2, .c)], body :=
 (.seq (.region [
 ⟨some 1, .box true (.t 0), none⟩,
 ⟨some 2, .cp (.c (.s .nilFunc)), none⟩] (none))
 (.seq (.region [
 ⟨some 3, .mkfn false zbx_ [] [(.t 1)], none⟩,
 ⟨some 2, .cp (.t 3), none⟩] (none))
 .ret)) }
def zjm_ : XF := { np := 2, results := [(.inl 4, .v)], body :=
 (.seq (.region [
 ⟨some 2, .box false (.t 0), none⟩,
 ⟨some 3, .box false (.t 1), none⟩,
 ⟨some 4, .cp (.c (.s (.bool false))), none⟩] (none))
 (.seq (.region [
 ⟨some 5, .load 14 true (.t 2), none⟩,
 ⟨some 6, .load 14 true (.t 3), none⟩,
 ⟨some 7, .call false zds_ [(.t 5), (.t 6)], none⟩,
 ⟨some 8, .bin .eql (.t 7) (.c (.s (.int .i64 0))), none⟩,
 ⟨some 4, .cp (.t 8), none⟩] (none))
 .ret)) }
def zqz_ : XF := { np := 2, results := [(.inl 4, .v), (.inl 5, .v)], body :=
 (.seq (.region [
 ⟨some 4, .cp (.c (.s (.int .i64 0))), none⟩,
 ⟨some 5, .cp (.c (.s (.bool false))), none⟩] (none))
 (.seq (.region [
 ⟨some 6, .cp (.t 0), none⟩,
 ⟨some 7, .cp (.t 1), none⟩,
 ⟨some 8, .call false zbum_ [(.t 6), (.t 7), (.c (.fn zbun_ [] []))], none⟩,
 ⟨some 9, .extract (.t 8) 0, none⟩,
 ⟨some 10, .extract (.t 8) 1, none⟩,
 ⟨some 4, .cp (.t 9), none⟩,
 ⟨some 5, .cp (.t 10), none⟩] (none))
 .ret)) }
def zjn_ : XF := { np := 2, results := [(.inl 4, .v)], body :=
 (.seq (.region [
 ⟨some 4, .cp (.c (.s (.bool false))), none⟩] (none))
 (.seq (.region [
 ⟨some 5, .cp (.t 0), none⟩,
 ⟨some 6, .cp (.t 1), none⟩,
 ⟨some 7, .call false zqh_ [(.t 5), (.t 6)], none⟩,
 ⟨some 8, .bin .geq (.t 7) (.c (.s (.int .i64 0))), none⟩,
 ⟨some 4, .cp (.t 8), none⟩] (none))
 .ret)) }
def zra_ : XF := { np := 1, results := [(.inl 2, .v), (.inl 3, .v)], body :=
 (.seq (.region [
 ⟨some 2, .cp (.c (.s (.string ⟨#[]⟩))), none⟩,
 ⟨some 3, .cp (.c (.s (.int .i64 0))), none⟩] (none))
 (.seq (.seq (.region [
 ⟨some 4, .cp (.t 0), none⟩,
 ⟨some 5, .bin .lss (.t 4) (.c (.s (.int .i64 1))), none⟩,
 ⟨some 6, .cp (.t 5), none⟩,
 ⟨some 7, .cp (.t 0), some (6, false)⟩,
 ⟨some 8, .bin .gtr (.t 7) (.c (.s (.int .i64 5))), some (6, false)⟩,
 ⟨some 9, .pick (.t 6) (.c (.s (.bool true))) (.t 8), none⟩] (none))
 (.cond (.t 9)
 (.seq (.region [
 ⟨some 2, .cp (.c (.s (.string ⟨#[]⟩))), none⟩,
 ⟨some 3, .cp (.c (.s (.int .i64 12))), none⟩] (none))
 .ret)
 .skip))
 (.seq (.region [
 ⟨some 10, .call false zbul_ [], none⟩,
 ⟨some 11, .cp (.t 0), none⟩,
 ⟨some 12, .iaddr 1 (.t 10) (.t 11), none⟩,
 ⟨some 13, .load 1 false (.t 12), none⟩,
 ⟨some 2, .cp (.t 13), none⟩,
 ⟨some 3, .cp (.c (.s (.int .i64 0))), none⟩] (none))
 .ret))) }
def zjo_ : XF := { np := 1, results := [(.inl 2, .v)], body :=
 (.seq (.region [
 ⟨some 1, .box false (.t 0), none⟩,
 ⟨some 2, .cp (.c (.s (.int .i64 0))), none⟩] (none))
 (.seq (.region [
 ⟨some 3, .faddr (.t 1) 10, none⟩,
 ⟨some 4, .load 1 false (.t 3), none⟩,
 ⟨some 5, .faddr (.t 1) 9, none⟩,
 ⟨some 6, .load 1 false (.t 5), none⟩,
 ⟨some 7, .bin .sub (.t 4) (.t 6), none⟩,
 ⟨some 2, .cp (.t 7), none⟩] (none))
 .ret)) }
def zjp_ : XC :=
 (.seq (.region [
 ⟨some 11, .bin .lss (.t 10) (.t 9), none⟩] (none))
 (.seq (.cond (.t 11)
 .skip
 (.exit 0))
 (.seq (.block 1
 (.seq (.region [
 ⟨some 12, .cp (.t 10), none⟩,
 ⟨some 7, .cp (.t 12), none⟩] (none))
 (.seq (.region [
 ⟨some 13, .cp (.t 0), none⟩,
 ⟨some 14, .cp (.t 7), none⟩,
 ⟨some 15, .idxS (.t 13) (.t 14), none⟩,
 ⟨some 16, .cp (.t 1), none⟩,
 ⟨some 17, .bin .lss (.t 15) (.t 16), none⟩,
 ⟨some 18, .cp (.t 17), none⟩,
 ⟨some 19, .cp (.t 0), some (18, false)⟩,
 ⟨some 20, .cp (.t 7), some (18, false)⟩,
 ⟨some 21, .idxS (.t 19) (.t 20), some (18, false)⟩,
 ⟨some 22, .cp (.t 2), some (18, false)⟩,
 ⟨some 23, .bin .gtr (.t 21) (.t 22), some (18, false)⟩,
 ⟨some 24, .pick (.t 18) (.c (.s (.bool true))) (.t 23), none⟩] (none))
 (.cond (.t 24)
 (.seq (.region [
 ⟨some 6, .cp (.c (.s (.bool false))), none⟩] (none))
 .ret)
 .skip))))
 (.region [
 ⟨some 25, .bin .add (.t 10) (.c (.s (.int .i64 1))), none⟩,
 ⟨some 10, .cp (.t 25), none⟩] (none)))))
def zjq_ : XF := { np := 3, results := [(.inl 6, .v)], body :=
 (.seq (.region [
 ⟨some 6, .cp (.c (.s (.bool false))), none⟩] (none))
 (.seq (.seq (.region [
 ⟨some 8, .cp (.t 0), none⟩,
 ⟨some 9, .len true (.t 8), none⟩,
 ⟨some 10, .cp (.c (.s (.int .i64 0))), none⟩] (none))
 (.block 0
 (.loop zjp_)))
 (.seq (.region [
 ⟨some 6, .cp (.c (.s (.bool true))), none⟩] (none))
 .ret))) }
def zrb_ : XF := { np := 2, results := [(.inl 4, .v)], body :=
 (.seq (.region [
 ⟨some 4, .cp (.c (.s (.bool false))), none⟩] (none))
 (.seq (.region [
 ⟨some 5, .cp (.t 0), none⟩,
 ⟨some 6, .len true (.t 5), none⟩,
 ⟨some 7, .cp (.t 1), none⟩,
 ⟨some 8, .len true (.t 7), none⟩,
 ⟨some 9, .bin .geq (.t 6) (.t 8), none⟩,
 ⟨some 10, .cp (.t 9), none⟩,
 ⟨some 11, .cp (.t 0), some (10, true)⟩,
 ⟨some 12, .cp (.t 1), some (10, true)⟩,
 ⟨some 13, .len true (.t 12), some (10, true)⟩,
 ⟨some 14, .slStr (.t 11) none (some (.t 13)), some (10, true)⟩,
 ⟨some 15, .cp (.t 1), some (10, true)⟩,
 ⟨some 16, .bin .eql (.t 14) (.t 15), some (10, true)⟩,
 ⟨some 17, .pick (.t 10) (.t 16) (.c (.s (.bool false))), none⟩,
 ⟨some 4, .cp (.t 17), none⟩] (none))
 .ret)) }
def zjr_ : XF := { np := 1, results := [(.inl 2, .v)], body :=
 (.seq (.region [
 ⟨some 2, .cp (.c (.s (.bool false))), none⟩] (none))
 (.seq (.region [
 ⟨some 3, .cp (.t 0), none⟩,
 ⟨some 4, .cp (.t 0), none⟩,
 ⟨some 5, .bin .neq (.t 3) (.t 4), none⟩,
 ⟨some 2, .cp (.t 5), none⟩] (none))
 .ret)) }
def zjs_ : XF := { np := 1, results := [(.inl 2, .v)], body :=
 (.seq (.region [
 ⟨some 2, .cp (.c (.s (.bool false))), none⟩] (none))
 (.seq (.region [
 ⟨some 3, .cp (.t 0), none⟩,
 ⟨some 4, .cp (.t 0), none⟩,
 ⟨some 5, .bin .neq (.t 3) (.t 4), none⟩,
 ⟨some 2, .cp (.t 5), none⟩] (none))
 .ret)) }
def zgz_ : XC :=
 (.seq (.region [
 ⟨some 14, .bin .lss (.t 13) (.t 12), none⟩] (none))
 (.seq (.cond (.t 14)
 .skip
 (.exit 0))
 (.seq (.block 1
 (.seq (.region [
 ⟨some 15, .cp (.t 13), none⟩,
 ⟨some 16, .iaddr 4 (.t 11) (.t 13), none⟩,
 ⟨some 17, .load 4 true (.t 16), none⟩,
 ⟨some 8, .alloc [.s (.string ⟨#[]⟩), .s (.int .i64 0), .s (.string ⟨#[]⟩), .s (.int .i64 0)], none⟩,
 ⟨some 7, .cp (.t 15), none⟩,
 ⟨none, .store 4 (.t 8) (.t 17), none⟩] (none))
 (.seq (.seq (.region [
 ⟨some 18, .cp (.t 7), none⟩,
 ⟨some 19, .cp (.t 1), none⟩,
 ⟨some 20, .len false (.t 19), none⟩,
 ⟨some 21, .bin .geq (.t 18) (.t 20), none⟩] (none))
 (.cond (.t 21)
 (.seq (.region [
 ⟨some 6, .cp (.c (.s (.int .i64 1))), none⟩] (none))
 .ret)
 .skip))
 (.seq (.region [
 ⟨some 22, .cp (.t 1), none⟩,
 ⟨some 23, .cp (.t 7), none⟩,
 ⟨some 24, .iaddr 4 (.t 22) (.t 23), none⟩,
 ⟨some 25, .load 4 true (.t 24), none⟩,
 ⟨some 9, .alloc [.s (.string ⟨#[]⟩), .s (.int .i64 0), .s (.string ⟨#[]⟩), .s (.int .i64 0)], none⟩,
 ⟨none, .store 4 (.t 9) (.t 25), none⟩] (none))
 (.seq (.region [
 ⟨some 26, .cp (.t 2), none⟩,
 ⟨some 27, .load 4 true (.t 8), none⟩,
 ⟨some 28, .load 4 true (.t 9), none⟩,
 ⟨some 29, .callv false (.t 26) [(.t 27), (.t 28)], none⟩,
 ⟨some 10, .cp (.t 29), none⟩] (none))
 (.seq (.region [
 ⟨some 30, .cp (.t 10), none⟩,
 ⟨some 31, .bin .neq (.t 30) (.c (.s (.int .i64 0))), none⟩] (none))
 (.cond (.t 31)
 (.seq (.region [
 ⟨some 32, .cp (.t 10), none⟩,
 ⟨some 6, .cp (.t 32), none⟩] (none))
 .ret)
 .skip)))))))
 (.region [
 ⟨some 33, .bin .add (.t 13) (.c (.s (.int .i64 1))), none⟩,
 ⟨some 13, .cp (.t 33), none⟩] (none)))))
def zjt_ : XF := { np := 3, results := [(.inl 6, .v)], body :=
 (.seq (.region [
 ⟨some 6, .cp (.c (.s (.int .i64 0))), none⟩] (none))
 (.seq (.seq (.region [
 ⟨some 11, .cp (.t 0), none⟩,
 ⟨some 12, .len false (.t 11), none⟩,
 ⟨some 13, .cp (.c (.s (.int .i64 0))), none⟩] (none))
 (.block 0
 (.loop zgz_)))
 (.seq (.seq (.region [
 ⟨some 34, .cp (.t 0), none⟩,
 ⟨some 35, .len false (.t 34), none⟩,
 ⟨some 36, .cp (.t 1), none⟩,
 ⟨some 37, .len false (.t 36), none⟩,
 ⟨some 38, .bin .lss (.t 35) (.t 37), none⟩] (none))
 (.cond (.t 38)
 (.seq (.region [
 ⟨some 6, .cp (.c (.s (.int .i64 (-1)))), none⟩] (none))
 .ret)
 .skip))
 (.seq (.region [
 ⟨some 6, .cp (.c (.s (.int .i64 0))), none⟩] (none))
 .ret)))) }
def zju_ : XF := { np := 2, results := [(.inl 4, .v)], body :=
 (.seq (.region [
 ⟨some 2, .box false (.t 0), none⟩,
 ⟨some 3, .box false (.t 1), none⟩,
 ⟨some 4, .cp (.c (.s (.int .i64 0))), none⟩] (none))
 (.seq (.region [
 ⟨some 5, .faddr (.t 2) 0, none⟩,
 ⟨some 6, .load 1 false (.t 5), none⟩,
 ⟨some 7, .faddr (.t 3) 0, none⟩,
 ⟨some 8, .load 1 false (.t 7), none⟩,
 ⟨some 9, .call false zdv_ [(.t 6), (.t 8)], none⟩,
 ⟨some 10, .faddr (.t 2) 1, none⟩,
 ⟨some 11, .load 3 true (.t 10), none⟩,
 ⟨some 12, .faddr (.t 3) 1, none⟩,
 ⟨some 13, .load 3 true (.t 12), none⟩,
 ⟨some 14, .call false zmd_ [(.t 11), (.t 13)], none⟩,
 ⟨some 15, .bslice false 1 [(.t 9), (.t 14)], none⟩,
 ⟨some 16, .call false zgi_ [(.t 15)], none⟩,
 ⟨some 4, .cp (.t 16), none⟩] (some [(4, some 6), (4, some 8)]))
 .ret)) }
def zha_ : XF := { np := 1, results := [(.inl 2, .v)], body :=
 (.seq (.region [
 ⟨some 2, .cp (.c (.s (.slice none 0 0))), none⟩] (none))
 (.seq (.region [
 ⟨some 3, .cp (.t 0), none⟩,
 ⟨some 4, .call true zqn_ [(.c (.s (.slice none 0 0))), (.t 3)], none⟩,
 ⟨some 2, .cp (.t 4), none⟩] (none))
 .ret)) }
def zrc_ : XF := { np := 2, results := [], body := .skip, nat := some (.sort 14) }
def zbur_ : XC :=
 (.seq (.region [
 ⟨some 8, .bin .lss (.t 7) (.t 6), none⟩] (none))
 (.seq (.cond (.t 8)
 .skip
 (.exit 0))
 (.seq (.block 1
 (.seq (.region [
 ⟨some 9, .iaddr 14 (.t 5) (.t 7), none⟩,
 ⟨some 10, .load 14 true (.t 9), none⟩,
 ⟨some 4, .alloc [.s (.int .i64 0), .s (.int .i64 0), .s (.int .i64 0), .s (.int .i64 0), .s (.int .i64 0), .s (.int .i64 0), .s (.string ⟨#[]⟩), .s (.string ⟨#[]⟩), .s (.string ⟨#[]⟩), .s (.int .i64 0), .s (.int .i64 0), .s (.bool false), .s (.slice none 0 0), .s (.slice none 0 0)], none⟩,
 ⟨none, .store 14 (.t 4) (.t 10), none⟩] (none))
 (.seq (.region [
 ⟨some 11, .cp (.t 0), none⟩,
 ⟨some 12, .load 14 true (.t 4), none⟩,
 ⟨some 13, .callv false (.t 11) [(.t 12)], none⟩,
 ⟨some 14, .un .not (.t 13), none⟩] (none))
 (.cond (.t 14)
 .ret
 .skip))))
 (.region [
 ⟨some 15, .bin .add (.t 7) (.c (.s (.int .i64 1))), none⟩,
 ⟨some 7, .cp (.t 15), none⟩] (none)))))
def zrd_ : XF := { np := 2, results := [], body :=
 (.seq (.region [
 ⟨some 5, .load 1 false (.t 1), none⟩,
 ⟨some 6, .len false (.t 5), none⟩,
 ⟨some 7, .cp (.c (.s (.int .i64 0))), none⟩] (none))
 (.block 0
 (.loop zbur_))) }
def zbus_ : XC :=
 (.seq (.seq (.region [
 ⟨some 15, .cp (.t 9), none⟩,
 ⟨some 16, .cp (.t 10), none⟩,
 ⟨some 17, .bin .lss (.t 15) (.t 16), none⟩] (none))
 (.cond (.t 17)
 .skip
 (.exit 0)))
 (.block 1
 (.seq (.region [
 ⟨some 18, .cp (.t 9), none⟩,
 ⟨some 19, .cp (.t 10), none⟩,
 ⟨some 20, .bin .add (.t 18) (.t 19), none⟩,
 ⟨some 21, .conv .u64 (.t 20), none⟩,
 ⟨some 22, .bin .shr (.t 21) (.c (.s (.int .u64 1))), none⟩,
 ⟨some 23, .conv .i64 (.t 22), none⟩,
 ⟨some 11, .cp (.t 23), none⟩] (none))
 (.seq (.region [
 ⟨some 24, .cp (.t 2), none⟩,
 ⟨some 25, .cp (.t 0), none⟩,
 ⟨some 26, .cp (.t 11), none⟩,
 ⟨some 27, .iaddr 4 (.t 25) (.t 26), none⟩,
 ⟨some 28, .load 4 true (.t 27), none⟩,
 ⟨some 29, .cp (.t 1), none⟩,
 ⟨some 30, .callv false (.t 24) [(.t 28), (.t 29)], none⟩,
 ⟨some 31, .bin .lss (.t 30) (.c (.s (.int .i64 0))), none⟩] (none))
 (.cond (.t 31)
 (.region [
 ⟨some 32, .cp (.t 11), none⟩,
 ⟨some 33, .bin .add (.t 32) (.c (.s (.int .i64 1))), none⟩,
 ⟨some 9, .cp (.t 33), none⟩] (none))
 (.region [
 ⟨some 34, .cp (.t 11), none⟩,
 ⟨some 10, .cp (.t 34), none⟩] (none)))))))
def zre_ : XF := { np := 3, results := [(.inl 6, .v), (.inl 7, .v)], body :=
 (.seq (.region [
 ⟨some 6, .cp (.c (.s (.int .i64 0))), none⟩,
 ⟨some 7, .cp (.c (.s (.bool false))), none⟩] (none))
 (.seq (.region [
 ⟨some 12, .cp (.t 0), none⟩,
 ⟨some 13, .len false (.t 12), none⟩,
 ⟨some 8, .cp (.t 13), none⟩] (none))
 (.seq (.region [
 ⟨some 14, .cp (.t 8), none⟩,
 ⟨some 9, .cp (.c (.s (.int .i64 0))), none⟩,
 ⟨some 10, .cp (.t 14), none⟩] (none))
 (.seq (.block 0
 (.loop zbus_))
 (.seq (.region [
 ⟨some 35, .cp (.t 9), none⟩,
 ⟨some 36, .cp (.t 9), none⟩,
 ⟨some 37, .cp (.t 8), none⟩,
 ⟨some 38, .bin .lss (.t 36) (.t 37), none⟩,
 ⟨some 39, .cp (.t 38), none⟩,
 ⟨some 40, .cp (.t 2), some (39, true)⟩,
 ⟨some 41, .cp (.t 0), some (39, true)⟩,
 ⟨some 42, .cp (.t 9), some (39, true)⟩,
 ⟨some 43, .iaddr 4 (.t 41) (.t 42), some (39, true)⟩,
 ⟨some 44, .load 4 true (.t 43), some (39, true)⟩,
 ⟨some 45, .cp (.t 1), some (39, true)⟩,
 ⟨some 46, .callv false (.t 40) [(.t 44), (.t 45)], some (39, true)⟩,
 ⟨some 47, .bin .eql (.t 46) (.c (.s (.int .i64 0))), some (39, true)⟩,
 ⟨some 48, .pick (.t 39) (.t 47) (.c (.s (.bool false))), none⟩,
 ⟨some 6, .cp (.t 35), none⟩,
 ⟨some 7, .cp (.t 48), none⟩] (none))
 .ret))))) }
def zrf_ : XF := { np := 2, results := [(.inl 4, .v)], body :=
 (.seq (.region [
 ⟨some 2, .box false (.t 0), none⟩,
 ⟨some 4, .cp (.c (.s (.int .i64 0))), none⟩] (none))
 (.seq (.region [
 ⟨some 5, .faddr (.t 2) 0, none⟩,
 ⟨some 6, .load 1 false (.t 5), none⟩,
 ⟨some 7, .cp (.t 1), none⟩,
 ⟨some 8, .call false zdv_ [(.t 6), (.t 7)], none⟩,
 ⟨some 4, .cp (.t 8), none⟩] (none))
 .ret)) }
def zmw_ : XC :=
 (.seq (.region [
 ⟨some 9, .bin .lss (.t 8) (.t 7), none⟩] (none))
 (.seq (.cond (.t 9)
 .skip
 (.exit 0))
 (.seq (.block 1
 (.seq (.region [
 ⟨some 10, .cp (.t 8), none⟩,
 ⟨some 5, .cp (.t 10), none⟩] (none))
 (.seq (.region [
 ⟨some 11, .cp (.t 1), none⟩,
 ⟨some 12, .cp (.t 0), none⟩,
 ⟨some 13, .cp (.t 5), none⟩,
 ⟨some 14, .iaddr 1 (.t 12) (.t 13), none⟩,
 ⟨some 15, .load 1 false (.t 14), none⟩,
 ⟨some 16, .bin .eql (.t 11) (.t 15), none⟩] (none))
 (.cond (.t 16)
 (.seq (.region [
 ⟨some 17, .cp (.t 5), none⟩,
 ⟨some 4, .cp (.t 17), none⟩] (none))
 .ret)
 .skip))))
 (.region [
 ⟨some 18, .bin .add (.t 8) (.c (.s (.int .i64 1))), none⟩,
 ⟨some 8, .cp (.t 18), none⟩] (none)))))
def zjv_ : XF := { np := 2, results := [(.inl 4, .v)], body :=
 (.seq (.region [
 ⟨some 4, .cp (.c (.s (.int .i64 0))), none⟩] (none))
 (.seq (.seq (.region [
 ⟨some 6, .cp (.t 0), none⟩,
 ⟨some 7, .len false (.t 6), none⟩,
 ⟨some 8, .cp (.c (.s (.int .i64 0))), none⟩] (none))
 (.block 0
 (.loop zmw_)))
 (.seq (.region [
 ⟨some 4, .cp (.c (.s (.int .i64 (-1)))), none⟩] (none))
 .ret))) }
def zrg_ : XF := { np := 0, results := [(.inl 0, .v)], body :=
 (.seq (.region [
 ⟨some 0, .cp (.c (.s (.slice none 0 0))), none⟩] (none))
 (.seq (.region [
 ⟨some 1, .bslice false 1 [(.c (.s (.string ⟨#[]⟩))), (.c (.s (.string ⟨#[105, 110, 116, 101, 114, 110, 97, 108]⟩))), (.c (.s (.string ⟨#[99, 108, 105, 101, 110, 116]⟩))), (.c (.s (.string ⟨#[115, 101, 114, 118, 101, 114]⟩))), (.c (.s (.string ⟨#[112, 114, 111, 100, 117, 99, 101, 114]⟩))), (.c (.s (.string ⟨#[99, 111, 110, 115, 117, 109, 101, 114]⟩)))], none⟩,
 ⟨some 0, .cp (.t 1), none⟩] (none))
 .ret)) }
def zrh_ : XF := { np := 2, results := [], body := .skip, nat := some (.seq zbx_ 14 837723144972) }
def zmx_ : XF := { np := 1, results := [(.inl 2, .v)], body :=
 (.seq (.region [
 ⟨some 2, .cp (.c (.s (.slice none 0 0))), none⟩] (none))
 (.seq (.region [
 ⟨some 3, .cp (.t 0), none⟩,
 ⟨some 4, .call false zly_ [(.t 3)], none⟩,
 ⟨some 5, .call true zlx_ [(.t 4), (.c (.fn zlz_ [] []))], none⟩,
 ⟨some 2, .cp (.t 5), none⟩] (none))
 .ret)) }
def zri_ : XF := { np := 1, results := [(.inl 2, .v)], body :=
 (.seq (.region [
 ⟨some 2, .cp (.c (.s (.bool false))), none⟩] (none))
 (.seq (.region [
 ⟨some 2, .cp (.c (.s (.bool true))), none⟩] (none))
 .ret)) }
def XPL : List (Option XF) := [none, none, none, none, none, none, none, none, none, none, none, none, none, none, none, none, none, none, none, none, none, none, none, none, none, none, none, none, none, none, none, none, none, none, none, none, none, none, none, none, none, none, none, none, none, none, none, none, none, none, none, none, none, none, none, none, none, none, none, none, none, none, none, none, none, none, none, none, none, none, none, none, none, none, none, none, none, none, none, none, none, none, none, none, none, none, none, none, none, none, none, none, none, none, none, none, none, none, none, none, none, none, none, none, none, none, none, none, none, none, none, none, none, none, none, none, none, none, none, none, none, none, none, none, none, none, none, none, none, none, none, none, none, none, none, none, none, none, none, none, none, none, none, none, none, none, none, none, none, none, none, none, none, none, none, none, some zid_, some zau_, none, some ziq_, some ziw_, some zik_, some zjm_, some ziv_, some zjk_, some zgo_, some zip_, none, some zin_, some zja_, none, some zas_, none, some zqw_, some zra_, none, none, some zjo_, none, none, some zje_, some zio_, some zie_, some zgl_, some zmx_, some ziu_, none, some zim_, some zif_, some zez_, some zfa_, some zjd_, some zgr_, some zgs_, none, some zjg_, some zjh_, some zfc_, some zgt_, some zjc_, some zji_, some zjj_, some zgn_, some zew_, some zir_, some zqx_, some zjb_, some zjn_, some zjq_, some zqz_, some zrg_, some zjv_, some zis_, some zey_, some zri_, none, some zgq_, some zjr_, some zjs_, some zjt_, some zju_, some zjf_, some zre_, some zrf_, some zix_, some zfd_, some zgx_, some zgy_, none, some zgv_, some zgw_, some zha_, some zrc_, some zrd_, some zrh_, none, none, none, none, none, none, none, none, none, none, none, none, none, none, none, none, none, none, none, none, none, none, none, none, none, none, none, none, none, none, none, none, none, none, none, none, none, none, none, none, none, none, none, none, none, some zil_, none, none, none, none, none, some zev_, none, none, none, none, none, none, none, none, none, none, none, none, none, none, none, some zex_, none, none, none, none, none, none, none, none, none, none, none, none, none, none, some zqv_, some ziz_, none, none, some zgp_, some ziy_, none, none, none, none, none, none, none, none, none, none, none, none, none, none, none, none, none, none, none, none, none, none, none, none, none, none, none, none, none, none, none, some zjl_, none, none, none, none, none, none, none, some zqt_, none, none, some zxm_, none, none, none, none, none, none, none, none, none, none, none, none, none, none, none, none, none, none, none, none, none, none, none, none, none, some zqy_, none, none, none, none, none, none, none, none, none, none, none, none, none, none, none, none, none, none, none, none, none, none, none, none, none, none, none, none, none, some zrb_, none, none, none, none, none, none, none, none, none, none, none, none, none, none, none, none, none, none, none, none, none, none, none, none, none, none, none, none, none, none, none, none, none, none, none, none, none, none, none, none, none, none, none, none, none, none, none, none, none, none, none, none, none, none, none, none, none, none, none, none, none, none, none, none, none, none, none, none, none, none, none, none, none, none, none, none, none, none, none, none, none, none, none, none, none, none, none, none, none, none, none, none, none, none, none, none, none, none, none, some zic_, none, some zig_, none, none, none]
def XP : Nat → Option XF := fun n => XPL.getD n none
theorem zbut_ : XP zpq_ = some zid_ := rfl
theorem zbd_ : XP zhv_ = some zau_ := rfl
theorem zbuu_ : XP zlp_ = some ziq_ := rfl
theorem zbuv_ : XP zds_ = some ziw_ := rfl
theorem zbuw_ : XP zge_ = some zik_ := rfl
theorem zbux_ : XP zdt_ = some zjm_ := rfl
theorem zbuy_ : XP zhw_ = some ziv_ := rfl
theorem zbuz_ : XP zgf_ = some zjk_ := rfl
theorem zbva_ : XP zpr_ = some zgo_ := rfl
theorem zbvb_ : XP zlq_ = some zip_ := rfl
theorem zbvc_ : XP zlr_ = some zin_ := rfl
theorem zbvd_ : XP zps_ = some zja_ := rfl
theorem zbve_ : XP zpt_ = some zas_ := rfl
theorem zbvf_ : XP zpu_ = some zjo_ := rfl
theorem zbvg_ : XP zls_ = some zje_ := rfl
theorem zbvh_ : XP zlt_ = some zio_ := rfl
theorem zbvi_ : XP zpv_ = some zie_ := rfl
theorem zbvj_ : XP zpw_ = some zgl_ := rfl
theorem zbvk_ : XP zpx_ = some zmx_ := rfl
theorem zbvl_ : XP zpy_ = some ziu_ := rfl
theorem zbvm_ : XP zdu_ = some zim_ := rfl
theorem zbvn_ : XP zpz_ = some zif_ := rfl
theorem zbvo_ : XP zgg_ = some zez_ := rfl
theorem zbvp_ : XP zgh_ = some zfa_ := rfl
theorem zbvq_ : XP zqa_ = some zjd_ := rfl
theorem zbvr_ : XP zqb_ = some zgr_ := rfl
theorem zbvs_ : XP zqc_ = some zgs_ := rfl
theorem zbvt_ : XP zgi_ = some zjg_ := rfl
theorem zbvu_ : XP zlu_ = some zjh_ := rfl
theorem zbvv_ : XP zdv_ = some zfc_ := rfl
theorem zbvw_ : XP zcx_ = some zgt_ := rfl
theorem zbvx_ : XP zhx_ = some zjc_ := rfl
theorem zbvy_ : XP zqd_ = some zji_ := rfl
theorem zbvz_ : XP zqe_ = some zjj_ := rfl
theorem zbwa_ : XP zbk_ = some zgn_ := rfl
theorem zbwb_ : XP zeu_ = some zew_ := rfl
theorem zbwc_ : XP zlv_ = some zir_ := rfl
theorem zbwd_ : XP zqf_ = some zjb_ := rfl
theorem zbwe_ : XP zqg_ = some zjn_ := rfl
theorem zbwf_ : XP zlw_ = some zjq_ := rfl
theorem zbwg_ : XP zqh_ = some zjv_ := rfl
theorem zbwh_ : XP zlx_ = some zis_ := rfl
theorem zrj_ : XP zly_ = some zey_ := rfl
theorem zbwi_ : XP zlz_ = some zri_ := rfl
theorem zbwj_ : XP zma_ = some zgq_ := rfl
theorem zbwk_ : XP zmb_ = some zjr_ := rfl
theorem zbwl_ : XP zmc_ = some zjs_ := rfl
theorem zbwm_ : XP zqi_ = some zjt_ := rfl
theorem zbwn_ : XP zhy_ = some zju_ := rfl
theorem zbwo_ : XP zmd_ = some zjf_ := rfl
theorem zbwp_ : XP zme_ = some zix_ := rfl
theorem zrk_ : XP zhz_ = some zfd_ := rfl
theorem zbwq_ : XP zqj_ = some zgx_ := rfl
theorem zxn_ : XP zdw_ = some zgy_ := rfl
theorem zbwr_ : XP zqk_ = some zgv_ := rfl
theorem zbws_ : XP zql_ = some zgw_ := rfl
theorem zbwt_ : XP zqm_ = some zha_ := rfl
theorem zxo_ : XP zmf_ = some zrc_ := rfl
theorem zbwu_ : XP zqn_ = some zrh_ := rfl
theorem zbwv_ : XP zmg_ = some zil_ := rfl
theorem zbww_ : XP zmh_ = some zev_ := rfl
theorem zrl_ : XP zmi_ = some zex_ := rfl
theorem zbwx_ : XP zqo_ = some zqv_ := rfl
theorem zbwy_ : XP zqp_ = some ziz_ := rfl
theorem zbwz_ : XP zqq_ = some zgp_ := rfl
theorem zbxa_ : XP zia_ = some ziy_ := rfl
theorem zbxb_ : XP zqr_ = some zjl_ := rfl
theorem zbxc_ : XP zib_ = some zic_ := rfl
theorem zbxd_ : XP zmj_ = some zig_ := rfl
end Go.Proofs.Sl
