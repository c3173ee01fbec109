/- A part of the proof. -/
import Derived.Test.YtaepkcjcmejfcaaSlA
set_option linter.unusedVariables false
set_option linter.unusedSimpArgs false
set_option linter.unnecessarySimpa false
namespace Go.Proofs.Sl
def i_sleuthlaw11_SpanFields : Nat := 151
def i_sleuthlaw11_known : Nat := 156
def i_span_Check : Nat := 157
def i_sleuthlaw11_Span : Nat := 159
def i_span_Compare : Nat := 160
def i_span_Equal : Nat := 162
def i_span_RefOf : Nat := 163
def i_span_CompareRefs : Nat := 164
def i_span_Fields : Nat := 166
def i_sleuthlaw11_names : Nat := 167
def i_span_View_Value : Nat := 168
def i_span_FieldKind : Nat := 169
def i_sleuthlaw11_value : Nat := 170
def i_attribute_CheckValue : Nat := 171
def i_sleuthlaw11_isField : Nat := 172
def i_attribute_Get : Nat := 173
def i_span_KindName : Nat := 174
def i_sleuthlaw11_kinds : Nat := 176
def i_span_Duration : Nat := 177
def i_span_Slot : Nat := 180
def i_span_Partition : Nat := 181
def i_span_Winners : Nat := 187
def i_span_badId : Nat := 189
def i_attribute_IsName : Nat := 190
def i_cmp_Or_api_Errno : Nat := 191
def i_attribute_CheckAttrs : Nat := 192
def i_span_checkLinks : Nat := 193
def i_cmp_Or_int : Nat := 195
def i_slices_Compare_int_int : Nat := 196
def i_cmp_Compare_string : Nat := 197
def i_cmp_Compare_int : Nat := 198
def i_span_number : Nat := 199
def i_attribute_CompareAttrs : Nat := 200
def i_slices_CompareFunc_api_Ref_api_Ref_api_Ref_api_Ref : Nat := 201
def i_sleuthlaw11_flag : Nat := 204
def i_span_View_text : Nat := 205
def i_span_View_number : Nat := 206
def i_slices_Contains_string_string : Nat := 207
def i_attribute_within : Nat := 208
def i_attribute_place : Nat := 209
def i_span_kinds : Nat := 210
def i_slices_Index_string_string : Nat := 211
def i_span_chosen : Nat := 212
def i_span_set : Nat := 213
def i_span_Winners_1 : Nat := 216
def i_cmp_isNaN_string : Nat := 217
def i_cmp_isNaN_int : Nat := 218
def i_slices_CompareFunc_api_Attr_api_Attr_api_Attr_api_Attr : Nat := 219
def i_attribute_CompareAttrs_1 : Nat := 220
def i_attribute_CompareValues : Nat := 221
def i_slices_BinarySearchFunc_api_Attr_api_Attr_string : Nat := 222
def i_attribute_place_1 : Nat := 223
def i_span_copied : Nat := 224
def i_slices_CompactFunc_api_Span_api_Span : Nat := 225
def i_slices_SortedFunc_api_Span : Nat := 226
def i_slices_Values_api_Span_api_Span : Nat := 227
def i_slices_Clone_api_Attr_api_Attr : Nat := 229
def i_slices_Clone_api_Ref_api_Ref : Nat := 230
def i_slices_Collect_api_Span : Nat := 231
def i_slices_SortFunc_api_Span_api_Span : Nat := 232
def i_slices_Values_api_Span_api_Span_1 : Nat := 233
def i_slices_AppendSeq_api_Span_api_Span : Nat := 234
def x_sleuthlaw11_SpanFields_l0 : XC :=
  (.seq (.seq (.region [
    ⟨some 37, .cp (.t 11), none⟩,
    ⟨some 38, .cp (.t 9), none⟩,
    ⟨some 39, .len false (.t 38), none⟩,
    ⟨some 40, .bin .lss (.t 37) (.t 39), none⟩] (none))
  (.cond (.t 40)
    .skip
    (.exit 0)))
  (.seq (.block 1
    (.seq (.region [
      ⟨some 44, .load 14 true (.t 8), none⟩,
      ⟨some 45, .cp (.t 10), none⟩,
      ⟨some 46, .cp (.t 11), none⟩,
      ⟨some 47, .iaddr 1 (.t 45) (.t 46), none⟩,
      ⟨some 48, .load 1 false (.t 47), none⟩,
      ⟨some 49, .call false i_span_View_Value [(.t 44), (.t 48), (.c (.s (.string ⟨#[]⟩)))], none⟩,
      ⟨some 43, .cp (.t 49), none⟩,
      ⟨some 50, .extract (.t 43) 0, none⟩,
      ⟨some 51, .extract (.t 43) 1, none⟩,
      ⟨some 12, .alloc [.s (.int .i64 0), .s (.string ⟨#[]⟩), .s (.int .i64 0)], none⟩,
      ⟨none, .store 3 (.t 12) (.t 50), none⟩,
      ⟨some 13, .cp (.t 51), none⟩] (some [(9, some 0), (9, some 3), (9, some 4)]))
    (.seq (.region [
      ⟨some 53, .cp (.t 10), none⟩,
      ⟨some 54, .cp (.t 11), none⟩,
      ⟨some 55, .iaddr 1 (.t 53) (.t 54), none⟩,
      ⟨some 56, .load 1 false (.t 55), none⟩,
      ⟨some 57, .call false i_span_FieldKind [(.t 56)], none⟩,
      ⟨some 52, .cp (.t 57), none⟩,
      ⟨some 58, .extract (.t 52) 0, none⟩,
      ⟨some 59, .extract (.t 52) 1, none⟩,
      ⟨some 14, .cp (.t 58), none⟩,
      ⟨some 15, .cp (.t 59), none⟩] (none))
    (.seq (.region [
      ⟨some 60, .cp (.t 9), none⟩,
      ⟨some 61, .cp (.t 11), none⟩,
      ⟨some 62, .iaddr 1 (.t 60) (.t 61), none⟩,
      ⟨some 63, .load 1 false (.t 62), none⟩,
      ⟨some 64, .cp (.t 10), none⟩,
      ⟨some 65, .cp (.t 11), none⟩,
      ⟨some 66, .iaddr 1 (.t 64) (.t 65), none⟩,
      ⟨some 67, .load 1 false (.t 66), none⟩,
      ⟨some 68, .bin .neq (.t 63) (.t 67), none⟩,
      ⟨some 69, .cp (.t 68), none⟩,
      ⟨some 70, .cp (.t 13), some (69, false)⟩,
      ⟨some 71, .un .not (.t 70), some (69, false)⟩,
      ⟨some 72, .pick (.t 69) (.c (.s (.bool true))) (.t 71), none⟩,
      ⟨some 73, .cp (.t 72), none⟩,
      ⟨some 74, .load 3 true (.t 12), some (73, false)⟩,
      ⟨some 75, .load 14 true (.t 7), some (73, false)⟩,
      ⟨some 76, .cp (.t 10), some (73, false)⟩,
      ⟨some 77, .cp (.t 11), some (73, false)⟩,
      ⟨some 78, .iaddr 1 (.t 76) (.t 77), some (73, false)⟩,
      ⟨some 79, .load 1 false (.t 78), some (73, false)⟩,
      ⟨some 80, .call false i_sleuthlaw11_value [(.t 75), (.t 79)], some (73, false)⟩,
      ⟨some 81, .eqv (.a [.i, .t, .i]) true (.t 74) (.t 80), some (73, false)⟩,
      ⟨some 82, .pick (.t 73) (.c (.s (.bool true))) (.t 81), none⟩,
      ⟨some 83, .cp (.t 82), none⟩,
      ⟨some 84, .cp (.t 15), some (83, false)⟩,
      ⟨some 85, .un .not (.t 84), some (83, false)⟩,
      ⟨some 86, .pick (.t 83) (.c (.s (.bool true))) (.t 85), none⟩,
      ⟨some 87, .cp (.t 86), none⟩,
      ⟨some 88, .cp (.t 14), some (87, false)⟩,
      ⟨some 89, .faddr (.t 12) 0, some (87, false)⟩,
      ⟨some 90, .load 1 false (.t 89), some (87, false)⟩,
      ⟨some 91, .bin .neq (.t 88) (.t 90), some (87, false)⟩,
      ⟨some 92, .pick (.t 87) (.c (.s (.bool true))) (.t 91), none⟩,
      ⟨some 93, .cp (.t 92), none⟩,
      ⟨some 94, .load 3 true (.t 12), some (93, false)⟩,
      ⟨some 95, .call false i_attribute_CheckValue [(.t 94)], some (93, false)⟩,
      ⟨some 96, .bin .neq (.t 95) (.c (.s (.int .i64 0))), some (93, false)⟩,
      ⟨some 97, .pick (.t 93) (.c (.s (.bool true))) (.t 96), none⟩] (some [(20, some 14)]))
    (.cond (.t 97)
      (.seq (.region [
        ⟨some 6, .cp (.c (.s (.bool false))), none⟩] (none))
      .ret)
      .skip)))))
  (.region [
    ⟨some 41, .cp (.t 11), none⟩,
    ⟨some 42, .bin .add (.t 41) (.c (.s (.int .i64 1))), none⟩,
    ⟨some 11, .cp (.t 42), none⟩] (none))))
def x_sleuthlaw11_SpanFields : XF := { np := 3, results := [(.inl 6, .v)], body :=
  (.seq (.region [
    ⟨some 3, .box false (.t 0), none⟩,
    ⟨some 6, .cp (.c (.s (.bool false))), none⟩] (none))
  (.seq (.region [
    ⟨some 22, .load 14 true (.t 3), none⟩,
    ⟨some 23, .call false i_sleuthlaw11_Span [(.t 22)], none⟩,
    ⟨some 7, .alloc [.s (.int .i64 0), .s (.int .i64 0), .s (.int .i64 0), .s (.int .i64 0), .s (.int .i64 0), .s (.int .i64 0), .s (.string ⟨#[]⟩), .s (.string ⟨#[]⟩), .s (.string ⟨#[]⟩), .s (.int .i64 0), .s (.int .i64 0), .s (.bool false), .s (.slice none 0 0), .s (.slice none 0 0)], none⟩,
    ⟨none, .store 14 (.t 7) (.t 23), none⟩] (none))
  (.seq (.region [
    ⟨some 24, .load 14 true (.t 7), none⟩,
    ⟨some 25, .build false [.s (.int .i64 0), .s (.int .i64 0), .s (.int .i64 0), .s (.int .i64 0), .s (.int .i64 0), .s (.int .i64 0), .s (.string ⟨#[]⟩), .s (.string ⟨#[]⟩), .s (.string ⟨#[]⟩), .s (.int .i64 0), .s (.int .i64 0), .s (.bool false), .s (.slice none 0 0), .s (.slice none 0 0)] [(0, 14, (.t 24))], none⟩,
    ⟨some 8, .alloc [.s (.int .i64 0), .s (.int .i64 0), .s (.int .i64 0), .s (.int .i64 0), .s (.int .i64 0), .s (.int .i64 0), .s (.string ⟨#[]⟩), .s (.string ⟨#[]⟩), .s (.string ⟨#[]⟩), .s (.int .i64 0), .s (.int .i64 0), .s (.bool false), .s (.slice none 0 0), .s (.slice none 0 0)], none⟩,
    ⟨none, .store 14 (.t 8) (.t 25), none⟩] (none))
  (.seq (.region [
    ⟨some 26, .call false i_span_Fields [], none⟩,
    ⟨some 27, .call false i_sleuthlaw11_names [], none⟩,
    ⟨some 9, .cp (.t 26), none⟩,
    ⟨some 10, .cp (.t 27), none⟩] (none))
  (.seq (.seq (.region [
    ⟨some 28, .call false i_sleuthlaw11_known [], none⟩,
    ⟨some 29, .un .not (.t 28), none⟩,
    ⟨some 30, .cp (.t 29), none⟩,
    ⟨some 31, .cp (.t 9), some (30, false)⟩,
    ⟨some 32, .len false (.t 31), some (30, false)⟩,
    ⟨some 33, .cp (.t 10), some (30, false)⟩,
    ⟨some 34, .len false (.t 33), some (30, false)⟩,
    ⟨some 35, .bin .neq (.t 32) (.t 34), some (30, false)⟩,
    ⟨some 36, .pick (.t 30) (.c (.s (.bool true))) (.t 35), none⟩] (none))
  (.cond (.t 36)
    (.seq (.region [
      ⟨some 6, .cp (.c (.s (.bool false))), none⟩] (none))
    .ret)
    .skip))
  (.seq (.seq (.region [
    ⟨some 11, .cp (.c (.s (.int .i64 0))), none⟩] (none))
  (.block 0
    (.loop x_sleuthlaw11_SpanFields_l0)))
  (.seq (.region [
    ⟨some 99, .load 14 true (.t 8), none⟩,
    ⟨some 100, .cp (.t 1), none⟩,
    ⟨some 101, .cp (.t 2), none⟩,
    ⟨some 102, .call false i_span_View_Value [(.t 99), (.t 100), (.t 101)], none⟩,
    ⟨some 98, .cp (.t 102), none⟩,
    ⟨some 103, .extract (.t 98) 0, none⟩,
    ⟨some 104, .extract (.t 98) 1, none⟩,
    ⟨some 16, .alloc [.s (.int .i64 0), .s (.string ⟨#[]⟩), .s (.int .i64 0)], none⟩,
    ⟨none, .store 3 (.t 16) (.t 103), none⟩,
    ⟨some 17, .cp (.t 104), none⟩] (none))
  (.seq (.region [
    ⟨some 106, .cp (.t 1), none⟩,
    ⟨some 107, .call false i_span_FieldKind [(.t 106)], none⟩,
    ⟨some 105, .cp (.t 107), none⟩,
    ⟨some 108, .extract (.t 105) 0, none⟩,
    ⟨some 109, .extract (.t 105) 1, none⟩,
    ⟨some 18, .cp (.t 108), none⟩,
    ⟨some 19, .cp (.t 109), none⟩] (none))
  (.seq (.seq (.region [
    ⟨some 110, .cp (.t 19), none⟩,
    ⟨some 111, .cp (.t 1), none⟩,
    ⟨some 112, .call false i_sleuthlaw11_isField [(.t 111)], none⟩,
    ⟨some 113, .eqv .b true (.t 110) (.t 112), none⟩,
    ⟨some 114, .cp (.t 113), none⟩,
    ⟨some 115, .cp (.t 19), some (114, false)⟩,
    ⟨some 116, .un .not (.t 115), some (114, false)⟩,
    ⟨some 117, .cp (.t 116), some (114, false)⟩,
    ⟨some 118, .cp (.t 18), some (117, true)⟩,
    ⟨some 119, .bin .neq (.t 118) (.c (.s (.int .i64 0))), some (117, true)⟩,
    ⟨some 120, .pick (.t 117) (.t 119) (.c (.s (.bool false))), some (114, false)⟩,
    ⟨some 121, .pick (.t 114) (.c (.s (.bool true))) (.t 120), none⟩] (none))
  (.cond (.t 121)
    (.seq (.region [
      ⟨some 6, .cp (.c (.s (.bool false))), none⟩] (none))
    .ret)
    .skip))
  (.seq (.seq (.region [
    ⟨some 122, .cp (.t 1), none⟩,
    ⟨some 123, .bin .eql (.t 122) (.c (.s (.string ⟨#[97, 116, 116, 114]⟩))), none⟩] (none))
  (.cond (.t 123)
    (.seq (.region [
      ⟨some 125, .faddr (.t 7) 12, none⟩,
      ⟨some 126, .load 1 false (.t 125), none⟩,
      ⟨some 127, .cp (.t 2), none⟩,
      ⟨some 128, .call false i_attribute_Get [(.t 126), (.t 127)], none⟩,
      ⟨some 124, .cp (.t 128), none⟩,
      ⟨some 129, .extract (.t 124) 0, none⟩,
      ⟨some 130, .extract (.t 124) 1, none⟩,
      ⟨some 20, .alloc [.s (.int .i64 0), .s (.string ⟨#[]⟩), .s (.int .i64 0)], none⟩,
      ⟨none, .store 3 (.t 20) (.t 129), none⟩,
      ⟨some 21, .cp (.t 130), none⟩] (none))
    (.seq (.region [
      ⟨some 131, .cp (.t 17), none⟩,
      ⟨some 132, .cp (.t 21), none⟩,
      ⟨some 133, .eqv .b false (.t 131) (.t 132), none⟩,
      ⟨some 134, .cp (.t 133), none⟩,
      ⟨some 135, .load 3 true (.t 16), some (134, true)⟩,
      ⟨some 136, .load 3 true (.t 20), some (134, true)⟩,
      ⟨some 137, .eqv (.a [.i, .t, .i]) false (.t 135) (.t 136), some (134, true)⟩,
      ⟨some 138, .pick (.t 134) (.t 137) (.c (.s (.bool false))), none⟩,
      ⟨some 6, .cp (.t 138), none⟩] (none))
    .ret))
    .skip))
  (.seq (.region [
    ⟨some 139, .cp (.t 17), none⟩,
    ⟨some 140, .cp (.t 1), none⟩,
    ⟨some 141, .call false i_sleuthlaw11_isField [(.t 140)], none⟩,
    ⟨some 142, .cp (.t 141), none⟩,
    ⟨some 143, .cp (.t 2), some (142, true)⟩,
    ⟨some 144, .bin .eql (.t 143) (.c (.s (.string ⟨#[]⟩))), some (142, true)⟩,
    ⟨some 145, .pick (.t 142) (.t 144) (.c (.s (.bool false))), none⟩,
    ⟨some 146, .eqv .b false (.t 139) (.t 145), none⟩,
    ⟨some 147, .cp (.t 146), none⟩,
    ⟨some 148, .cp (.t 17), some (147, true)⟩,
    ⟨some 149, .cp (.t 148), some (147, true)⟩,
    ⟨some 150, .load 3 true (.t 16), some (149, false)⟩,
    ⟨some 151, .build false [.s (.int .i64 0), .s (.string ⟨#[]⟩), .s (.int .i64 0)] [], some (149, false)⟩,
    ⟨some 152, .eqv (.a [.i, .t, .i]) false (.t 150) (.t 151), some (149, false)⟩,
    ⟨some 153, .pick (.t 149) (.c (.s (.bool true))) (.t 152), some (147, true)⟩,
    ⟨some 154, .pick (.t 147) (.t 153) (.c (.s (.bool false))), none⟩,
    ⟨some 6, .cp (.t 154), none⟩] (none))
  .ret))))))))))) }
def x_sleuthlaw11_known : XF := { np := 0, results := [(.inl 0, .v)], body :=
  (.seq (.region [
    ⟨some 0, .cp (.c (.s (.bool false))), none⟩] (none))
  (.seq (.region [
    ⟨some 6, .build false [.s (.int .i64 0), .s (.int .i64 0), .s (.int .i64 0), .s (.int .i64 0), .s (.int .i64 0), .s (.int .i64 0), .s (.string ⟨#[]⟩), .s (.string ⟨#[]⟩), .s (.string ⟨#[]⟩), .s (.int .i64 0), .s (.int .i64 0), .s (.bool false), .s (.slice none 0 0), .s (.slice none 0 0)] [(0, 1, (.c (.s (.int .i64 1)))), (1, 1, (.c (.s (.int .i64 2)))), (3, 1, (.c (.s (.int .i64 1)))), (4, 1, (.c (.s (.int .i64 1)))), (5, 1, (.c (.s (.int .i64 3)))), (6, 1, (.c (.s (.string ⟨#[115]⟩)))), (8, 1, (.c (.s (.string ⟨#[111]⟩)))), (9, 1, (.c (.s (.int .i64 4)))), (10, 1, (.c (.s (.int .i64 9))))], none⟩,
    ⟨some 1, .alloc [.s (.int .i64 0), .s (.int .i64 0), .s (.int .i64 0), .s (.int .i64 0), .s (.int .i64 0), .s (.int .i64 0), .s (.string ⟨#[]⟩), .s (.string ⟨#[]⟩), .s (.string ⟨#[]⟩), .s (.int .i64 0), .s (.int .i64 0), .s (.bool false), .s (.slice none 0 0), .s (.slice none 0 0)], none⟩,
    ⟨none, .store 14 (.t 1) (.t 6), none⟩] (none))
  (.seq (.region [
    ⟨some 7, .load 14 true (.t 1), none⟩,
    ⟨some 2, .alloc [.s (.int .i64 0), .s (.int .i64 0), .s (.int .i64 0), .s (.int .i64 0), .s (.int .i64 0), .s (.int .i64 0), .s (.string ⟨#[]⟩), .s (.string ⟨#[]⟩), .s (.string ⟨#[]⟩), .s (.int .i64 0), .s (.int .i64 0), .s (.bool false), .s (.slice none 0 0), .s (.slice none 0 0)], none⟩,
    ⟨none, .store 14 (.t 2) (.t 7), none⟩] (none))
  (.seq (.region [
    ⟨some 8, .faddr (.t 2) 3, none⟩,
    ⟨none, .store 1 (.t 8) (.c (.s (.int .i64 0))), none⟩,
    ⟨some 9, .faddr (.t 2) 10, none⟩,
    ⟨none, .store 1 (.t 9) (.c (.s (.int .i64 12))), none⟩] (none))
  (.seq (.region [
    ⟨some 10, .load 14 true (.t 2), none⟩,
    ⟨some 11, .load 14 true (.t 1), none⟩,
    ⟨some 12, .bslice false 14 [(.t 10), (.t 11)], none⟩,
    ⟨some 13, .call false i_span_Winners [(.t 12)], none⟩,
    ⟨some 3, .cp (.t 13), none⟩] (none))
  (.seq (.region [
    ⟨some 15, .load 14 true (.t 1), none⟩,
    ⟨some 16, .build false [.s (.int .i64 0), .s (.int .i64 0), .s (.int .i64 0), .s (.int .i64 0), .s (.int .i64 0), .s (.int .i64 0), .s (.string ⟨#[]⟩), .s (.string ⟨#[]⟩), .s (.string ⟨#[]⟩), .s (.int .i64 0), .s (.int .i64 0), .s (.bool false), .s (.slice none 0 0), .s (.slice none 0 0)] [(0, 14, (.t 15))], none⟩,
    ⟨some 17, .call false i_span_View_Value [(.t 16), (.c (.s (.string ⟨#[100, 117, 114, 97, 116, 105, 111, 110]⟩))), (.c (.s (.string ⟨#[]⟩)))], none⟩,
    ⟨some 14, .cp (.t 17), none⟩,
    ⟨some 18, .extract (.t 14) 0, none⟩,
    ⟨some 19, .extract (.t 14) 1, none⟩,
    ⟨some 4, .alloc [.s (.int .i64 0), .s (.string ⟨#[]⟩), .s (.int .i64 0)], none⟩,
    ⟨none, .store 3 (.t 4) (.t 18), none⟩,
    ⟨some 5, .cp (.t 19), none⟩] (none))
  (.seq (.region [
    ⟨some 20, .load 14 true (.t 1), none⟩,
    ⟨some 21, .call false i_span_Check [(.t 20)], none⟩,
    ⟨some 22, .bin .eql (.t 21) (.c (.s (.int .i64 0))), none⟩,
    ⟨some 23, .cp (.t 22), none⟩,
    ⟨some 24, .cp (.t 3), some (23, true)⟩,
    ⟨some 25, .len false (.t 24), some (23, true)⟩,
    ⟨some 26, .bin .eql (.t 25) (.c (.s (.int .i64 1))), some (23, true)⟩,
    ⟨some 27, .pick (.t 23) (.t 26) (.c (.s (.bool false))), none⟩,
    ⟨some 28, .cp (.t 27), none⟩,
    ⟨some 29, .cp (.t 3), some (28, true)⟩,
    ⟨some 30, .iaddr 14 (.t 29) (.c (.s (.int .i64 0))), some (28, true)⟩,
    ⟨some 31, .faddr (.t 30) 10, some (28, true)⟩,
    ⟨some 32, .load 1 false (.t 31), some (28, true)⟩,
    ⟨some 33, .bin .eql (.t 32) (.c (.s (.int .i64 9))), some (28, true)⟩,
    ⟨some 34, .pick (.t 28) (.t 33) (.c (.s (.bool false))), none⟩,
    ⟨some 35, .cp (.t 34), none⟩,
    ⟨some 36, .cp (.t 5), some (35, true)⟩,
    ⟨some 37, .pick (.t 35) (.t 36) (.c (.s (.bool false))), none⟩,
    ⟨some 38, .cp (.t 37), none⟩,
    ⟨some 39, .load 3 true (.t 4), some (38, true)⟩,
    ⟨some 40, .build false [.s (.int .i64 0), .s (.string ⟨#[]⟩), .s (.int .i64 0)] [(0, 1, (.c (.s (.int .i64 2)))), (2, 1, (.c (.s (.int .i64 5))))], some (38, true)⟩,
    ⟨some 41, .eqv (.a [.i, .t, .i]) false (.t 39) (.t 40), some (38, true)⟩,
    ⟨some 42, .pick (.t 38) (.t 41) (.c (.s (.bool false))), none⟩,
    ⟨some 43, .cp (.t 42), none⟩,
    ⟨some 44, .call false i_span_Partition [(.c (.s (.int .i64 16777216)))], some (43, true)⟩,
    ⟨some 45, .bin .eql (.t 44) (.c (.s (.int .i64 1))), some (43, true)⟩,
    ⟨some 46, .pick (.t 43) (.t 45) (.c (.s (.bool false))), none⟩,
    ⟨some 47, .cp (.t 46), none⟩,
    ⟨some 48, .call false i_span_Fields [], some (47, true)⟩,
    ⟨some 49, .len false (.t 48), some (47, true)⟩,
    ⟨some 50, .bin .eql (.t 49) (.c (.s (.int .i64 15))), some (47, true)⟩,
    ⟨some 51, .pick (.t 47) (.t 50) (.c (.s (.bool false))), none⟩,
    ⟨some 0, .cp (.t 51), none⟩] (none))
  .ret))))))) }
def x_span_Check : XF := { np := 1, results := [(.inl 2, .v)], body :=
  (.seq (.region [
    ⟨some 1, .box false (.t 0), none⟩,
    ⟨some 2, .cp (.c (.s (.int .i64 0))), none⟩] (none))
  (.seq (.block 0
    (.seq (.region [
      ⟨some 4, .faddr (.t 1) 0, none⟩,
      ⟨some 5, .load 1 false (.t 4), none⟩,
      ⟨some 6, .call false i_span_badId [(.t 5)], none⟩,
      ⟨some 7, .cp (.t 6), none⟩,
      ⟨some 8, .faddr (.t 1) 1, some (7, false)⟩,
      ⟨some 9, .load 1 false (.t 8), some (7, false)⟩,
      ⟨some 10, .call false i_span_badId [(.t 9)], some (7, false)⟩,
      ⟨some 11, .pick (.t 7) (.c (.s (.bool true))) (.t 10), none⟩,
      ⟨some 12, .cp (.t 11), none⟩,
      ⟨some 13, .faddr (.t 1) 2, some (12, false)⟩,
      ⟨some 14, .load 1 false (.t 13), some (12, false)⟩,
      ⟨some 15, .bin .lss (.t 14) (.c (.s (.int .i64 0))), some (12, false)⟩,
      ⟨some 16, .pick (.t 12) (.c (.s (.bool true))) (.t 15), none⟩,
      ⟨some 17, .cp (.t 16), none⟩,
      ⟨some 18, .faddr (.t 1) 2, some (17, false)⟩,
      ⟨some 19, .load 1 false (.t 18), some (17, false)⟩,
      ⟨some 20, .bin .gtr (.t 19) (.c (.s (.int .i64 1099511627776))), some (17, false)⟩,
      ⟨some 21, .pick (.t 17) (.c (.s (.bool true))) (.t 20), none⟩,
      ⟨some 22, .cp (.t 21), none⟩,
      ⟨some 23, .faddr (.t 1) 3, some (22, false)⟩,
      ⟨some 24, .load 1 false (.t 23), some (22, false)⟩,
      ⟨some 25, .bin .lss (.t 24) (.c (.s (.int .i64 0))), some (22, false)⟩,
      ⟨some 26, .pick (.t 22) (.c (.s (.bool true))) (.t 25), none⟩,
      ⟨some 27, .cp (.t 26), none⟩,
      ⟨some 28, .faddr (.t 1) 3, some (27, false)⟩,
      ⟨some 29, .load 1 false (.t 28), some (27, false)⟩,
      ⟨some 30, .bin .gtr (.t 29) (.c (.s (.int .i64 1048576))), some (27, false)⟩,
      ⟨some 31, .pick (.t 27) (.c (.s (.bool true))) (.t 30), none⟩,
      ⟨some 32, .cp (.t 31), none⟩,
      ⟨some 33, .faddr (.t 1) 4, some (32, false)⟩,
      ⟨some 34, .load 1 false (.t 33), some (32, false)⟩,
      ⟨some 35, .bin .lss (.t 34) (.c (.s (.int .i64 1))), some (32, false)⟩,
      ⟨some 36, .pick (.t 32) (.c (.s (.bool true))) (.t 35), none⟩,
      ⟨some 37, .cp (.t 36), none⟩,
      ⟨some 38, .faddr (.t 1) 4, some (37, false)⟩,
      ⟨some 39, .load 1 false (.t 38), some (37, false)⟩,
      ⟨some 40, .bin .gtr (.t 39) (.c (.s (.int .i64 1048576))), some (37, false)⟩,
      ⟨some 41, .pick (.t 37) (.c (.s (.bool true))) (.t 40), none⟩,
      ⟨some 3, .cp (.t 41), none⟩] (none))
    (.cond (.t 3)
      (.seq (.region [
        ⟨some 2, .cp (.c (.s (.int .i64 2))), none⟩] (none))
      .ret)
      (.seq (.region [
        ⟨some 43, .faddr (.t 1) 5, none⟩,
        ⟨some 44, .load 1 false (.t 43), none⟩,
        ⟨some 45, .bin .lss (.t 44) (.c (.s (.int .i64 1))), none⟩,
        ⟨some 46, .cp (.t 45), none⟩,
        ⟨some 47, .faddr (.t 1) 5, some (46, false)⟩,
        ⟨some 48, .load 1 false (.t 47), some (46, false)⟩,
        ⟨some 49, .bin .gtr (.t 48) (.c (.s (.int .i64 5))), some (46, false)⟩,
        ⟨some 50, .pick (.t 46) (.c (.s (.bool true))) (.t 49), none⟩,
        ⟨some 42, .cp (.t 50), none⟩] (none))
      (.cond (.t 42)
        (.seq (.region [
          ⟨some 2, .cp (.c (.s (.int .i64 12))), none⟩] (none))
        .ret)
        (.seq (.region [
          ⟨some 52, .faddr (.t 1) 6, none⟩,
          ⟨some 53, .load 1 false (.t 52), none⟩,
          ⟨some 54, .call false i_attribute_IsName [(.t 53)], none⟩,
          ⟨some 55, .un .not (.t 54), none⟩,
          ⟨some 56, .cp (.t 55), none⟩,
          ⟨some 57, .faddr (.t 1) 8, some (56, false)⟩,
          ⟨some 58, .load 1 false (.t 57), some (56, false)⟩,
          ⟨some 59, .call false i_attribute_IsName [(.t 58)], some (56, false)⟩,
          ⟨some 60, .un .not (.t 59), some (56, false)⟩,
          ⟨some 61, .pick (.t 56) (.c (.s (.bool true))) (.t 60), none⟩,
          ⟨some 62, .cp (.t 61), none⟩,
          ⟨some 63, .faddr (.t 1) 7, some (62, false)⟩,
          ⟨some 64, .load 1 false (.t 63), some (62, false)⟩,
          ⟨some 65, .bin .neq (.t 64) (.c (.s (.string ⟨#[]⟩))), some (62, false)⟩,
          ⟨some 66, .cp (.t 65), some (62, false)⟩,
          ⟨some 67, .faddr (.t 1) 7, some (66, true)⟩,
          ⟨some 68, .load 1 false (.t 67), some (66, true)⟩,
          ⟨some 69, .call false i_attribute_IsName [(.t 68)], some (66, true)⟩,
          ⟨some 70, .un .not (.t 69), some (66, true)⟩,
          ⟨some 71, .pick (.t 66) (.t 70) (.c (.s (.bool false))), some (62, false)⟩,
          ⟨some 72, .pick (.t 62) (.c (.s (.bool true))) (.t 71), none⟩,
          ⟨some 51, .cp (.t 72), none⟩] (none))
        (.cond (.t 51)
          (.seq (.region [
            ⟨some 2, .cp (.c (.s (.int .i64 11))), none⟩] (none))
          .ret)
          (.seq (.region [
            ⟨some 74, .faddr (.t 1) 9, none⟩,
            ⟨some 75, .load 1 false (.t 74), none⟩,
            ⟨some 76, .faddr (.t 1) 10, none⟩,
            ⟨some 77, .load 1 false (.t 76), none⟩,
            ⟨some 78, .minmax false [(.t 75), (.t 77)], none⟩,
            ⟨some 79, .bin .lss (.t 78) (.c (.s (.int .i64 (-1099511627776)))), none⟩,
            ⟨some 80, .cp (.t 79), none⟩,
            ⟨some 81, .faddr (.t 1) 9, some (80, false)⟩,
            ⟨some 82, .load 1 false (.t 81), some (80, false)⟩,
            ⟨some 83, .faddr (.t 1) 10, some (80, false)⟩,
            ⟨some 84, .load 1 false (.t 83), some (80, false)⟩,
            ⟨some 85, .minmax true [(.t 82), (.t 84)], some (80, false)⟩,
            ⟨some 86, .bin .gtr (.t 85) (.c (.s (.int .i64 1099511627776))), some (80, false)⟩,
            ⟨some 87, .pick (.t 80) (.c (.s (.bool true))) (.t 86), none⟩,
            ⟨some 73, .cp (.t 87), none⟩] (none))
          (.cond (.t 73)
            (.seq (.region [
              ⟨some 2, .cp (.c (.s (.int .i64 32))), none⟩] (none))
            .ret)
            (.seq (.region [
              ⟨some 89, .faddr (.t 1) 10, none⟩,
              ⟨some 90, .load 1 false (.t 89), none⟩,
              ⟨some 91, .faddr (.t 1) 9, none⟩,
              ⟨some 92, .load 1 false (.t 91), none⟩,
              ⟨some 93, .bin .lss (.t 90) (.t 92), none⟩,
              ⟨some 88, .cp (.t 93), none⟩] (none))
            (.cond (.t 88)
              (.seq (.region [
                ⟨some 2, .cp (.c (.s (.int .i64 8))), none⟩] (none))
              .ret)
              (.seq (.region [
                ⟨some 95, .faddr (.t 1) 10, none⟩,
                ⟨some 96, .load 1 false (.t 95), none⟩,
                ⟨some 97, .faddr (.t 1) 9, none⟩,
                ⟨some 98, .load 1 false (.t 97), none⟩,
                ⟨some 99, .bin .sub (.t 96) (.t 98), none⟩,
                ⟨some 100, .bin .gtr (.t 99) (.c (.s (.int .i64 1099511627776))), none⟩,
                ⟨some 94, .cp (.t 100), none⟩] (none))
              (.cond (.t 94)
                (.seq (.region [
                  ⟨some 2, .cp (.c (.s (.int .i64 32))), none⟩] (none))
                .ret)
                .skip)))))))))))))
  (.seq (.region [
    ⟨some 101, .faddr (.t 1) 12, none⟩,
    ⟨some 102, .load 1 false (.t 101), none⟩,
    ⟨some 103, .call false i_attribute_CheckAttrs [(.t 102)], none⟩,
    ⟨some 104, .faddr (.t 1) 13, none⟩,
    ⟨some 105, .load 1 false (.t 104), none⟩,
    ⟨some 106, .call false i_span_checkLinks [(.t 105)], none⟩,
    ⟨some 107, .bslice false 1 [(.t 103), (.t 106)], none⟩,
    ⟨some 108, .call false i_cmp_Or_api_Errno [(.t 107)], none⟩,
    ⟨some 2, .cp (.t 108), none⟩] (some [(2, some 4)]))
  .ret))) }
def x_sleuthlaw11_Span_l0 : XC :=
  (.seq (.seq (.region [
    ⟨some 108, .cp (.t 5), none⟩,
    ⟨some 109, .faddr (.t 1) 12, none⟩,
    ⟨some 110, .load 1 false (.t 109), none⟩,
    ⟨some 111, .bin .rem (.t 110) (.c (.s (.int .u8 3))), none⟩,
    ⟨some 112, .conv .i64 (.t 111), none⟩,
    ⟨some 113, .bin .lss (.t 108) (.t 112), none⟩] (none))
  (.cond (.t 113)
    .skip
    (.exit 0)))
  (.seq (.block 1
    (.region [
      ⟨some 116, .faddr (.t 3) 13, none⟩,
      ⟨some 117, .load 1 false (.t 116), none⟩,
      ⟨some 118, .faddr (.t 1) 12, none⟩,
      ⟨some 119, .load 1 false (.t 118), none⟩,
      ⟨some 120, .bin .quo (.t 119) (.c (.s (.int .u8 3))), none⟩,
      ⟨some 121, .bin .rem (.t 120) (.c (.s (.int .u8 5))), none⟩,
      ⟨some 122, .conv .i64 (.t 121), none⟩,
      ⟨some 123, .bin .add (.c (.s (.int .i64 1))) (.t 122), none⟩,
      ⟨some 124, .faddr (.t 1) 12, none⟩,
      ⟨some 125, .load 1 false (.t 124), none⟩,
      ⟨some 126, .bin .quo (.t 125) (.c (.s (.int .u8 15))), none⟩,
      ⟨some 127, .bin .rem (.t 126) (.c (.s (.int .u8 5))), none⟩,
      ⟨some 128, .conv .i64 (.t 127), none⟩,
      ⟨some 129, .bin .add (.c (.s (.int .i64 1))) (.t 128), none⟩,
      ⟨some 130, .cp (.t 5), none⟩,
      ⟨some 131, .bin .add (.t 129) (.t 130), none⟩,
      ⟨some 132, .build false [.s (.int .i64 0), .s (.int .i64 0)] [(0, 1, (.t 123)), (1, 1, (.t 131))], none⟩,
      ⟨some 133, .bslice false 2 [(.t 132)], none⟩,
      ⟨some 134, .append 2 8796093022208 (.t 117) (.t 133), none⟩,
      ⟨some 135, .faddr (.t 3) 13, none⟩,
      ⟨none, .store 1 (.t 135) (.t 134), none⟩] (none)))
  (.region [
    ⟨some 114, .cp (.t 5), none⟩,
    ⟨some 115, .bin .add (.t 114) (.c (.s (.int .i64 1))), none⟩,
    ⟨some 5, .cp (.t 115), none⟩] (none))))
def x_sleuthlaw11_Span : XF := { np := 1, results := [(.inr (2, 14, true), .v)], body :=
  (.seq (.region [
    ⟨some 1, .box false (.t 0), none⟩,
    ⟨some 2, .alloc [.s (.int .i64 0), .s (.int .i64 0), .s (.int .i64 0), .s (.int .i64 0), .s (.int .i64 0), .s (.int .i64 0), .s (.string ⟨#[]⟩), .s (.string ⟨#[]⟩), .s (.string ⟨#[]⟩), .s (.int .i64 0), .s (.int .i64 0), .s (.bool false), .s (.slice none 0 0), .s (.slice none 0 0)], none⟩] (none))
  (.seq (.region [
    ⟨some 6, .faddr (.t 1) 0, none⟩,
    ⟨some 7, .load 1 false (.t 6), none⟩,
    ⟨some 8, .bin .rem (.t 7) (.c (.s (.int .u8 3))), none⟩,
    ⟨some 9, .conv .i64 (.t 8), none⟩,
    ⟨some 10, .bin .shl (.t 9) (.c (.s (.int .u64 20))), none⟩,
    ⟨some 11, .bin .add (.t 10) (.c (.s (.int .i64 1))), none⟩,
    ⟨some 12, .faddr (.t 1) 0, none⟩,
    ⟨some 13, .load 1 false (.t 12), none⟩,
    ⟨some 14, .bin .quo (.t 13) (.c (.s (.int .u8 3))), none⟩,
    ⟨some 15, .bin .rem (.t 14) (.c (.s (.int .u8 4))), none⟩,
    ⟨some 16, .conv .i64 (.t 15), none⟩,
    ⟨some 17, .bin .add (.t 11) (.t 16), none⟩,
    ⟨some 18, .faddr (.t 1) 1, none⟩,
    ⟨some 19, .load 1 false (.t 18), none⟩,
    ⟨some 20, .bin .rem (.t 19) (.c (.s (.int .u8 4))), none⟩,
    ⟨some 21, .conv .i64 (.t 20), none⟩,
    ⟨some 22, .bin .add (.c (.s (.int .i64 1))) (.t 21), none⟩,
    ⟨some 23, .faddr (.t 1) 2, none⟩,
    ⟨some 24, .load 1 false (.t 23), none⟩,
    ⟨some 25, .bin .rem (.t 24) (.c (.s (.int .u8 5))), none⟩,
    ⟨some 26, .conv .i64 (.t 25), none⟩,
    ⟨some 27, .faddr (.t 1) 3, none⟩,
    ⟨some 28, .load 1 false (.t 27), none⟩,
    ⟨some 29, .bin .rem (.t 28) (.c (.s (.int .u8 3))), none⟩,
    ⟨some 30, .conv .i64 (.t 29), none⟩,
    ⟨some 31, .faddr (.t 1) 4, none⟩,
    ⟨some 32, .load 1 false (.t 31), none⟩,
    ⟨some 33, .bin .rem (.t 32) (.c (.s (.int .u8 3))), none⟩,
    ⟨some 34, .conv .i64 (.t 33), none⟩,
    ⟨some 35, .bin .add (.c (.s (.int .i64 1))) (.t 34), none⟩,
    ⟨some 36, .faddr (.t 1) 5, none⟩,
    ⟨some 37, .load 1 false (.t 36), none⟩,
    ⟨some 38, .bin .rem (.t 37) (.c (.s (.int .u8 5))), none⟩,
    ⟨some 39, .conv .i64 (.t 38), none⟩,
    ⟨some 40, .bin .add (.c (.s (.int .i64 1))) (.t 39), none⟩,
    ⟨some 41, .build false [.s (.int .i64 0), .s (.int .i64 0), .s (.int .i64 0), .s (.int .i64 0), .s (.int .i64 0), .s (.int .i64 0), .s (.string ⟨#[]⟩), .s (.string ⟨#[]⟩), .s (.string ⟨#[]⟩), .s (.int .i64 0), .s (.int .i64 0), .s (.bool false), .s (.slice none 0 0), .s (.slice none 0 0)] [(0, 1, (.t 17)), (1, 1, (.t 22)), (2, 1, (.t 26)), (3, 1, (.t 30)), (4, 1, (.t 35)), (5, 1, (.t 40))], none⟩,
    ⟨some 3, .alloc [.s (.int .i64 0), .s (.int .i64 0), .s (.int .i64 0), .s (.int .i64 0), .s (.int .i64 0), .s (.int .i64 0), .s (.string ⟨#[]⟩), .s (.string ⟨#[]⟩), .s (.string ⟨#[]⟩), .s (.int .i64 0), .s (.int .i64 0), .s (.bool false), .s (.slice none 0 0), .s (.slice none 0 0)], none⟩,
    ⟨none, .store 14 (.t 3) (.t 41), none⟩] (none))
  (.seq (.region [
    ⟨some 42, .bslice false 1 [(.c (.s (.string ⟨#[97, 112, 105]⟩))), (.c (.s (.string ⟨#[100, 98]⟩))), (.c (.s (.string ⟨#[119, 101, 98]⟩)))], none⟩,
    ⟨some 43, .faddr (.t 1) 6, none⟩,
    ⟨some 44, .load 1 false (.t 43), none⟩,
    ⟨some 45, .bin .rem (.t 44) (.c (.s (.int .u8 3))), none⟩,
    ⟨some 46, .iaddr 1 (.t 42) (.t 45), none⟩,
    ⟨some 47, .load 1 false (.t 46), none⟩,
    ⟨some 48, .bslice false 1 [(.c (.s (.string ⟨#[]⟩))), (.c (.s (.string ⟨#[118, 49]⟩))), (.c (.s (.string ⟨#[118, 50]⟩)))], none⟩,
    ⟨some 49, .faddr (.t 1) 7, none⟩,
    ⟨some 50, .load 1 false (.t 49), none⟩,
    ⟨some 51, .bin .rem (.t 50) (.c (.s (.int .u8 3))), none⟩,
    ⟨some 52, .iaddr 1 (.t 48) (.t 51), none⟩,
    ⟨some 53, .load 1 false (.t 52), none⟩,
    ⟨some 54, .bslice false 1 [(.c (.s (.string ⟨#[103, 101, 116]⟩))), (.c (.s (.string ⟨#[112, 117, 116]⟩)))], none⟩,
    ⟨some 55, .faddr (.t 1) 8, none⟩,
    ⟨some 56, .load 1 false (.t 55), none⟩,
    ⟨some 57, .bin .rem (.t 56) (.c (.s (.int .u8 2))), none⟩,
    ⟨some 58, .iaddr 1 (.t 54) (.t 57), none⟩,
    ⟨some 59, .load 1 false (.t 58), none⟩,
    ⟨some 60, .faddr (.t 3) 6, none⟩,
    ⟨none, .store 1 (.t 60) (.t 47), none⟩,
    ⟨some 61, .faddr (.t 3) 7, none⟩,
    ⟨none, .store 1 (.t 61) (.t 53), none⟩,
    ⟨some 62, .faddr (.t 3) 8, none⟩,
    ⟨none, .store 1 (.t 62) (.t 59), none⟩] (some [(19, some 8), (19, some 10), (19, some 11), (19, some 14), (19, some 16), (19, some 17), (21, some 14), (21, some 16), (21, some 17)]))
  (.seq (.region [
    ⟨some 63, .faddr (.t 1) 9, none⟩,
    ⟨some 64, .load 1 false (.t 63), none⟩,
    ⟨some 65, .conv .i64 (.t 64), none⟩,
    ⟨some 66, .bin .sub (.t 65) (.c (.s (.int .i64 50))), none⟩,
    ⟨some 67, .faddr (.t 1) 13, none⟩,
    ⟨some 68, .load 1 false (.t 67), none⟩,
    ⟨some 69, .faddr (.t 3) 9, none⟩,
    ⟨none, .store 1 (.t 69) (.t 66), none⟩,
    ⟨some 70, .faddr (.t 3) 11, none⟩,
    ⟨none, .store 1 (.t 70) (.t 68), none⟩] (some [(7, some 5)]))
  (.seq (.region [
    ⟨some 71, .faddr (.t 3) 9, none⟩,
    ⟨some 72, .load 1 false (.t 71), none⟩,
    ⟨some 73, .faddr (.t 1) 10, none⟩,
    ⟨some 74, .load 1 false (.t 73), none⟩,
    ⟨some 75, .bin .rem (.t 74) (.c (.s (.int .u8 40))), none⟩,
    ⟨some 76, .conv .i64 (.t 75), none⟩,
    ⟨some 77, .bin .add (.t 72) (.t 76), none⟩,
    ⟨some 78, .faddr (.t 3) 10, none⟩,
    ⟨none, .store 1 (.t 78) (.t 77), none⟩] (none))
  (.seq (.region [
    ⟨some 79, .faddr (.t 1) 11, none⟩,
    ⟨some 80, .load 1 false (.t 79), none⟩,
    ⟨some 81, .bin .quo (.t 80) (.c (.s (.int .u8 4))), none⟩,
    ⟨some 82, .bin .rem (.t 81) (.c (.s (.int .u8 2))), none⟩,
    ⟨some 83, .conv .i64 (.t 82), none⟩,
    ⟨some 84, .build false [.s (.int .i64 0), .s (.string ⟨#[]⟩), .s (.int .i64 0)] [(0, 1, (.c (.s (.int .i64 3)))), (2, 1, (.t 83))], none⟩,
    ⟨some 85, .build false [.s (.string ⟨#[]⟩), .s (.int .i64 0), .s (.string ⟨#[]⟩), .s (.int .i64 0)] [(0, 1, (.c (.s (.string ⟨#[111, 107]⟩)))), (1, 3, (.t 84))], none⟩,
    ⟨some 86, .faddr (.t 1) 11, none⟩,
    ⟨some 87, .load 1 false (.t 86), none⟩,
    ⟨some 88, .conv .i64 (.t 87), none⟩,
    ⟨some 89, .bin .sub (.t 88) (.c (.s (.int .i64 60))), none⟩,
    ⟨some 90, .build false [.s (.int .i64 0), .s (.string ⟨#[]⟩), .s (.int .i64 0)] [(0, 1, (.c (.s (.int .i64 2)))), (2, 1, (.t 89))], none⟩,
    ⟨some 91, .build false [.s (.string ⟨#[]⟩), .s (.int .i64 0), .s (.string ⟨#[]⟩), .s (.int .i64 0)] [(0, 1, (.c (.s (.string ⟨#[115, 105, 122, 101]⟩)))), (1, 3, (.t 90))], none⟩,
    ⟨some 92, .bslice false 1 [(.c (.s (.string ⟨#[97]⟩))), (.c (.s (.string ⟨#[98]⟩))), (.c (.s (.string ⟨#[119, 101, 115, 116, 32, 49]⟩)))], none⟩,
    ⟨some 93, .faddr (.t 1) 11, none⟩,
    ⟨some 94, .load 1 false (.t 93), none⟩,
    ⟨some 95, .bin .quo (.t 94) (.c (.s (.int .u8 8))), none⟩,
    ⟨some 96, .bin .rem (.t 95) (.c (.s (.int .u8 3))), none⟩,
    ⟨some 97, .iaddr 1 (.t 92) (.t 96), none⟩,
    ⟨some 98, .load 1 false (.t 97), none⟩,
    ⟨some 99, .build false [.s (.int .i64 0), .s (.string ⟨#[]⟩), .s (.int .i64 0)] [(0, 1, (.c (.s (.int .i64 1)))), (1, 1, (.t 98))], none⟩,
    ⟨some 100, .build false [.s (.string ⟨#[]⟩), .s (.int .i64 0), .s (.string ⟨#[]⟩), .s (.int .i64 0)] [(0, 1, (.c (.s (.string ⟨#[122, 111, 110, 101]⟩)))), (1, 3, (.t 99))], none⟩,
    ⟨some 101, .bslice false 4 [(.t 85), (.t 91), (.t 100)], none⟩,
    ⟨some 4, .cp (.t 101), none⟩] (some []))
  (.seq (.region [
    ⟨some 102, .cp (.t 4), none⟩,
    ⟨some 103, .faddr (.t 1) 11, none⟩,
    ⟨some 104, .load 1 false (.t 103), none⟩,
    ⟨some 105, .bin .rem (.t 104) (.c (.s (.int .u8 4))), none⟩,
    ⟨some 106, .slLst 4 (.t 102) none (some (.t 105)), none⟩,
    ⟨some 107, .faddr (.t 3) 12, none⟩,
    ⟨none, .store 1 (.t 107) (.t 106), none⟩] (none))
  (.seq (.seq (.region [
    ⟨some 5, .cp (.c (.s (.int .i64 0))), none⟩] (none))
  (.block 0
    (.loop x_sleuthlaw11_Span_l0)))
  (.seq (.region [
    ⟨some 136, .load 14 true (.t 3), none⟩,
    ⟨none, .store 14 (.t 2) (.t 136), none⟩] (none))
  .ret))))))))) }
def x_span_Compare : XF := { np := 2, results := [(.inl 4, .v)], body :=
  (.seq (.region [
    ⟨some 2, .box false (.t 0), none⟩,
    ⟨some 3, .box false (.t 1), none⟩,
    ⟨some 4, .cp (.c (.s (.int .i64 0))), none⟩] (none))
  (.seq (.region [
    ⟨some 7, .faddr (.t 2) 0, none⟩,
    ⟨some 8, .load 1 false (.t 7), none⟩,
    ⟨some 9, .faddr (.t 2) 1, none⟩,
    ⟨some 10, .load 1 false (.t 9), none⟩,
    ⟨some 11, .faddr (.t 2) 3, none⟩,
    ⟨some 12, .load 1 false (.t 11), none⟩,
    ⟨some 13, .faddr (.t 2) 2, none⟩,
    ⟨some 14, .load 1 false (.t 13), none⟩,
    ⟨some 15, .faddr (.t 2) 4, none⟩,
    ⟨some 16, .load 1 false (.t 15), none⟩,
    ⟨some 17, .faddr (.t 2) 5, none⟩,
    ⟨some 18, .load 1 false (.t 17), none⟩,
    ⟨some 19, .build false [.s (.int .i64 0), .s (.int .i64 0), .s (.int .i64 0), .s (.int .i64 0), .s (.int .i64 0), .s (.int .i64 0)] [(0, 1, (.t 8)), (1, 1, (.t 10)), (2, 1, (.t 12)), (3, 1, (.t 14)), (4, 1, (.t 16)), (5, 1, (.t 18))], none⟩,
    ⟨some 5, .alloc [.s (.int .i64 0), .s (.int .i64 0), .s (.int .i64 0), .s (.int .i64 0), .s (.int .i64 0), .s (.int .i64 0)], none⟩,
    ⟨none, .store 6 (.t 5) (.t 19), none⟩] (none))
  (.seq (.region [
    ⟨some 20, .faddr (.t 3) 0, none⟩,
    ⟨some 21, .load 1 false (.t 20), none⟩,
    ⟨some 22, .faddr (.t 3) 1, none⟩,
    ⟨some 23, .load 1 false (.t 22), none⟩,
    ⟨some 24, .faddr (.t 3) 3, none⟩,
    ⟨some 25, .load 1 false (.t 24), none⟩,
    ⟨some 26, .faddr (.t 3) 2, none⟩,
    ⟨some 27, .load 1 false (.t 26), none⟩,
    ⟨some 28, .faddr (.t 3) 4, none⟩,
    ⟨some 29, .load 1 false (.t 28), none⟩,
    ⟨some 30, .faddr (.t 3) 5, none⟩,
    ⟨some 31, .load 1 false (.t 30), none⟩,
    ⟨some 32, .build false [.s (.int .i64 0), .s (.int .i64 0), .s (.int .i64 0), .s (.int .i64 0), .s (.int .i64 0), .s (.int .i64 0)] [(0, 1, (.t 21)), (1, 1, (.t 23)), (2, 1, (.t 25)), (3, 1, (.t 27)), (4, 1, (.t 29)), (5, 1, (.t 31))], none⟩,
    ⟨some 6, .alloc [.s (.int .i64 0), .s (.int .i64 0), .s (.int .i64 0), .s (.int .i64 0), .s (.int .i64 0), .s (.int .i64 0)], none⟩,
    ⟨none, .store 6 (.t 6) (.t 32), none⟩] (none))
  (.seq (.region [
    ⟨some 33, .slBox 6 (.t 5), none⟩,
    ⟨some 34, .slBox 6 (.t 6), none⟩,
    ⟨some 35, .call false i_slices_Compare_int_int [(.t 33), (.t 34)], none⟩,
    ⟨some 36, .faddr (.t 2) 6, none⟩,
    ⟨some 37, .load 1 false (.t 36), none⟩,
    ⟨some 38, .faddr (.t 3) 6, none⟩,
    ⟨some 39, .load 1 false (.t 38), none⟩,
    ⟨some 40, .call false i_cmp_Compare_string [(.t 37), (.t 39)], none⟩,
    ⟨some 41, .faddr (.t 2) 7, none⟩,
    ⟨some 42, .load 1 false (.t 41), none⟩,
    ⟨some 43, .faddr (.t 3) 7, none⟩,
    ⟨some 44, .load 1 false (.t 43), none⟩,
    ⟨some 45, .call false i_cmp_Compare_string [(.t 42), (.t 44)], none⟩,
    ⟨some 46, .faddr (.t 2) 8, none⟩,
    ⟨some 47, .load 1 false (.t 46), none⟩,
    ⟨some 48, .faddr (.t 3) 8, none⟩,
    ⟨some 49, .load 1 false (.t 48), none⟩,
    ⟨some 50, .call false i_cmp_Compare_string [(.t 47), (.t 49)], none⟩,
    ⟨some 51, .faddr (.t 2) 9, none⟩,
    ⟨some 52, .load 1 false (.t 51), none⟩,
    ⟨some 53, .faddr (.t 3) 9, none⟩,
    ⟨some 54, .load 1 false (.t 53), none⟩,
    ⟨some 55, .call false i_cmp_Compare_int [(.t 52), (.t 54)], none⟩,
    ⟨some 56, .faddr (.t 2) 10, none⟩,
    ⟨some 57, .load 1 false (.t 56), none⟩,
    ⟨some 58, .faddr (.t 3) 10, none⟩,
    ⟨some 59, .load 1 false (.t 58), none⟩,
    ⟨some 60, .call false i_cmp_Compare_int [(.t 57), (.t 59)], none⟩,
    ⟨some 61, .faddr (.t 2) 11, none⟩,
    ⟨some 62, .load 1 false (.t 61), none⟩,
    ⟨some 63, .call false i_span_number [(.t 62)], none⟩,
    ⟨some 64, .faddr (.t 3) 11, none⟩,
    ⟨some 65, .load 1 false (.t 64), none⟩,
    ⟨some 66, .call false i_span_number [(.t 65)], none⟩,
    ⟨some 67, .bin .sub (.t 63) (.t 66), none⟩,
    ⟨some 68, .faddr (.t 2) 12, none⟩,
    ⟨some 69, .load 1 false (.t 68), none⟩,
    ⟨some 70, .faddr (.t 3) 12, none⟩,
    ⟨some 71, .load 1 false (.t 70), none⟩,
    ⟨some 72, .call false i_attribute_CompareAttrs [(.t 69), (.t 71)], none⟩,
    ⟨some 73, .faddr (.t 2) 13, none⟩,
    ⟨some 74, .load 1 false (.t 73), none⟩,
    ⟨some 75, .faddr (.t 3) 13, none⟩,
    ⟨some 76, .load 1 false (.t 75), none⟩,
    ⟨some 77, .call false i_slices_CompareFunc_api_Ref_api_Ref_api_Ref_api_Ref [(.t 74), (.t 76), (.c (.fn i_span_CompareRefs [] []))], none⟩,
    ⟨some 78, .bslice false 1 [(.t 35), (.t 40), (.t 45), (.t 50), (.t 55), (.t 60), (.t 67), (.t 72), (.t 77)], none⟩,
    ⟨some 79, .call false i_cmp_Or_int [(.t 78)], none⟩,
    ⟨some 4, .cp (.t 79), none⟩] (some [(2, none), (7, none), (12, none), (17, none), (22, none), (27, none), (30, none), (33, none), (39, some 41), (39, some 43)]))
  .ret)))) }
def x_span_Equal : XF := { np := 2, results := [(.inl 4, .v)], body :=
  (.seq (.region [
    ⟨some 2, .box false (.t 0), none⟩,
    ⟨some 3, .box false (.t 1), none⟩,
    ⟨some 4, .cp (.c (.s (.bool false))), none⟩] (none))
  (.seq (.region [
    ⟨some 5, .load 14 true (.t 2), none⟩,
    ⟨some 6, .load 14 true (.t 3), none⟩,
    ⟨some 7, .call false i_span_Compare [(.t 5), (.t 6)], none⟩,
    ⟨some 8, .bin .eql (.t 7) (.c (.s (.int .i64 0))), none⟩,
    ⟨some 4, .cp (.t 8), none⟩] (none))
  .ret)) }
def x_span_RefOf : XF := { np := 1, results := [(.inr (2, 2, true), .v)], body :=
  (.seq (.region [
    ⟨some 1, .box false (.t 0), none⟩,
    ⟨some 2, .alloc [.s (.int .i64 0), .s (.int .i64 0)], none⟩] (none))
  (.seq (.region [
    ⟨some 3, .faddr (.t 1) 0, none⟩,
    ⟨some 4, .load 1 false (.t 3), none⟩,
    ⟨some 5, .faddr (.t 1) 1, none⟩,
    ⟨some 6, .load 1 false (.t 5), none⟩,
    ⟨some 7, .build false [.s (.int .i64 0), .s (.int .i64 0)] [(0, 1, (.t 4)), (1, 1, (.t 6))], none⟩,
    ⟨none, .store 2 (.t 2) (.t 7), none⟩] (none))
  .ret)) }
def x_span_CompareRefs : XF := { np := 2, results := [(.inl 4, .v)], body :=
  (.seq (.region [
    ⟨some 2, .box false (.t 0), none⟩,
    ⟨some 3, .box false (.t 1), none⟩,
    ⟨some 4, .cp (.c (.s (.int .i64 0))), none⟩] (none))
  (.seq (.region [
    ⟨some 5, .faddr (.t 2) 0, none⟩,
    ⟨some 6, .load 1 false (.t 5), none⟩,
    ⟨some 7, .faddr (.t 3) 0, none⟩,
    ⟨some 8, .load 1 false (.t 7), none⟩,
    ⟨some 9, .call false i_cmp_Compare_int [(.t 6), (.t 8)], none⟩,
    ⟨some 10, .faddr (.t 2) 1, none⟩,
    ⟨some 11, .load 1 false (.t 10), none⟩,
    ⟨some 12, .faddr (.t 3) 1, none⟩,
    ⟨some 13, .load 1 false (.t 12), none⟩,
    ⟨some 14, .call false i_cmp_Compare_int [(.t 11), (.t 13)], none⟩,
    ⟨some 15, .bslice false 1 [(.t 9), (.t 14)], none⟩,
    ⟨some 16, .call false i_cmp_Or_int [(.t 15)], none⟩,
    ⟨some 4, .cp (.t 16), none⟩] (some [(4, some 6), (4, some 8)]))
  .ret)) }
def x_span_Fields : XF := { np := 0, results := [(.inl 0, .v)], body :=
  (.seq (.region [
    ⟨some 0, .cp (.c (.s (.slice none 0 0))), none⟩] (none))
  (.seq (.region [
    ⟨some 1, .bslice false 1 [(.c (.s (.string ⟨#[99, 108, 111, 99, 107]⟩))), (.c (.s (.string ⟨#[100, 117, 114, 97, 116, 105, 111, 110]⟩))), (.c (.s (.string ⟨#[101, 110, 100]⟩))), (.c (.s (.string ⟨#[101, 114, 114, 111, 114]⟩))), (.c (.s (.string ⟨#[105, 100]⟩))), (.c (.s (.string ⟨#[107, 105, 110, 100]⟩))), (.c (.s (.string ⟨#[111, 112, 101, 114, 97, 116, 105, 111, 110]⟩))), (.c (.s (.string ⟨#[112, 97, 114, 101, 110, 116]⟩))), (.c (.s (.string ⟨#[114, 101, 118, 105, 115, 105, 111, 110]⟩))), (.c (.s (.string ⟨#[114, 111, 111, 116]⟩))), (.c (.s (.string ⟨#[115, 101, 114, 118, 105, 99, 101]⟩))), (.c (.s (.string ⟨#[115, 108, 111, 116]⟩))), (.c (.s (.string ⟨#[115, 116, 97, 114, 116]⟩))), (.c (.s (.string ⟨#[116, 114, 97, 99, 101]⟩))), (.c (.s (.string ⟨#[118, 101, 114, 115, 105, 111, 110]⟩)))], none⟩,
    ⟨some 0, .cp (.t 1), none⟩] (none))
  .ret)) }
def x_sleuthlaw11_names : XF := { np := 0, results := [(.inl 0, .v)], body :=
  (.seq (.region [
    ⟨some 0, .cp (.c (.s (.slice none 0 0))), none⟩] (none))
  (.seq (.region [
    ⟨some 1, .bslice false 1 [(.c (.s (.string ⟨#[99, 108, 111, 99, 107]⟩))), (.c (.s (.string ⟨#[100, 117, 114, 97, 116, 105, 111, 110]⟩))), (.c (.s (.string ⟨#[101, 110, 100]⟩))), (.c (.s (.string ⟨#[101, 114, 114, 111, 114]⟩))), (.c (.s (.string ⟨#[105, 100]⟩))), (.c (.s (.string ⟨#[107, 105, 110, 100]⟩))), (.c (.s (.string ⟨#[111, 112, 101, 114, 97, 116, 105, 111, 110]⟩))), (.c (.s (.string ⟨#[112, 97, 114, 101, 110, 116]⟩))), (.c (.s (.string ⟨#[114, 101, 118, 105, 115, 105, 111, 110]⟩))), (.c (.s (.string ⟨#[114, 111, 111, 116]⟩))), (.c (.s (.string ⟨#[115, 101, 114, 118, 105, 99, 101]⟩))), (.c (.s (.string ⟨#[115, 108, 111, 116]⟩))), (.c (.s (.string ⟨#[115, 116, 97, 114, 116]⟩))), (.c (.s (.string ⟨#[116, 114, 97, 99, 101]⟩))), (.c (.s (.string ⟨#[118, 101, 114, 115, 105, 111, 110]⟩)))], none⟩,
    ⟨some 0, .cp (.t 1), none⟩] (none))
  .ret)) }
def x_span_View_Value : XF := { np := 3, results := [(.inr (6, 3, true), .v), (.inl 7, .v)], body :=
  (.seq (.region [
    ⟨some 3, .box false (.t 0), none⟩,
    ⟨some 6, .alloc [.s (.int .i64 0), .s (.string ⟨#[]⟩), .s (.int .i64 0)], none⟩,
    ⟨some 7, .cp (.c (.s (.bool false))), none⟩] (none))
  (.seq (.seq (.region [
    ⟨some 11, .cp (.t 1), none⟩,
    ⟨some 12, .bin .eql (.t 11) (.c (.s (.string ⟨#[97, 116, 116, 114]⟩))), none⟩] (none))
  (.cond (.t 12)
    (.seq (.region [
      ⟨some 13, .faddr (.t 3) 0, none⟩,
      ⟨some 14, .faddr (.t 13) 12, none⟩,
      ⟨some 15, .load 1 false (.t 14), none⟩,
      ⟨some 16, .cp (.t 2), none⟩,
      ⟨some 17, .call false i_attribute_Get [(.t 15), (.t 16)], none⟩,
      ⟨some 18, .extract (.t 17) 0, none⟩,
      ⟨some 19, .extract (.t 17) 1, none⟩,
      ⟨none, .store 3 (.t 6) (.t 18), none⟩,
      ⟨some 7, .cp (.t 19), none⟩] (none))
    .ret)
    .skip))
  (.seq (.region [
    ⟨some 21, .cp (.t 1), none⟩,
    ⟨some 22, .call false i_span_FieldKind [(.t 21)], none⟩,
    ⟨some 20, .cp (.t 22), none⟩,
    ⟨some 23, .extract (.t 20) 0, none⟩,
    ⟨some 24, .extract (.t 20) 1, none⟩,
    ⟨some 8, .cp (.t 23), none⟩,
    ⟨some 9, .cp (.t 24), none⟩] (none))
  (.seq (.seq (.region [
    ⟨some 25, .cp (.t 9), none⟩,
    ⟨some 26, .un .not (.t 25), none⟩,
    ⟨some 27, .cp (.t 26), none⟩,
    ⟨some 28, .cp (.t 2), some (27, false)⟩,
    ⟨some 29, .bin .neq (.t 28) (.c (.s (.string ⟨#[]⟩))), some (27, false)⟩,
    ⟨some 30, .pick (.t 27) (.c (.s (.bool true))) (.t 29), none⟩] (none))
  (.cond (.t 30)
    (.seq (.region [
      ⟨some 31, .build false [.s (.int .i64 0), .s (.string ⟨#[]⟩), .s (.int .i64 0)] [], none⟩,
      ⟨none, .store 3 (.t 6) (.t 31), none⟩,
      ⟨some 7, .cp (.c (.s (.bool false))), none⟩] (none))
    .ret)
    .skip))
  (.seq (.region [
    ⟨some 32, .cp (.t 8), none⟩,
    ⟨some 33, .build false [.s (.int .i64 0), .s (.string ⟨#[]⟩), .s (.int .i64 0)] [(0, 1, (.t 32))], none⟩,
    ⟨some 10, .alloc [.s (.int .i64 0), .s (.string ⟨#[]⟩), .s (.int .i64 0)], none⟩,
    ⟨none, .store 3 (.t 10) (.t 33), none⟩] (none))
  (.seq (.seq (.region [
    ⟨some 34, .cp (.t 8), none⟩] (none))
  (.block 0
    (.seq (.region [
      ⟨some 36, .bin .eql (.t 34) (.c (.s (.int .i64 1))), none⟩,
      ⟨some 35, .cp (.t 36), none⟩] (none))
    (.cond (.t 35)
      (.region [
        ⟨some 37, .load 14 true (.t 3), none⟩,
        ⟨some 38, .cp (.t 1), none⟩,
        ⟨some 39, .call false i_span_View_text [(.t 37), (.t 38)], none⟩,
        ⟨some 40, .faddr (.t 10) 1, none⟩,
        ⟨none, .store 1 (.t 40) (.t 39), none⟩] (none))
      (.seq (.region [
        ⟨some 42, .bin .eql (.t 34) (.c (.s (.int .i64 2))), none⟩,
        ⟨some 41, .cp (.t 42), none⟩] (none))
      (.cond (.t 41)
        (.region [
          ⟨some 43, .load 14 true (.t 3), none⟩,
          ⟨some 44, .cp (.t 1), none⟩,
          ⟨some 45, .call false i_span_View_number [(.t 43), (.t 44)], none⟩,
          ⟨some 46, .faddr (.t 10) 2, none⟩,
          ⟨none, .store 1 (.t 46) (.t 45), none⟩] (none))
        (.seq (.region [
          ⟨some 48, .bin .eql (.t 34) (.c (.s (.int .i64 3))), none⟩,
          ⟨some 47, .cp (.t 48), none⟩] (none))
        (.cond (.t 47)
          (.region [
            ⟨some 49, .cp (.t 1), none⟩,
            ⟨some 50, .bin .eql (.t 49) (.c (.s (.string ⟨#[101, 114, 114, 111, 114]⟩))), none⟩,
            ⟨some 51, .cp (.t 50), none⟩,
            ⟨some 52, .faddr (.t 3) 0, some (51, true)⟩,
            ⟨some 53, .faddr (.t 52) 11, some (51, true)⟩,
            ⟨some 54, .load 1 false (.t 53), some (51, true)⟩,
            ⟨some 55, .pick (.t 51) (.t 54) (.c (.s (.bool false))), none⟩,
            ⟨some 56, .cp (.t 55), none⟩,
            ⟨some 57, .cp (.t 1), some (56, false)⟩,
            ⟨some 58, .bin .eql (.t 57) (.c (.s (.string ⟨#[114, 111, 111, 116]⟩))), some (56, false)⟩,
            ⟨some 59, .cp (.t 58), some (56, false)⟩,
            ⟨some 60, .faddr (.t 3) 0, some (59, true)⟩,
            ⟨some 61, .faddr (.t 60) 2, some (59, true)⟩,
            ⟨some 62, .load 1 false (.t 61), some (59, true)⟩,
            ⟨some 63, .bin .eql (.t 62) (.c (.s (.int .i64 0))), some (59, true)⟩,
            ⟨some 64, .pick (.t 59) (.t 63) (.c (.s (.bool false))), some (56, false)⟩,
            ⟨some 65, .pick (.t 56) (.c (.s (.bool true))) (.t 64), none⟩,
            ⟨some 66, .call false i_span_number [(.t 65)], none⟩,
            ⟨some 67, .faddr (.t 10) 2, none⟩,
            ⟨none, .store 1 (.t 67) (.t 66), none⟩] (none))
          .skip))))))))
  (.seq (.region [
    ⟨some 68, .load 3 true (.t 10), none⟩,
    ⟨none, .store 3 (.t 6) (.t 68), none⟩,
    ⟨some 7, .cp (.c (.s (.bool true))), none⟩] (none))
  .ret))))))) }
def x_span_FieldKind : XF := { np := 1, results := [(.inl 2, .v), (.inl 3, .v)], body :=
  (.seq (.region [
    ⟨some 2, .cp (.c (.s (.int .i64 0))), none⟩,
    ⟨some 3, .cp (.c (.s (.bool false))), none⟩] (none))
  (.seq (.seq (.region [
    ⟨some 4, .call false i_span_Fields [], none⟩,
    ⟨some 5, .cp (.t 0), none⟩,
    ⟨some 6, .call false i_slices_Contains_string_string [(.t 4), (.t 5)], none⟩,
    ⟨some 7, .un .not (.t 6), none⟩] (none))
  (.cond (.t 7)
    (.seq (.region [
      ⟨some 2, .cp (.c (.s (.int .i64 0))), none⟩,
      ⟨some 3, .cp (.c (.s (.bool false))), none⟩] (none))
    .ret)
    .skip))
  (.seq (.seq (.region [
    ⟨some 8, .cp (.t 0), none⟩] (none))
  (.block 0
    (.seq (.seq (.region [
      ⟨some 10, .bin .eql (.t 8) (.c (.s (.string ⟨#[107, 105, 110, 100]⟩))), none⟩,
      ⟨some 9, .cp (.t 10), none⟩] (none))
    (.cond (.t 9)
      .skip
      (.seq (.region [
        ⟨some 11, .bin .eql (.t 8) (.c (.s (.string ⟨#[111, 112, 101, 114, 97, 116, 105, 111, 110]⟩))), none⟩,
        ⟨some 9, .cp (.t 11), none⟩] (none))
      (.cond (.t 9)
        .skip
        (.seq (.region [
          ⟨some 12, .bin .eql (.t 8) (.c (.s (.string ⟨#[115, 101, 114, 118, 105, 99, 101]⟩))), none⟩,
          ⟨some 9, .cp (.t 12), none⟩] (none))
        (.cond (.t 9)
          .skip
          (.region [
            ⟨some 13, .bin .eql (.t 8) (.c (.s (.string ⟨#[118, 101, 114, 115, 105, 111, 110]⟩))), none⟩,
            ⟨some 9, .cp (.t 13), none⟩] (none))))))))
    (.cond (.t 9)
      (.seq (.region [
        ⟨some 2, .cp (.c (.s (.int .i64 1))), none⟩,
        ⟨some 3, .cp (.c (.s (.bool true))), none⟩] (none))
      .ret)
      (.seq (.seq (.region [
        ⟨some 15, .bin .eql (.t 8) (.c (.s (.string ⟨#[101, 114, 114, 111, 114]⟩))), none⟩,
        ⟨some 14, .cp (.t 15), none⟩] (none))
      (.cond (.t 14)
        .skip
        (.region [
          ⟨some 16, .bin .eql (.t 8) (.c (.s (.string ⟨#[114, 111, 111, 116]⟩))), none⟩,
          ⟨some 14, .cp (.t 16), none⟩] (none))))
      (.cond (.t 14)
        (.seq (.region [
          ⟨some 2, .cp (.c (.s (.int .i64 3))), none⟩,
          ⟨some 3, .cp (.c (.s (.bool true))), none⟩] (none))
        .ret)
        .skip))))))
  (.seq (.region [
    ⟨some 2, .cp (.c (.s (.int .i64 2))), none⟩,
    ⟨some 3, .cp (.c (.s (.bool true))), none⟩] (none))
  .ret)))) }
def x_sleuthlaw11_value : XF := { np := 2, results := [(.inr (4, 3, true), .v)], body :=
  (.seq (.region [
    ⟨some 2, .box false (.t 0), none⟩,
    ⟨some 4, .alloc [.s (.int .i64 0), .s (.string ⟨#[]⟩), .s (.int .i64 0)], none⟩] (none))
  (.seq (.region [
    ⟨some 9, .mkmap, none⟩,
    ⟨some 10, .faddr (.t 2) 6, none⟩,
    ⟨some 11, .load 1 false (.t 10), none⟩,
    ⟨none, .mput .t (.t 9) (.c (.s (.string ⟨#[115, 101, 114, 118, 105, 99, 101]⟩))) (.t 11), none⟩,
    ⟨some 12, .faddr (.t 2) 7, none⟩,
    ⟨some 13, .load 1 false (.t 12), none⟩,
    ⟨none, .mput .t (.t 9) (.c (.s (.string ⟨#[118, 101, 114, 115, 105, 111, 110]⟩))) (.t 13), none⟩,
    ⟨some 14, .faddr (.t 2) 8, none⟩,
    ⟨some 15, .load 1 false (.t 14), none⟩,
    ⟨none, .mput .t (.t 9) (.c (.s (.string ⟨#[111, 112, 101, 114, 97, 116, 105, 111, 110]⟩))) (.t 15), none⟩,
    ⟨some 16, .cp (.t 9), none⟩,
    ⟨some 5, .cp (.t 16), none⟩] (none))
  (.seq (.seq (.region [
    ⟨some 18, .cp (.t 5), none⟩,
    ⟨some 19, .cp (.t 1), none⟩,
    ⟨some 20, .mget .t true (.s (.string ⟨#[]⟩)) (.t 18) (.t 19), none⟩,
    ⟨some 17, .cp (.t 20), none⟩,
    ⟨some 21, .extract (.t 17) 0, none⟩,
    ⟨some 22, .extract (.t 17) 1, none⟩,
    ⟨some 6, .cp (.t 21), none⟩,
    ⟨some 7, .cp (.t 22), none⟩] (none))
  (.seq (.region [
    ⟨some 23, .cp (.t 7), none⟩] (none))
  (.cond (.t 23)
    (.seq (.region [
      ⟨some 24, .cp (.t 6), none⟩,
      ⟨some 25, .build false [.s (.int .i64 0), .s (.string ⟨#[]⟩), .s (.int .i64 0)] [(0, 1, (.c (.s (.int .i64 1)))), (1, 1, (.t 24))], none⟩,
      ⟨none, .store 3 (.t 4) (.t 25), none⟩] (none))
    .ret)
    .skip)))
  (.seq (.seq (.region [
    ⟨some 26, .cp (.t 1), none⟩] (none))
  (.block 0
    (.seq (.region [
      ⟨some 28, .bin .eql (.t 26) (.c (.s (.string ⟨#[107, 105, 110, 100]⟩))), none⟩,
      ⟨some 27, .cp (.t 28), none⟩] (none))
    (.cond (.t 27)
      (.seq (.region [
        ⟨some 29, .call false i_sleuthlaw11_kinds [], none⟩,
        ⟨some 30, .faddr (.t 2) 5, none⟩,
        ⟨some 31, .load 1 false (.t 30), none⟩,
        ⟨some 32, .bin .sub (.t 31) (.c (.s (.int .i64 1))), none⟩,
        ⟨some 33, .iaddr 1 (.t 29) (.t 32), none⟩,
        ⟨some 34, .load 1 false (.t 33), none⟩,
        ⟨some 35, .build false [.s (.int .i64 0), .s (.string ⟨#[]⟩), .s (.int .i64 0)] [(0, 1, (.c (.s (.int .i64 1)))), (1, 1, (.t 34))], none⟩,
        ⟨none, .store 3 (.t 4) (.t 35), none⟩] (some [(0, some 2)]))
      .ret)
      (.seq (.region [
        ⟨some 37, .bin .eql (.t 26) (.c (.s (.string ⟨#[101, 114, 114, 111, 114]⟩))), none⟩,
        ⟨some 36, .cp (.t 37), none⟩] (none))
      (.cond (.t 36)
        (.seq (.region [
          ⟨some 38, .faddr (.t 2) 11, none⟩,
          ⟨some 39, .load 1 false (.t 38), none⟩,
          ⟨some 40, .call false i_sleuthlaw11_flag [(.t 39)], none⟩,
          ⟨some 41, .build false [.s (.int .i64 0), .s (.string ⟨#[]⟩), .s (.int .i64 0)] [(0, 1, (.c (.s (.int .i64 3)))), (2, 1, (.t 40))], none⟩,
          ⟨none, .store 3 (.t 4) (.t 41), none⟩] (none))
        .ret)
        (.seq (.region [
          ⟨some 43, .bin .eql (.t 26) (.c (.s (.string ⟨#[114, 111, 111, 116]⟩))), none⟩,
          ⟨some 42, .cp (.t 43), none⟩] (none))
        (.cond (.t 42)
          (.seq (.region [
            ⟨some 44, .faddr (.t 2) 2, none⟩,
            ⟨some 45, .load 1 false (.t 44), none⟩,
            ⟨some 46, .bin .eql (.t 45) (.c (.s (.int .i64 0))), none⟩,
            ⟨some 47, .call false i_sleuthlaw11_flag [(.t 46)], none⟩,
            ⟨some 48, .build false [.s (.int .i64 0), .s (.string ⟨#[]⟩), .s (.int .i64 0)] [(0, 1, (.c (.s (.int .i64 3)))), (2, 1, (.t 47))], none⟩,
            ⟨none, .store 3 (.t 4) (.t 48), none⟩] (none))
          .ret)
          .skip))))))))
  (.seq (.region [
    ⟨some 49, .mkmap, none⟩,
    ⟨some 50, .faddr (.t 2) 0, none⟩,
    ⟨some 51, .load 1 false (.t 50), none⟩,
    ⟨none, .mput .t (.t 49) (.c (.s (.string ⟨#[116, 114, 97, 99, 101]⟩))) (.t 51), none⟩,
    ⟨some 52, .faddr (.t 2) 1, none⟩,
    ⟨some 53, .load 1 false (.t 52), none⟩,
    ⟨none, .mput .t (.t 49) (.c (.s (.string ⟨#[105, 100]⟩))) (.t 53), none⟩,
    ⟨some 54, .faddr (.t 2) 2, none⟩,
    ⟨some 55, .load 1 false (.t 54), none⟩,
    ⟨none, .mput .t (.t 49) (.c (.s (.string ⟨#[112, 97, 114, 101, 110, 116]⟩))) (.t 55), none⟩,
    ⟨some 56, .faddr (.t 2) 3, none⟩,
    ⟨some 57, .load 1 false (.t 56), none⟩,
    ⟨none, .mput .t (.t 49) (.c (.s (.string ⟨#[114, 101, 118, 105, 115, 105, 111, 110]⟩))) (.t 57), none⟩,
    ⟨some 58, .faddr (.t 2) 4, none⟩,
    ⟨some 59, .load 1 false (.t 58), none⟩,
    ⟨none, .mput .t (.t 49) (.c (.s (.string ⟨#[99, 108, 111, 99, 107]⟩))) (.t 59), none⟩,
    ⟨some 60, .faddr (.t 2) 9, none⟩,
    ⟨some 61, .load 1 false (.t 60), none⟩,
    ⟨none, .mput .t (.t 49) (.c (.s (.string ⟨#[115, 116, 97, 114, 116]⟩))) (.t 61), none⟩,
    ⟨some 62, .faddr (.t 2) 10, none⟩,
    ⟨some 63, .load 1 false (.t 62), none⟩,
    ⟨none, .mput .t (.t 49) (.c (.s (.string ⟨#[101, 110, 100]⟩))) (.t 63), none⟩,
    ⟨some 64, .faddr (.t 2) 10, none⟩,
    ⟨some 65, .load 1 false (.t 64), none⟩,
    ⟨some 66, .faddr (.t 2) 9, none⟩,
    ⟨some 67, .load 1 false (.t 66), none⟩,
    ⟨some 68, .bin .sub (.t 65) (.t 67), none⟩,
    ⟨none, .mput .t (.t 49) (.c (.s (.string ⟨#[100, 117, 114, 97, 116, 105, 111, 110]⟩))) (.t 68), none⟩,
    ⟨some 69, .faddr (.t 2) 0, none⟩,
    ⟨some 70, .load 1 false (.t 69), none⟩,
    ⟨some 71, .bin .quo (.t 70) (.c (.s (.int .i64 1048576))), none⟩,
    ⟨none, .mput .t (.t 49) (.c (.s (.string ⟨#[115, 108, 111, 116]⟩))) (.t 71), none⟩,
    ⟨some 72, .cp (.t 49), none⟩,
    ⟨some 8, .cp (.t 72), none⟩] (none))
  (.seq (.region [
    ⟨some 73, .cp (.t 8), none⟩,
    ⟨some 74, .cp (.t 1), none⟩,
    ⟨some 75, .mget .t false (.s (.int .i64 0)) (.t 73) (.t 74), none⟩,
    ⟨some 76, .build false [.s (.int .i64 0), .s (.string ⟨#[]⟩), .s (.int .i64 0)] [(0, 1, (.c (.s (.int .i64 2)))), (2, 1, (.t 75))], none⟩,
    ⟨none, .store 3 (.t 4) (.t 76), none⟩] (none))
  .ret)))))) }
def x_attribute_CheckValue : XF := { np := 1, results := [(.inl 2, .v)], body :=
  (.seq (.region [
    ⟨some 1, .box false (.t 0), none⟩,
    ⟨some 2, .cp (.c (.s (.int .i64 0))), none⟩] (none))
  (.seq (.region [
    ⟨some 3, .cp (.c (.s (.bool false))), none⟩] (none))
  (.seq (.seq (.region [
    ⟨some 4, .faddr (.t 1) 0, none⟩,
    ⟨some 5, .load 1 false (.t 4), none⟩] (none))
  (.block 0
    (.seq (.region [
      ⟨some 7, .bin .eql (.t 5) (.c (.s (.int .i64 1))), none⟩,
      ⟨some 6, .cp (.t 7), none⟩] (none))
    (.cond (.t 6)
      (.region [
        ⟨some 8, .faddr (.t 1) 1, none⟩,
        ⟨some 9, .load 1 false (.t 8), none⟩,
        ⟨some 10, .call false i_attribute_within [(.t 9), (.c (.s (.int .u8 32))), (.c (.s (.int .u8 126)))], none⟩,
        ⟨some 11, .cp (.t 10), none⟩,
        ⟨some 12, .faddr (.t 1) 2, some (11, true)⟩,
        ⟨some 13, .load 1 false (.t 12), some (11, true)⟩,
        ⟨some 14, .bin .eql (.t 13) (.c (.s (.int .i64 0))), some (11, true)⟩,
        ⟨some 15, .pick (.t 11) (.t 14) (.c (.s (.bool false))), none⟩,
        ⟨some 3, .cp (.t 15), none⟩] (none))
      (.seq (.region [
        ⟨some 17, .bin .eql (.t 5) (.c (.s (.int .i64 2))), none⟩,
        ⟨some 16, .cp (.t 17), none⟩] (none))
      (.cond (.t 16)
        (.region [
          ⟨some 18, .faddr (.t 1) 1, none⟩,
          ⟨some 19, .load 1 false (.t 18), none⟩,
          ⟨some 20, .bin .eql (.t 19) (.c (.s (.string ⟨#[]⟩))), none⟩,
          ⟨some 21, .cp (.t 20), none⟩,
          ⟨some 22, .faddr (.t 1) 2, some (21, true)⟩,
          ⟨some 23, .load 1 false (.t 22), some (21, true)⟩,
          ⟨some 24, .bin .geq (.t 23) (.c (.s (.int .i64 (-1099511627776)))), some (21, true)⟩,
          ⟨some 25, .pick (.t 21) (.t 24) (.c (.s (.bool false))), none⟩,
          ⟨some 26, .cp (.t 25), none⟩,
          ⟨some 27, .faddr (.t 1) 2, some (26, true)⟩,
          ⟨some 28, .load 1 false (.t 27), some (26, true)⟩,
          ⟨some 29, .bin .leq (.t 28) (.c (.s (.int .i64 1099511627776))), some (26, true)⟩,
          ⟨some 30, .pick (.t 26) (.t 29) (.c (.s (.bool false))), none⟩,
          ⟨some 3, .cp (.t 30), none⟩] (none))
        (.seq (.region [
          ⟨some 32, .bin .eql (.t 5) (.c (.s (.int .i64 3))), none⟩,
          ⟨some 31, .cp (.t 32), none⟩] (none))
        (.cond (.t 31)
          (.region [
            ⟨some 33, .faddr (.t 1) 1, none⟩,
            ⟨some 34, .load 1 false (.t 33), none⟩,
            ⟨some 35, .bin .eql (.t 34) (.c (.s (.string ⟨#[]⟩))), none⟩,
            ⟨some 36, .cp (.t 35), none⟩,
            ⟨some 37, .faddr (.t 1) 2, some (36, true)⟩,
            ⟨some 38, .load 1 false (.t 37), some (36, true)⟩,
            ⟨some 39, .bin .eql (.t 38) (.c (.s (.int .i64 0))), some (36, true)⟩,
            ⟨some 40, .cp (.t 39), some (36, true)⟩,
            ⟨some 41, .faddr (.t 1) 2, some (40, false)⟩,
            ⟨some 42, .load 1 false (.t 41), some (40, false)⟩,
            ⟨some 43, .bin .eql (.t 42) (.c (.s (.int .i64 1))), some (40, false)⟩,
            ⟨some 44, .pick (.t 40) (.c (.s (.bool true))) (.t 43), some (36, true)⟩,
            ⟨some 45, .pick (.t 36) (.t 44) (.c (.s (.bool false))), none⟩,
            ⟨some 3, .cp (.t 45), none⟩] (none))
          (.seq (.region [
            ⟨some 2, .cp (.c (.s (.int .i64 12))), none⟩] (none))
          .ret)))))))))
  (.seq (.block 1
    (.seq (.region [
      ⟨some 47, .faddr (.t 1) 1, none⟩,
      ⟨some 48, .load 1 false (.t 47), none⟩,
      ⟨some 49, .len true (.t 48), none⟩,
      ⟨some 50, .bin .gtr (.t 49) (.c (.s (.int .i64 4096))), none⟩,
      ⟨some 46, .cp (.t 50), none⟩] (none))
    (.cond (.t 46)
      (.seq (.region [
        ⟨some 2, .cp (.c (.s (.int .i64 5))), none⟩] (none))
      .ret)
      (.seq (.region [
        ⟨some 52, .cp (.t 3), none⟩,
        ⟨some 53, .un .not (.t 52), none⟩,
        ⟨some 51, .cp (.t 53), none⟩] (none))
      (.cond (.t 51)
        (.seq (.region [
          ⟨some 2, .cp (.c (.s (.int .i64 3))), none⟩] (none))
        .ret)
        .skip)))))
  (.seq (.region [
    ⟨some 2, .cp (.c (.s (.int .i64 0))), none⟩] (none))
  .ret))))) }
def x_sleuthlaw11_isField_l0 : XC :=
  (.seq (.seq (.region [
    ⟨some 6, .cp (.t 4), none⟩,
    ⟨some 7, .cp (.t 3), none⟩,
    ⟨some 8, .len false (.t 7), none⟩,
    ⟨some 9, .bin .lss (.t 6) (.t 8), none⟩] (none))
  (.cond (.t 9)
    .skip
    (.exit 0)))
  (.seq (.block 1
    (.seq (.region [
      ⟨some 12, .cp (.t 3), none⟩,
      ⟨some 13, .cp (.t 4), none⟩,
      ⟨some 14, .iaddr 1 (.t 12) (.t 13), none⟩,
      ⟨some 15, .load 1 false (.t 14), none⟩,
      ⟨some 16, .cp (.t 0), none⟩,
      ⟨some 17, .bin .eql (.t 15) (.t 16), none⟩] (none))
    (.cond (.t 17)
      (.seq (.region [
        ⟨some 2, .cp (.c (.s (.bool true))), none⟩] (none))
      .ret)
      .skip)))
  (.region [
    ⟨some 10, .cp (.t 4), none⟩,
    ⟨some 11, .bin .add (.t 10) (.c (.s (.int .i64 1))), none⟩,
    ⟨some 4, .cp (.t 11), none⟩] (none))))
def x_sleuthlaw11_isField : XF := { np := 1, results := [(.inl 2, .v)], body :=
  (.seq (.region [
    ⟨some 2, .cp (.c (.s (.bool false))), none⟩] (none))
  (.seq (.region [
    ⟨some 5, .call false i_sleuthlaw11_names [], none⟩,
    ⟨some 3, .cp (.t 5), none⟩] (none))
  (.seq (.seq (.region [
    ⟨some 4, .cp (.c (.s (.int .i64 0))), none⟩] (none))
  (.block 0
    (.loop x_sleuthlaw11_isField_l0)))
  (.seq (.region [
    ⟨some 2, .cp (.c (.s (.bool false))), none⟩] (none))
  .ret)))) }
def x_attribute_Get : XF := { np := 2, results := [(.inr (4, 3, true), .v), (.inl 5, .v)], body :=
  (.seq (.region [
    ⟨some 4, .alloc [.s (.int .i64 0), .s (.string ⟨#[]⟩), .s (.int .i64 0)], none⟩,
    ⟨some 5, .cp (.c (.s (.bool false))), none⟩] (none))
  (.seq (.region [
    ⟨some 9, .cp (.t 0), none⟩,
    ⟨some 10, .cp (.t 1), none⟩,
    ⟨some 11, .call false i_attribute_place [(.t 9), (.t 10)], none⟩,
    ⟨some 8, .cp (.t 11), none⟩,
    ⟨some 12, .extract (.t 8) 0, none⟩,
    ⟨some 13, .extract (.t 8) 1, none⟩,
    ⟨some 6, .cp (.t 12), none⟩,
    ⟨some 7, .cp (.t 13), none⟩] (none))
  (.seq (.seq (.region [
    ⟨some 14, .cp (.t 7), none⟩,
    ⟨some 15, .un .not (.t 14), none⟩] (none))
  (.cond (.t 15)
    (.seq (.region [
      ⟨some 16, .build false [.s (.int .i64 0), .s (.string ⟨#[]⟩), .s (.int .i64 0)] [], none⟩,
      ⟨none, .store 3 (.t 4) (.t 16), none⟩,
      ⟨some 5, .cp (.c (.s (.bool false))), none⟩] (none))
    .ret)
    .skip))
  (.seq (.region [
    ⟨some 17, .cp (.t 0), none⟩,
    ⟨some 18, .cp (.t 6), none⟩,
    ⟨some 19, .iaddr 4 (.t 17) (.t 18), none⟩,
    ⟨some 20, .faddr (.t 19) 1, none⟩,
    ⟨some 21, .load 3 true (.t 20), none⟩,
    ⟨none, .store 3 (.t 4) (.t 21), none⟩,
    ⟨some 5, .cp (.c (.s (.bool true))), none⟩] (none))
  .ret)))) }
def x_span_KindName : XF := { np := 1, results := [(.inl 2, .v), (.inl 3, .v)], body :=
  (.seq (.region [
    ⟨some 2, .cp (.c (.s (.string ⟨#[]⟩))), none⟩,
    ⟨some 3, .cp (.c (.s (.int .i64 0))), none⟩] (none))
  (.seq (.seq (.region [
    ⟨some 4, .cp (.t 0), none⟩,
    ⟨some 5, .bin .lss (.t 4) (.c (.s (.int .i64 1))), none⟩,
    ⟨some 6, .cp (.t 5), none⟩,
    ⟨some 7, .cp (.t 0), some (6, false)⟩,
    ⟨some 8, .bin .gtr (.t 7) (.c (.s (.int .i64 5))), some (6, false)⟩,
    ⟨some 9, .pick (.t 6) (.c (.s (.bool true))) (.t 8), none⟩] (none))
  (.cond (.t 9)
    (.seq (.region [
      ⟨some 2, .cp (.c (.s (.string ⟨#[]⟩))), none⟩,
      ⟨some 3, .cp (.c (.s (.int .i64 12))), none⟩] (none))
    .ret)
    .skip))
  (.seq (.region [
    ⟨some 10, .call false i_span_kinds [], none⟩,
    ⟨some 11, .cp (.t 0), none⟩,
    ⟨some 12, .iaddr 1 (.t 10) (.t 11), none⟩,
    ⟨some 13, .load 1 false (.t 12), none⟩,
    ⟨some 2, .cp (.t 13), none⟩,
    ⟨some 3, .cp (.c (.s (.int .i64 0))), none⟩] (none))
  .ret))) }
def x_sleuthlaw11_kinds : XF := { np := 0, results := [(.inl 0, .v)], body :=
  (.seq (.region [
    ⟨some 0, .cp (.c (.s (.slice none 0 0))), none⟩] (none))
  (.seq (.region [
    ⟨some 1, .bslice false 1 [(.c (.s (.string ⟨#[105, 110, 116, 101, 114, 110, 97, 108]⟩))), (.c (.s (.string ⟨#[99, 108, 105, 101, 110, 116]⟩))), (.c (.s (.string ⟨#[115, 101, 114, 118, 101, 114]⟩))), (.c (.s (.string ⟨#[112, 114, 111, 100, 117, 99, 101, 114]⟩))), (.c (.s (.string ⟨#[99, 111, 110, 115, 117, 109, 101, 114]⟩)))], none⟩,
    ⟨some 0, .cp (.t 1), none⟩] (none))
  .ret)) }
def x_span_Duration : XF := { np := 1, results := [(.inl 2, .v)], body :=
  (.seq (.region [
    ⟨some 1, .box false (.t 0), none⟩,
    ⟨some 2, .cp (.c (.s (.int .i64 0))), none⟩] (none))
  (.seq (.region [
    ⟨some 3, .faddr (.t 1) 10, none⟩,
    ⟨some 4, .load 1 false (.t 3), none⟩,
    ⟨some 5, .faddr (.t 1) 9, none⟩,
    ⟨some 6, .load 1 false (.t 5), none⟩,
    ⟨some 7, .bin .sub (.t 4) (.t 6), none⟩,
    ⟨some 2, .cp (.t 7), none⟩] (none))
  .ret)) }
def x_span_Slot : XF := { np := 1, results := [(.inl 2, .v)], body :=
  (.seq (.region [
    ⟨some 2, .cp (.c (.s (.int .i64 0))), none⟩] (none))
  (.seq (.region [
    ⟨some 3, .cp (.t 0), none⟩,
    ⟨some 4, .bin .shr (.t 3) (.c (.s (.int .u64 20))), none⟩,
    ⟨some 2, .cp (.t 4), none⟩] (none))
  .ret)) }
def x_span_Partition : XF := { np := 1, results := [(.inl 2, .v)], body :=
  (.seq (.region [
    ⟨some 2, .cp (.c (.s (.int .i64 0))), none⟩] (none))
  (.seq (.region [
    ⟨some 3, .cp (.t 0), none⟩,
    ⟨some 4, .call false i_span_Slot [(.t 3)], none⟩,
    ⟨some 5, .bin .shr (.t 4) (.c (.s (.int .u64 4))), none⟩,
    ⟨some 2, .cp (.t 5), none⟩] (none))
  .ret)) }
def x_span_Winners : XF := { np := 1, results := [(.inl 2, .v)], body :=
  (.seq (.region [
    ⟨some 2, .cp (.c (.s (.slice none 0 0))), none⟩] (none))
  (.seq (.region [
    ⟨some 4, .cp (.t 0), none⟩,
    ⟨some 5, .call false i_span_set [(.t 4)], none⟩,
    ⟨some 3, .alloc [.s (.slice none 0 0)], none⟩,
    ⟨none, .store 1 (.t 3) (.t 5), none⟩] (none))
  (.seq (.region [
    ⟨some 6, .load 1 false (.t 3), none⟩,
    ⟨some 7, .mkfn false i_span_Winners_1 [] [(.t 3)], none⟩,
    ⟨some 8, .call false i_span_chosen [(.t 6), (.t 7)], none⟩,
    ⟨some 2, .cp (.t 8), none⟩] (none))
  .ret))) }
def x_span_badId : XF := { np := 1, results := [(.inl 2, .v)], body :=
  (.seq (.region [
    ⟨some 2, .cp (.c (.s (.bool false))), none⟩] (none))
  (.seq (.region [
    ⟨some 3, .cp (.t 0), none⟩,
    ⟨some 4, .bin .lss (.t 3) (.c (.s (.int .i64 1))), none⟩,
    ⟨some 5, .cp (.t 4), none⟩,
    ⟨some 6, .cp (.t 0), some (5, false)⟩,
    ⟨some 7, .bin .gtr (.t 6) (.c (.s (.int .i64 1099511627776))), some (5, false)⟩,
    ⟨some 8, .pick (.t 5) (.c (.s (.bool true))) (.t 7), none⟩,
    ⟨some 2, .cp (.t 8), none⟩] (none))
  .ret)) }
def x_attribute_IsName : XF := { np := 1, results := [(.inl 2, .v)], body :=
  (.seq (.region [
    ⟨some 2, .cp (.c (.s (.bool false))), none⟩] (none))
  (.seq (.region [
    ⟨some 3, .cp (.t 0), none⟩,
    ⟨some 4, .bin .neq (.t 3) (.c (.s (.string ⟨#[]⟩))), none⟩,
    ⟨some 5, .cp (.t 4), none⟩,
    ⟨some 6, .cp (.t 0), some (5, true)⟩,
    ⟨some 7, .len true (.t 6), some (5, true)⟩,
    ⟨some 8, .bin .leq (.t 7) (.c (.s (.int .i64 64))), some (5, true)⟩,
    ⟨some 9, .pick (.t 5) (.t 8) (.c (.s (.bool false))), none⟩,
    ⟨some 10, .cp (.t 9), none⟩,
    ⟨some 11, .cp (.t 0), some (10, true)⟩,
    ⟨some 12, .call false i_attribute_within [(.t 11), (.c (.s (.int .u8 33))), (.c (.s (.int .u8 126)))], some (10, true)⟩,
    ⟨some 13, .pick (.t 10) (.t 12) (.c (.s (.bool false))), none⟩,
    ⟨some 2, .cp (.t 13), none⟩] (none))
  .ret)) }
def x_cmp_Or_api_Errno_l0 : XC :=
  (.seq (.region [
    ⟨some 9, .bin .lss (.t 8) (.t 7), none⟩] (none))
  (.seq (.cond (.t 9)
    .skip
    (.exit 0))
  (.seq (.block 1
    (.seq (.region [
      ⟨some 10, .iaddr 1 (.t 6) (.t 8), none⟩,
      ⟨some 11, .load 1 false (.t 10), none⟩,
      ⟨some 5, .cp (.t 11), none⟩] (none))
    (.seq (.region [
      ⟨some 12, .cp (.t 5), none⟩,
      ⟨some 13, .cp (.t 3), none⟩,
      ⟨some 14, .bin .neq (.t 12) (.t 13), none⟩] (none))
    (.cond (.t 14)
      (.seq (.region [
        ⟨some 15, .cp (.t 5), none⟩,
        ⟨some 2, .cp (.t 15), none⟩] (none))
      .ret)
      .skip))))
  (.region [
    ⟨some 16, .bin .add (.t 8) (.c (.s (.int .i64 1))), none⟩,
    ⟨some 8, .cp (.t 16), none⟩] (none)))))
def x_cmp_Or_api_Errno : XF := { np := 1, results := [(.inl 2, .v)], body :=
  (.seq (.region [
    ⟨some 2, .cp (.c (.s (.int .i64 0))), none⟩] (none))
  (.seq (.region [
    ⟨some 3, .cp (.c (.s (.int .i64 0))), none⟩] (none))
  (.seq (.seq (.region [
    ⟨some 6, .cp (.t 0), none⟩,
    ⟨some 7, .len false (.t 6), none⟩,
    ⟨some 8, .cp (.c (.s (.int .i64 0))), none⟩] (none))
  (.block 0
    (.loop x_cmp_Or_api_Errno_l0)))
  (.seq (.region [
    ⟨some 17, .cp (.t 3), none⟩,
    ⟨some 2, .cp (.t 17), none⟩] (none))
  .ret)))) }
def x_attribute_CheckAttrs_l0 : XC :=
  (.seq (.region [
    ⟨some 12, .bin .lss (.t 11) (.t 10), none⟩] (none))
  (.seq (.cond (.t 12)
    .skip
    (.exit 0))
  (.seq (.block 1
    (.seq (.region [
      ⟨some 13, .cp (.t 11), none⟩,
      ⟨some 14, .iaddr 4 (.t 9) (.t 11), none⟩,
      ⟨some 15, .load 4 true (.t 14), none⟩,
      ⟨some 4, .alloc [.s (.string ⟨#[]⟩), .s (.int .i64 0), .s (.string ⟨#[]⟩), .s (.int .i64 0)], none⟩,
      ⟨some 3, .cp (.t 13), none⟩,
      ⟨none, .store 4 (.t 4) (.t 15), none⟩] (none))
    (.seq (.block 2
      (.seq (.region [
        ⟨some 17, .faddr (.t 4) 0, none⟩,
        ⟨some 18, .load 1 false (.t 17), none⟩,
        ⟨some 19, .call false i_attribute_IsName [(.t 18)], none⟩,
        ⟨some 20, .un .not (.t 19), none⟩,
        ⟨some 16, .cp (.t 20), none⟩] (none))
      (.cond (.t 16)
        (.seq (.region [
          ⟨some 2, .cp (.c (.s (.int .i64 11))), none⟩] (none))
        .ret)
        (.seq (.region [
          ⟨some 22, .cp (.t 3), none⟩,
          ⟨some 23, .bin .gtr (.t 22) (.c (.s (.int .i64 0))), none⟩,
          ⟨some 24, .cp (.t 23), none⟩,
          ⟨some 25, .faddr (.t 4) 0, some (24, true)⟩,
          ⟨some 26, .load 1 false (.t 25), some (24, true)⟩,
          ⟨some 27, .cp (.t 0), some (24, true)⟩,
          ⟨some 28, .cp (.t 3), some (24, true)⟩,
          ⟨some 29, .bin .sub (.t 28) (.c (.s (.int .i64 1))), some (24, true)⟩,
          ⟨some 30, .iaddr 4 (.t 27) (.t 29), some (24, true)⟩,
          ⟨some 31, .faddr (.t 30) 0, some (24, true)⟩,
          ⟨some 32, .load 1 false (.t 31), some (24, true)⟩,
          ⟨some 33, .bin .leq (.t 26) (.t 32), some (24, true)⟩,
          ⟨some 34, .pick (.t 24) (.t 33) (.c (.s (.bool false))), none⟩,
          ⟨some 21, .cp (.t 34), none⟩] (some []))
        (.cond (.t 21)
          (.seq (.region [
            ⟨some 2, .cp (.c (.s (.int .i64 8))), none⟩] (none))
          .ret)
          .skip)))))
    (.seq (.region [
      ⟨some 35, .faddr (.t 4) 1, none⟩,
      ⟨some 36, .load 3 true (.t 35), none⟩,
      ⟨some 37, .call false i_attribute_CheckValue [(.t 36)], none⟩,
      ⟨some 5, .cp (.t 37), none⟩] (none))
    (.seq (.region [
      ⟨some 38, .cp (.t 5), none⟩,
      ⟨some 39, .bin .neq (.t 38) (.c (.s (.int .i64 0))), none⟩] (none))
    (.cond (.t 39)
      (.seq (.region [
        ⟨some 40, .cp (.t 5), none⟩,
        ⟨some 2, .cp (.t 40), none⟩] (none))
      .ret)
      .skip))))))
  (.region [
    ⟨some 41, .bin .add (.t 11) (.c (.s (.int .i64 1))), none⟩,
    ⟨some 11, .cp (.t 41), none⟩] (none)))))
def x_attribute_CheckAttrs : XF := { np := 1, results := [(.inl 2, .v)], body :=
  (.seq (.region [
    ⟨some 2, .cp (.c (.s (.int .i64 0))), none⟩] (none))
  (.seq (.seq (.region [
    ⟨some 6, .cp (.t 0), none⟩,
    ⟨some 7, .len false (.t 6), none⟩,
    ⟨some 8, .bin .gtr (.t 7) (.c (.s (.int .i64 32))), none⟩] (none))
  (.cond (.t 8)
    (.seq (.region [
      ⟨some 2, .cp (.c (.s (.int .i64 6))), none⟩] (none))
    .ret)
    .skip))
  (.seq (.seq (.region [
    ⟨some 9, .cp (.t 0), none⟩,
    ⟨some 10, .len false (.t 9), none⟩,
    ⟨some 11, .cp (.c (.s (.int .i64 0))), none⟩] (none))
  (.block 0
    (.loop x_attribute_CheckAttrs_l0)))
  (.seq (.region [
    ⟨some 2, .cp (.c (.s (.int .i64 0))), none⟩] (none))
  .ret)))) }
def x_span_checkLinks_l0 : XC :=
  (.seq (.region [
    ⟨some 11, .bin .lss (.t 10) (.t 9), none⟩] (none))
  (.seq (.cond (.t 11)
    .skip
    (.exit 0))
  (.seq (.block 1
    (.seq (.region [
      ⟨some 12, .cp (.t 10), none⟩,
      ⟨some 13, .iaddr 2 (.t 8) (.t 10), none⟩,
      ⟨some 14, .load 2 true (.t 13), none⟩,
      ⟨some 4, .alloc [.s (.int .i64 0), .s (.int .i64 0)], none⟩,
      ⟨some 3, .cp (.t 12), none⟩,
      ⟨none, .store 2 (.t 4) (.t 14), none⟩] (none))
    (.block 2
      (.seq (.region [
        ⟨some 16, .faddr (.t 4) 0, none⟩,
        ⟨some 17, .load 1 false (.t 16), none⟩,
        ⟨some 18, .call false i_span_badId [(.t 17)], none⟩,
        ⟨some 19, .cp (.t 18), none⟩,
        ⟨some 20, .faddr (.t 4) 1, some (19, false)⟩,
        ⟨some 21, .load 1 false (.t 20), some (19, false)⟩,
        ⟨some 22, .call false i_span_badId [(.t 21)], some (19, false)⟩,
        ⟨some 23, .pick (.t 19) (.c (.s (.bool true))) (.t 22), none⟩,
        ⟨some 15, .cp (.t 23), none⟩] (none))
      (.cond (.t 15)
        (.seq (.region [
          ⟨some 2, .cp (.c (.s (.int .i64 2))), none⟩] (none))
        .ret)
        (.seq (.region [
          ⟨some 25, .cp (.t 3), none⟩,
          ⟨some 26, .bin .gtr (.t 25) (.c (.s (.int .i64 0))), none⟩,
          ⟨some 27, .cp (.t 26), none⟩,
          ⟨some 28, .cp (.t 0), some (27, true)⟩,
          ⟨some 29, .cp (.t 3), some (27, true)⟩,
          ⟨some 30, .bin .sub (.t 29) (.c (.s (.int .i64 1))), some (27, true)⟩,
          ⟨some 31, .iaddr 2 (.t 28) (.t 30), some (27, true)⟩,
          ⟨some 32, .load 2 true (.t 31), some (27, true)⟩,
          ⟨some 33, .load 2 true (.t 4), some (27, true)⟩,
          ⟨some 34, .call false i_span_CompareRefs [(.t 32), (.t 33)], some (27, true)⟩,
          ⟨some 35, .bin .geq (.t 34) (.c (.s (.int .i64 0))), some (27, true)⟩,
          ⟨some 36, .pick (.t 27) (.t 35) (.c (.s (.bool false))), none⟩,
          ⟨some 24, .cp (.t 36), none⟩] (some []))
        (.cond (.t 24)
          (.seq (.region [
            ⟨some 2, .cp (.c (.s (.int .i64 8))), none⟩] (none))
          .ret)
          .skip)))))))
  (.region [
    ⟨some 37, .bin .add (.t 10) (.c (.s (.int .i64 1))), none⟩,
    ⟨some 10, .cp (.t 37), none⟩] (none)))))
def x_span_checkLinks : XF := { np := 1, results := [(.inl 2, .v)], body :=
  (.seq (.region [
    ⟨some 2, .cp (.c (.s (.int .i64 0))), none⟩] (none))
  (.seq (.seq (.region [
    ⟨some 5, .cp (.t 0), none⟩,
    ⟨some 6, .len false (.t 5), none⟩,
    ⟨some 7, .bin .gtr (.t 6) (.c (.s (.int .i64 16))), none⟩] (none))
  (.cond (.t 7)
    (.seq (.region [
      ⟨some 2, .cp (.c (.s (.int .i64 6))), none⟩] (none))
    .ret)
    .skip))
  (.seq (.seq (.region [
    ⟨some 8, .cp (.t 0), none⟩,
    ⟨some 9, .len false (.t 8), none⟩,
    ⟨some 10, .cp (.c (.s (.int .i64 0))), none⟩] (none))
  (.block 0
    (.loop x_span_checkLinks_l0)))
  (.seq (.region [
    ⟨some 2, .cp (.c (.s (.int .i64 0))), none⟩] (none))
  .ret)))) }
def x_cmp_Or_int_l0 : XC :=
  (.seq (.region [
    ⟨some 9, .bin .lss (.t 8) (.t 7), none⟩] (none))
  (.seq (.cond (.t 9)
    .skip
    (.exit 0))
  (.seq (.block 1
    (.seq (.region [
      ⟨some 10, .iaddr 1 (.t 6) (.t 8), none⟩,
      ⟨some 11, .load 1 false (.t 10), none⟩,
      ⟨some 5, .cp (.t 11), none⟩] (none))
    (.seq (.region [
      ⟨some 12, .cp (.t 5), none⟩,
      ⟨some 13, .cp (.t 3), none⟩,
      ⟨some 14, .bin .neq (.t 12) (.t 13), none⟩] (none))
    (.cond (.t 14)
      (.seq (.region [
        ⟨some 15, .cp (.t 5), none⟩,
        ⟨some 2, .cp (.t 15), none⟩] (none))
      .ret)
      .skip))))
  (.region [
    ⟨some 16, .bin .add (.t 8) (.c (.s (.int .i64 1))), none⟩,
    ⟨some 8, .cp (.t 16), none⟩] (none)))))
def x_cmp_Or_int : XF := { np := 1, results := [(.inl 2, .v)], body :=
  (.seq (.region [
    ⟨some 2, .cp (.c (.s (.int .i64 0))), none⟩] (none))
  (.seq (.region [
    ⟨some 3, .cp (.c (.s (.int .i64 0))), none⟩] (none))
  (.seq (.seq (.region [
    ⟨some 6, .cp (.t 0), none⟩,
    ⟨some 7, .len false (.t 6), none⟩,
    ⟨some 8, .cp (.c (.s (.int .i64 0))), none⟩] (none))
  (.block 0
    (.loop x_cmp_Or_int_l0)))
  (.seq (.region [
    ⟨some 17, .cp (.t 3), none⟩,
    ⟨some 2, .cp (.t 17), none⟩] (none))
  .ret)))) }
def x_slices_Compare_int_int_l0 : XC :=
  (.seq (.region [
    ⟨some 12, .bin .lss (.t 11) (.t 10), none⟩] (none))
  (.seq (.cond (.t 12)
    .skip
    (.exit 0))
  (.seq (.block 1
    (.seq (.region [
      ⟨some 13, .cp (.t 11), none⟩,
      ⟨some 14, .iaddr 1 (.t 9) (.t 11), none⟩,
      ⟨some 15, .load 1 false (.t 14), none⟩,
      ⟨some 5, .cp (.t 13), none⟩,
      ⟨some 6, .cp (.t 15), none⟩] (none))
    (.seq (.seq (.region [
      ⟨some 16, .cp (.t 5), none⟩,
      ⟨some 17, .cp (.t 1), none⟩,
      ⟨some 18, .len false (.t 17), none⟩,
      ⟨some 19, .bin .geq (.t 16) (.t 18), none⟩] (none))
    (.cond (.t 19)
      (.seq (.region [
        ⟨some 4, .cp (.c (.s (.int .i64 1))), none⟩] (none))
      .ret)
      .skip))
    (.seq (.region [
      ⟨some 20, .cp (.t 1), none⟩,
      ⟨some 21, .cp (.t 5), none⟩,
      ⟨some 22, .iaddr 1 (.t 20) (.t 21), none⟩,
      ⟨some 23, .load 1 false (.t 22), none⟩,
      ⟨some 7, .cp (.t 23), none⟩] (none))
    (.seq (.region [
      ⟨some 24, .cp (.t 6), none⟩,
      ⟨some 25, .cp (.t 7), none⟩,
      ⟨some 26, .call false i_cmp_Compare_int [(.t 24), (.t 25)], none⟩,
      ⟨some 8, .cp (.t 26), none⟩] (none))
    (.seq (.region [
      ⟨some 27, .cp (.t 8), none⟩,
      ⟨some 28, .bin .neq (.t 27) (.c (.s (.int .i64 0))), none⟩] (none))
    (.cond (.t 28)
      (.seq (.region [
        ⟨some 29, .cp (.t 8), none⟩,
        ⟨some 4, .cp (.t 29), none⟩] (none))
      .ret)
      .skip)))))))
  (.region [
    ⟨some 30, .bin .add (.t 11) (.c (.s (.int .i64 1))), none⟩,
    ⟨some 11, .cp (.t 30), none⟩] (none)))))
def x_slices_Compare_int_int : XF := { np := 2, results := [(.inl 4, .v)], body :=
  (.seq (.region [
    ⟨some 4, .cp (.c (.s (.int .i64 0))), none⟩] (none))
  (.seq (.seq (.region [
    ⟨some 9, .cp (.t 0), none⟩,
    ⟨some 10, .len false (.t 9), none⟩,
    ⟨some 11, .cp (.c (.s (.int .i64 0))), none⟩] (none))
  (.block 0
    (.loop x_slices_Compare_int_int_l0)))
  (.seq (.seq (.region [
    ⟨some 31, .cp (.t 0), none⟩,
    ⟨some 32, .len false (.t 31), none⟩,
    ⟨some 33, .cp (.t 1), none⟩,
    ⟨some 34, .len false (.t 33), none⟩,
    ⟨some 35, .bin .lss (.t 32) (.t 34), none⟩] (none))
  (.cond (.t 35)
    (.seq (.region [
      ⟨some 4, .cp (.c (.s (.int .i64 (-1)))), none⟩] (none))
    .ret)
    .skip))
  (.seq (.region [
    ⟨some 4, .cp (.c (.s (.int .i64 0))), none⟩] (none))
  .ret)))) }
def x_cmp_Compare_string : XF := { np := 2, results := [(.inl 4, .v)], body :=
  (.seq (.region [
    ⟨some 4, .cp (.c (.s (.int .i64 0))), none⟩] (none))
  (.seq (.region [
    ⟨some 7, .cp (.t 0), none⟩,
    ⟨some 8, .call false i_cmp_isNaN_string [(.t 7)], none⟩,
    ⟨some 5, .cp (.t 8), none⟩] (none))
  (.seq (.region [
    ⟨some 9, .cp (.t 1), none⟩,
    ⟨some 10, .call false i_cmp_isNaN_string [(.t 9)], none⟩,
    ⟨some 6, .cp (.t 10), none⟩] (none))
  (.seq (.seq (.region [
    ⟨some 11, .cp (.t 5), none⟩] (none))
  (.cond (.t 11)
    (.seq (.seq (.region [
      ⟨some 12, .cp (.t 6), none⟩] (none))
    (.cond (.t 12)
      (.seq (.region [
        ⟨some 4, .cp (.c (.s (.int .i64 0))), none⟩] (none))
      .ret)
      .skip))
    (.seq (.region [
      ⟨some 4, .cp (.c (.s (.int .i64 (-1)))), none⟩] (none))
    .ret))
    .skip))
  (.seq (.seq (.region [
    ⟨some 13, .cp (.t 6), none⟩] (none))
  (.cond (.t 13)
    (.seq (.region [
      ⟨some 4, .cp (.c (.s (.int .i64 1))), none⟩] (none))
    .ret)
    .skip))
  (.seq (.seq (.region [
    ⟨some 14, .cp (.t 0), none⟩,
    ⟨some 15, .cp (.t 1), none⟩,
    ⟨some 16, .bin .lss (.t 14) (.t 15), none⟩] (none))
  (.cond (.t 16)
    (.seq (.region [
      ⟨some 4, .cp (.c (.s (.int .i64 (-1)))), none⟩] (none))
    .ret)
    .skip))
  (.seq (.seq (.region [
    ⟨some 17, .cp (.t 0), none⟩,
    ⟨some 18, .cp (.t 1), none⟩,
    ⟨some 19, .bin .gtr (.t 17) (.t 18), none⟩] (none))
  (.cond (.t 19)
    (.seq (.region [
      ⟨some 4, .cp (.c (.s (.int .i64 1))), none⟩] (none))
    .ret)
    .skip))
  (.seq (.region [
    ⟨some 4, .cp (.c (.s (.int .i64 0))), none⟩] (none))
  .ret)))))))) }
def x_cmp_Compare_int : XF := { np := 2, results := [(.inl 4, .v)], body :=
  (.seq (.region [
    ⟨some 4, .cp (.c (.s (.int .i64 0))), none⟩] (none))
  (.seq (.region [
    ⟨some 7, .cp (.t 0), none⟩,
    ⟨some 8, .call false i_cmp_isNaN_int [(.t 7)], none⟩,
    ⟨some 5, .cp (.t 8), none⟩] (none))
  (.seq (.region [
    ⟨some 9, .cp (.t 1), none⟩,
    ⟨some 10, .call false i_cmp_isNaN_int [(.t 9)], none⟩,
    ⟨some 6, .cp (.t 10), none⟩] (none))
  (.seq (.seq (.region [
    ⟨some 11, .cp (.t 5), none⟩] (none))
  (.cond (.t 11)
    (.seq (.seq (.region [
      ⟨some 12, .cp (.t 6), none⟩] (none))
    (.cond (.t 12)
      (.seq (.region [
        ⟨some 4, .cp (.c (.s (.int .i64 0))), none⟩] (none))
      .ret)
      .skip))
    (.seq (.region [
      ⟨some 4, .cp (.c (.s (.int .i64 (-1)))), none⟩] (none))
    .ret))
    .skip))
  (.seq (.seq (.region [
    ⟨some 13, .cp (.t 6), none⟩] (none))
  (.cond (.t 13)
    (.seq (.region [
      ⟨some 4, .cp (.c (.s (.int .i64 1))), none⟩] (none))
    .ret)
    .skip))
  (.seq (.seq (.region [
    ⟨some 14, .cp (.t 0), none⟩,
    ⟨some 15, .cp (.t 1), none⟩,
    ⟨some 16, .bin .lss (.t 14) (.t 15), none⟩] (none))
  (.cond (.t 16)
    (.seq (.region [
      ⟨some 4, .cp (.c (.s (.int .i64 (-1)))), none⟩] (none))
    .ret)
    .skip))
  (.seq (.seq (.region [
    ⟨some 17, .cp (.t 0), none⟩,
    ⟨some 18, .cp (.t 1), none⟩,
    ⟨some 19, .bin .gtr (.t 17) (.t 18), none⟩] (none))
  (.cond (.t 19)
    (.seq (.region [
      ⟨some 4, .cp (.c (.s (.int .i64 1))), none⟩] (none))
    .ret)
    .skip))
  (.seq (.region [
    ⟨some 4, .cp (.c (.s (.int .i64 0))), none⟩] (none))
  .ret)))))))) }
def x_span_number : XF := { np := 1, results := [(.inl 2, .v)], body :=
  (.seq (.region [
    ⟨some 2, .cp (.c (.s (.int .i64 0))), none⟩] (none))
  (.seq (.seq (.region [
    ⟨some 3, .cp (.t 0), none⟩] (none))
  (.cond (.t 3)
    (.seq (.region [
      ⟨some 2, .cp (.c (.s (.int .i64 1))), none⟩] (none))
    .ret)
    .skip))
  (.seq (.region [
    ⟨some 2, .cp (.c (.s (.int .i64 0))), none⟩] (none))
  .ret))) }
def x_attribute_CompareAttrs : XF := { np := 2, results := [(.inl 4, .v)], body :=
  (.seq (.region [
    ⟨some 4, .cp (.c (.s (.int .i64 0))), none⟩] (none))
  (.seq (.region [
    ⟨some 5, .cp (.t 0), none⟩,
    ⟨some 6, .cp (.t 1), none⟩,
    ⟨some 7, .call false i_slices_CompareFunc_api_Attr_api_Attr_api_Attr_api_Attr [(.t 5), (.t 6), (.c (.fn i_attribute_CompareAttrs_1 [] []))], none⟩,
    ⟨some 4, .cp (.t 7), none⟩] (none))
  .ret)) }
def x_slices_CompareFunc_api_Ref_api_Ref_api_Ref_api_Ref_l0 : XC :=
  (.seq (.region [
    ⟨some 14, .bin .lss (.t 13) (.t 12), none⟩] (none))
  (.seq (.cond (.t 14)
    .skip
    (.exit 0))
  (.seq (.block 1
    (.seq (.region [
      ⟨some 15, .cp (.t 13), none⟩,
      ⟨some 16, .iaddr 2 (.t 11) (.t 13), none⟩,
      ⟨some 17, .load 2 true (.t 16), none⟩,
      ⟨some 8, .alloc [.s (.int .i64 0), .s (.int .i64 0)], none⟩,
      ⟨some 7, .cp (.t 15), none⟩,
      ⟨none, .store 2 (.t 8) (.t 17), none⟩] (none))
    (.seq (.seq (.region [
      ⟨some 18, .cp (.t 7), none⟩,
      ⟨some 19, .cp (.t 1), none⟩,
      ⟨some 20, .len false (.t 19), none⟩,
      ⟨some 21, .bin .geq (.t 18) (.t 20), none⟩] (none))
    (.cond (.t 21)
      (.seq (.region [
        ⟨some 6, .cp (.c (.s (.int .i64 1))), none⟩] (none))
      .ret)
      .skip))
    (.seq (.region [
      ⟨some 22, .cp (.t 1), none⟩,
      ⟨some 23, .cp (.t 7), none⟩,
      ⟨some 24, .iaddr 2 (.t 22) (.t 23), none⟩,
      ⟨some 25, .load 2 true (.t 24), none⟩,
      ⟨some 9, .alloc [.s (.int .i64 0), .s (.int .i64 0)], none⟩,
      ⟨none, .store 2 (.t 9) (.t 25), none⟩] (none))
    (.seq (.region [
      ⟨some 26, .cp (.t 2), none⟩,
      ⟨some 27, .load 2 true (.t 8), none⟩,
      ⟨some 28, .load 2 true (.t 9), none⟩,
      ⟨some 29, .callv false (.t 26) [(.t 27), (.t 28)], none⟩,
      ⟨some 10, .cp (.t 29), none⟩] (none))
    (.seq (.region [
      ⟨some 30, .cp (.t 10), none⟩,
      ⟨some 31, .bin .neq (.t 30) (.c (.s (.int .i64 0))), none⟩] (none))
    (.cond (.t 31)
      (.seq (.region [
        ⟨some 32, .cp (.t 10), none⟩,
        ⟨some 6, .cp (.t 32), none⟩] (none))
      .ret)
      .skip)))))))
  (.region [
    ⟨some 33, .bin .add (.t 13) (.c (.s (.int .i64 1))), none⟩,
    ⟨some 13, .cp (.t 33), none⟩] (none)))))
def x_slices_CompareFunc_api_Ref_api_Ref_api_Ref_api_Ref : XF := { np := 3, results := [(.inl 6, .v)], body :=
  (.seq (.region [
    ⟨some 6, .cp (.c (.s (.int .i64 0))), none⟩] (none))
  (.seq (.seq (.region [
    ⟨some 11, .cp (.t 0), none⟩,
    ⟨some 12, .len false (.t 11), none⟩,
    ⟨some 13, .cp (.c (.s (.int .i64 0))), none⟩] (none))
  (.block 0
    (.loop x_slices_CompareFunc_api_Ref_api_Ref_api_Ref_api_Ref_l0)))
  (.seq (.seq (.region [
    ⟨some 34, .cp (.t 0), none⟩,
    ⟨some 35, .len false (.t 34), none⟩,
    ⟨some 36, .cp (.t 1), none⟩,
    ⟨some 37, .len false (.t 36), none⟩,
    ⟨some 38, .bin .lss (.t 35) (.t 37), none⟩] (none))
  (.cond (.t 38)
    (.seq (.region [
      ⟨some 6, .cp (.c (.s (.int .i64 (-1)))), none⟩] (none))
    .ret)
    .skip))
  (.seq (.region [
    ⟨some 6, .cp (.c (.s (.int .i64 0))), none⟩] (none))
  .ret)))) }
def x_sleuthlaw11_flag : XF := { np := 1, results := [(.inl 2, .v)], body :=
  (.seq (.region [
    ⟨some 2, .cp (.c (.s (.int .i64 0))), none⟩] (none))
  (.seq (.seq (.region [
    ⟨some 3, .cp (.t 0), none⟩] (none))
  (.cond (.t 3)
    (.seq (.region [
      ⟨some 2, .cp (.c (.s (.int .i64 1))), none⟩] (none))
    .ret)
    .skip))
  (.seq (.region [
    ⟨some 2, .cp (.c (.s (.int .i64 0))), none⟩] (none))
  .ret))) }
def x_span_View_text : XF := { np := 2, results := [(.inl 4, .v)], body :=
  (.seq (.region [
    ⟨some 2, .box false (.t 0), none⟩,
    ⟨some 4, .cp (.c (.s (.string ⟨#[]⟩))), none⟩] (none))
  (.seq (.seq (.region [
    ⟨some 7, .cp (.t 1), none⟩] (none))
  (.block 0
    (.seq (.region [
      ⟨some 9, .bin .eql (.t 7) (.c (.s (.string ⟨#[107, 105, 110, 100]⟩))), none⟩,
      ⟨some 8, .cp (.t 9), none⟩] (none))
    (.cond (.t 8)
      (.seq (.region [
        ⟨some 11, .faddr (.t 2) 0, none⟩,
        ⟨some 12, .faddr (.t 11) 5, none⟩,
        ⟨some 13, .load 1 false (.t 12), none⟩,
        ⟨some 14, .call false i_span_KindName [(.t 13)], none⟩,
        ⟨some 10, .cp (.t 14), none⟩,
        ⟨some 15, .extract (.t 10) 0, none⟩,
        ⟨some 16, .extract (.t 10) 1, none⟩,
        ⟨some 5, .cp (.t 15), none⟩,
        ⟨some 6, .cp (.t 16), none⟩] (none))
      (.seq (.region [
        ⟨some 17, .cp (.t 5), none⟩,
        ⟨some 4, .cp (.t 17), none⟩] (none))
      .ret))
      (.seq (.region [
        ⟨some 19, .bin .eql (.t 7) (.c (.s (.string ⟨#[111, 112, 101, 114, 97, 116, 105, 111, 110]⟩))), none⟩,
        ⟨some 18, .cp (.t 19), none⟩] (none))
      (.cond (.t 18)
        (.seq (.region [
          ⟨some 20, .faddr (.t 2) 0, none⟩,
          ⟨some 21, .faddr (.t 20) 8, none⟩,
          ⟨some 22, .load 1 false (.t 21), none⟩,
          ⟨some 4, .cp (.t 22), none⟩] (none))
        .ret)
        (.seq (.region [
          ⟨some 24, .bin .eql (.t 7) (.c (.s (.string ⟨#[115, 101, 114, 118, 105, 99, 101]⟩))), none⟩,
          ⟨some 23, .cp (.t 24), none⟩] (none))
        (.cond (.t 23)
          (.seq (.region [
            ⟨some 25, .faddr (.t 2) 0, none⟩,
            ⟨some 26, .faddr (.t 25) 6, none⟩,
            ⟨some 27, .load 1 false (.t 26), none⟩,
            ⟨some 4, .cp (.t 27), none⟩] (none))
          .ret)
          .skip))))))))
  (.seq (.region [
    ⟨some 28, .faddr (.t 2) 0, none⟩,
    ⟨some 29, .faddr (.t 28) 7, none⟩,
    ⟨some 30, .load 1 false (.t 29), none⟩,
    ⟨some 4, .cp (.t 30), none⟩] (none))
  .ret))) }
def x_span_View_number : XF := { np := 2, results := [(.inl 4, .v)], body :=
  (.seq (.region [
    ⟨some 2, .box false (.t 0), none⟩,
    ⟨some 4, .cp (.c (.s (.int .i64 0))), none⟩] (none))
  (.seq (.region [
    ⟨some 6, .faddr (.t 2) 0, none⟩,
    ⟨some 7, .load 14 true (.t 6), none⟩,
    ⟨some 5, .alloc [.s (.int .i64 0), .s (.int .i64 0), .s (.int .i64 0), .s (.int .i64 0), .s (.int .i64 0), .s (.int .i64 0), .s (.string ⟨#[]⟩), .s (.string ⟨#[]⟩), .s (.string ⟨#[]⟩), .s (.int .i64 0), .s (.int .i64 0), .s (.bool false), .s (.slice none 0 0), .s (.slice none 0 0)], none⟩,
    ⟨none, .store 14 (.t 5) (.t 7), none⟩] (none))
  (.seq (.seq (.region [
    ⟨some 8, .cp (.t 1), none⟩] (none))
  (.block 0
    (.seq (.region [
      ⟨some 10, .bin .eql (.t 8) (.c (.s (.string ⟨#[99, 108, 111, 99, 107]⟩))), none⟩,
      ⟨some 9, .cp (.t 10), none⟩] (none))
    (.cond (.t 9)
      (.seq (.region [
        ⟨some 11, .faddr (.t 5) 4, none⟩,
        ⟨some 12, .load 1 false (.t 11), none⟩,
        ⟨some 4, .cp (.t 12), none⟩] (none))
      .ret)
      (.seq (.region [
        ⟨some 14, .bin .eql (.t 8) (.c (.s (.string ⟨#[100, 117, 114, 97, 116, 105, 111, 110]⟩))), none⟩,
        ⟨some 13, .cp (.t 14), none⟩] (none))
      (.cond (.t 13)
        (.seq (.region [
          ⟨some 15, .load 14 true (.t 5), none⟩,
          ⟨some 16, .call false i_span_Duration [(.t 15)], none⟩,
          ⟨some 4, .cp (.t 16), none⟩] (none))
        .ret)
        (.seq (.region [
          ⟨some 18, .bin .eql (.t 8) (.c (.s (.string ⟨#[101, 110, 100]⟩))), none⟩,
          ⟨some 17, .cp (.t 18), none⟩] (none))
        (.cond (.t 17)
          (.seq (.region [
            ⟨some 19, .faddr (.t 5) 10, none⟩,
            ⟨some 20, .load 1 false (.t 19), none⟩,
            ⟨some 4, .cp (.t 20), none⟩] (none))
          .ret)
          (.seq (.region [
            ⟨some 22, .bin .eql (.t 8) (.c (.s (.string ⟨#[105, 100]⟩))), none⟩,
            ⟨some 21, .cp (.t 22), none⟩] (none))
          (.cond (.t 21)
            (.seq (.region [
              ⟨some 23, .faddr (.t 5) 1, none⟩,
              ⟨some 24, .load 1 false (.t 23), none⟩,
              ⟨some 4, .cp (.t 24), none⟩] (none))
            .ret)
            (.seq (.region [
              ⟨some 26, .bin .eql (.t 8) (.c (.s (.string ⟨#[112, 97, 114, 101, 110, 116]⟩))), none⟩,
              ⟨some 25, .cp (.t 26), none⟩] (none))
            (.cond (.t 25)
              (.seq (.region [
                ⟨some 27, .faddr (.t 5) 2, none⟩,
                ⟨some 28, .load 1 false (.t 27), none⟩,
                ⟨some 4, .cp (.t 28), none⟩] (none))
              .ret)
              (.seq (.region [
                ⟨some 30, .bin .eql (.t 8) (.c (.s (.string ⟨#[114, 101, 118, 105, 115, 105, 111, 110]⟩))), none⟩,
                ⟨some 29, .cp (.t 30), none⟩] (none))
              (.cond (.t 29)
                (.seq (.region [
                  ⟨some 31, .faddr (.t 5) 3, none⟩,
                  ⟨some 32, .load 1 false (.t 31), none⟩,
                  ⟨some 4, .cp (.t 32), none⟩] (none))
                .ret)
                (.seq (.region [
                  ⟨some 34, .bin .eql (.t 8) (.c (.s (.string ⟨#[115, 108, 111, 116]⟩))), none⟩,
                  ⟨some 33, .cp (.t 34), none⟩] (none))
                (.cond (.t 33)
                  (.seq (.region [
                    ⟨some 35, .faddr (.t 5) 0, none⟩,
                    ⟨some 36, .load 1 false (.t 35), none⟩,
                    ⟨some 37, .call false i_span_Slot [(.t 36)], none⟩,
                    ⟨some 4, .cp (.t 37), none⟩] (none))
                  .ret)
                  (.seq (.region [
                    ⟨some 39, .bin .eql (.t 8) (.c (.s (.string ⟨#[115, 116, 97, 114, 116]⟩))), none⟩,
                    ⟨some 38, .cp (.t 39), none⟩] (none))
                  (.cond (.t 38)
                    (.seq (.region [
                      ⟨some 40, .faddr (.t 5) 9, none⟩,
                      ⟨some 41, .load 1 false (.t 40), none⟩,
                      ⟨some 4, .cp (.t 41), none⟩] (none))
                    .ret)
                    .skip))))))))))))))))))
  (.seq (.region [
    ⟨some 42, .faddr (.t 5) 0, none⟩,
    ⟨some 43, .load 1 false (.t 42), none⟩,
    ⟨some 4, .cp (.t 43), none⟩] (none))
  .ret)))) }
def x_slices_Contains_string_string : XF := { np := 2, results := [(.inl 4, .v)], body :=
  (.seq (.region [
    ⟨some 4, .cp (.c (.s (.bool false))), none⟩] (none))
  (.seq (.region [
    ⟨some 5, .cp (.t 0), none⟩,
    ⟨some 6, .cp (.t 1), none⟩,
    ⟨some 7, .call false i_slices_Index_string_string [(.t 5), (.t 6)], none⟩,
    ⟨some 8, .bin .geq (.t 7) (.c (.s (.int .i64 0))), none⟩,
    ⟨some 4, .cp (.t 8), none⟩] (none))
  .ret)) }
def x_attribute_within_l0 : XC :=
  (.seq (.region [
    ⟨some 11, .bin .lss (.t 10) (.t 9), none⟩] (none))
  (.seq (.cond (.t 11)
    .skip
    (.exit 0))
  (.seq (.block 1
    (.seq (.region [
      ⟨some 12, .cp (.t 10), none⟩,
      ⟨some 7, .cp (.t 12), none⟩] (none))
    (.seq (.region [
      ⟨some 13, .cp (.t 0), none⟩,
      ⟨some 14, .cp (.t 7), none⟩,
      ⟨some 15, .idxS (.t 13) (.t 14), none⟩,
      ⟨some 16, .cp (.t 1), none⟩,
      ⟨some 17, .bin .lss (.t 15) (.t 16), none⟩,
      ⟨some 18, .cp (.t 17), none⟩,
      ⟨some 19, .cp (.t 0), some (18, false)⟩,
      ⟨some 20, .cp (.t 7), some (18, false)⟩,
      ⟨some 21, .idxS (.t 19) (.t 20), some (18, false)⟩,
      ⟨some 22, .cp (.t 2), some (18, false)⟩,
      ⟨some 23, .bin .gtr (.t 21) (.t 22), some (18, false)⟩,
      ⟨some 24, .pick (.t 18) (.c (.s (.bool true))) (.t 23), none⟩] (none))
    (.cond (.t 24)
      (.seq (.region [
        ⟨some 6, .cp (.c (.s (.bool false))), none⟩] (none))
      .ret)
      .skip))))
  (.region [
    ⟨some 25, .bin .add (.t 10) (.c (.s (.int .i64 1))), none⟩,
    ⟨some 10, .cp (.t 25), none⟩] (none)))))
def x_attribute_within : XF := { np := 3, results := [(.inl 6, .v)], body :=
  (.seq (.region [
    ⟨some 6, .cp (.c (.s (.bool false))), none⟩] (none))
  (.seq (.seq (.region [
    ⟨some 8, .cp (.t 0), none⟩,
    ⟨some 9, .len true (.t 8), none⟩,
    ⟨some 10, .cp (.c (.s (.int .i64 0))), none⟩] (none))
  (.block 0
    (.loop x_attribute_within_l0)))
  (.seq (.region [
    ⟨some 6, .cp (.c (.s (.bool true))), none⟩] (none))
  .ret))) }
def x_attribute_place : XF := { np := 2, results := [(.inl 4, .v), (.inl 5, .v)], body :=
  (.seq (.region [
    ⟨some 4, .cp (.c (.s (.int .i64 0))), none⟩,
    ⟨some 5, .cp (.c (.s (.bool false))), none⟩] (none))
  (.seq (.region [
    ⟨some 6, .cp (.t 0), none⟩,
    ⟨some 7, .cp (.t 1), none⟩,
    ⟨some 8, .call false i_slices_BinarySearchFunc_api_Attr_api_Attr_string [(.t 6), (.t 7), (.c (.fn i_attribute_place_1 [] []))], none⟩,
    ⟨some 9, .extract (.t 8) 0, none⟩,
    ⟨some 10, .extract (.t 8) 1, none⟩,
    ⟨some 4, .cp (.t 9), none⟩,
    ⟨some 5, .cp (.t 10), none⟩] (none))
  .ret)) }
def x_span_kinds : XF := { np := 0, results := [(.inl 0, .v)], body :=
  (.seq (.region [
    ⟨some 0, .cp (.c (.s (.slice none 0 0))), none⟩] (none))
  (.seq (.region [
    ⟨some 1, .bslice false 1 [(.c (.s (.string ⟨#[]⟩))), (.c (.s (.string ⟨#[105, 110, 116, 101, 114, 110, 97, 108]⟩))), (.c (.s (.string ⟨#[99, 108, 105, 101, 110, 116]⟩))), (.c (.s (.string ⟨#[115, 101, 114, 118, 101, 114]⟩))), (.c (.s (.string ⟨#[112, 114, 111, 100, 117, 99, 101, 114]⟩))), (.c (.s (.string ⟨#[99, 111, 110, 115, 117, 109, 101, 114]⟩)))], none⟩,
    ⟨some 0, .cp (.t 1), none⟩] (none))
  .ret)) }
def x_slices_Index_string_string_l0 : XC :=
  (.seq (.region [
    ⟨some 9, .bin .lss (.t 8) (.t 7), none⟩] (none))
  (.seq (.cond (.t 9)
    .skip
    (.exit 0))
  (.seq (.block 1
    (.seq (.region [
      ⟨some 10, .cp (.t 8), none⟩,
      ⟨some 5, .cp (.t 10), none⟩] (none))
    (.seq (.region [
      ⟨some 11, .cp (.t 1), none⟩,
      ⟨some 12, .cp (.t 0), none⟩,
      ⟨some 13, .cp (.t 5), none⟩,
      ⟨some 14, .iaddr 1 (.t 12) (.t 13), none⟩,
      ⟨some 15, .load 1 false (.t 14), none⟩,
      ⟨some 16, .bin .eql (.t 11) (.t 15), none⟩] (none))
    (.cond (.t 16)
      (.seq (.region [
        ⟨some 17, .cp (.t 5), none⟩,
        ⟨some 4, .cp (.t 17), none⟩] (none))
      .ret)
      .skip))))
  (.region [
    ⟨some 18, .bin .add (.t 8) (.c (.s (.int .i64 1))), none⟩,
    ⟨some 8, .cp (.t 18), none⟩] (none)))))
def x_slices_Index_string_string : XF := { np := 2, results := [(.inl 4, .v)], body :=
  (.seq (.region [
    ⟨some 4, .cp (.c (.s (.int .i64 0))), none⟩] (none))
  (.seq (.seq (.region [
    ⟨some 6, .cp (.t 0), none⟩,
    ⟨some 7, .len false (.t 6), none⟩,
    ⟨some 8, .cp (.c (.s (.int .i64 0))), none⟩] (none))
  (.block 0
    (.loop x_slices_Index_string_string_l0)))
  (.seq (.region [
    ⟨some 4, .cp (.c (.s (.int .i64 (-1)))), none⟩] (none))
  .ret))) }
def x_span_chosen_l0 : XC :=
  (.seq (.region [
    ⟨some 11, .bin .lss (.t 10) (.t 9), none⟩] (none))
  (.seq (.cond (.t 11)
    .skip
    (.exit 0))
  (.seq (.block 1
    (.seq (.region [
      ⟨some 12, .cp (.t 10), none⟩,
      ⟨some 13, .iaddr 14 (.t 8) (.t 10), none⟩,
      ⟨some 14, .load 14 true (.t 13), none⟩,
      ⟨some 7, .alloc [.s (.int .i64 0), .s (.int .i64 0), .s (.int .i64 0), .s (.int .i64 0), .s (.int .i64 0), .s (.int .i64 0), .s (.string ⟨#[]⟩), .s (.string ⟨#[]⟩), .s (.string ⟨#[]⟩), .s (.int .i64 0), .s (.int .i64 0), .s (.bool false), .s (.slice none 0 0), .s (.slice none 0 0)], none⟩,
      ⟨some 6, .cp (.t 12), none⟩,
      ⟨none, .store 14 (.t 7) (.t 14), none⟩] (none))
    (.seq (.region [
      ⟨some 15, .cp (.t 1), none⟩,
      ⟨some 16, .cp (.t 6), none⟩,
      ⟨some 17, .callv false (.t 15) [(.t 16)], none⟩] (none))
    (.cond (.t 17)
      (.region [
        ⟨some 18, .cp (.t 5), none⟩,
        ⟨some 19, .load 14 true (.t 7), none⟩,
        ⟨some 20, .call false i_span_copied [(.t 19)], none⟩,
        ⟨some 21, .bslice false 14 [(.t 20)], none⟩,
        ⟨some 22, .append 14 837723144972 (.t 18) (.t 21), none⟩,
        ⟨some 5, .cp (.t 22), none⟩] (none))
      .skip))))
  (.region [
    ⟨some 23, .bin .add (.t 10) (.c (.s (.int .i64 1))), none⟩,
    ⟨some 10, .cp (.t 23), none⟩] (none)))))
def x_span_chosen : XF := { np := 2, results := [(.inl 4, .v)], body :=
  (.seq (.region [
    ⟨some 4, .cp (.c (.s (.slice none 0 0))), none⟩] (none))
  (.seq (.region [
    ⟨some 5, .cp (.c (.s (.slice none 0 0))), none⟩] (none))
  (.seq (.seq (.region [
    ⟨some 8, .cp (.t 0), none⟩,
    ⟨some 9, .len false (.t 8), none⟩,
    ⟨some 10, .cp (.c (.s (.int .i64 0))), none⟩] (none))
  (.block 0
    (.loop x_span_chosen_l0)))
  (.seq (.region [
    ⟨some 24, .cp (.t 5), none⟩,
    ⟨some 4, .cp (.t 24), none⟩] (none))
  .ret)))) }
def x_span_set : XF := { np := 1, results := [(.inl 2, .v)], body :=
  (.seq (.region [
    ⟨some 2, .cp (.c (.s (.slice none 0 0))), none⟩] (none))
  (.seq (.region [
    ⟨some 3, .cp (.t 0), none⟩,
    ⟨some 4, .call false i_slices_Values_api_Span_api_Span [(.t 3)], none⟩,
    ⟨some 5, .call true i_slices_SortedFunc_api_Span [(.t 4), (.c (.fn i_span_Compare [] []))], none⟩,
    ⟨some 6, .call false i_slices_CompactFunc_api_Span_api_Span [(.t 5), (.c (.fn i_span_Equal [] []))], none⟩,
    ⟨some 2, .cp (.t 6), none⟩] (none))
  .ret)) }
def x_span_Winners_1 : XF := { np := 2, results := [(.inl 3, .v)], body :=
  (.seq (.region [
    ⟨some 3, .cp (.c (.s (.bool false))), none⟩] (none))
  (.seq (.region [
    ⟨some 4, .cp (.t 0), none⟩,
    ⟨some 5, .bin .add (.t 4) (.c (.s (.int .i64 1))), none⟩,
    ⟨some 6, .load 1 false (.t 1), none⟩,
    ⟨some 7, .len false (.t 6), none⟩,
    ⟨some 8, .bin .eql (.t 5) (.t 7), none⟩,
    ⟨some 9, .cp (.t 8), none⟩,
    ⟨some 10, .load 1 false (.t 1), some (9, false)⟩,
    ⟨some 11, .cp (.t 0), some (9, false)⟩,
    ⟨some 12, .bin .add (.t 11) (.c (.s (.int .i64 1))), some (9, false)⟩,
    ⟨some 13, .iaddr 14 (.t 10) (.t 12), some (9, false)⟩,
    ⟨some 14, .load 14 true (.t 13), some (9, false)⟩,
    ⟨some 15, .call false i_span_RefOf [(.t 14)], some (9, false)⟩,
    ⟨some 16, .load 1 false (.t 1), some (9, false)⟩,
    ⟨some 17, .cp (.t 0), some (9, false)⟩,
    ⟨some 18, .iaddr 14 (.t 16) (.t 17), some (9, false)⟩,
    ⟨some 19, .load 14 true (.t 18), some (9, false)⟩,
    ⟨some 20, .call false i_span_RefOf [(.t 19)], some (9, false)⟩,
    ⟨some 21, .eqv (.a [.i, .i]) true (.t 15) (.t 20), some (9, false)⟩,
    ⟨some 22, .pick (.t 9) (.c (.s (.bool true))) (.t 21), none⟩,
    ⟨some 3, .cp (.t 22), none⟩] (some [(11, none)]))
  .ret)) }
def x_cmp_isNaN_string : XF := { np := 1, results := [(.inl 2, .v)], body :=
  (.seq (.region [
    ⟨some 2, .cp (.c (.s (.bool false))), none⟩] (none))
  (.seq (.region [
    ⟨some 3, .cp (.t 0), none⟩,
    ⟨some 4, .cp (.t 0), none⟩,
    ⟨some 5, .bin .neq (.t 3) (.t 4), none⟩,
    ⟨some 2, .cp (.t 5), none⟩] (none))
  .ret)) }
def x_cmp_isNaN_int : XF := { np := 1, results := [(.inl 2, .v)], body :=
  (.seq (.region [
    ⟨some 2, .cp (.c (.s (.bool false))), none⟩] (none))
  (.seq (.region [
    ⟨some 3, .cp (.t 0), none⟩,
    ⟨some 4, .cp (.t 0), none⟩,
    ⟨some 5, .bin .neq (.t 3) (.t 4), none⟩,
    ⟨some 2, .cp (.t 5), none⟩] (none))
  .ret)) }
def x_slices_CompareFunc_api_Attr_api_Attr_api_Attr_api_Attr_l0 : XC :=
  (.seq (.region [
    ⟨some 14, .bin .lss (.t 13) (.t 12), none⟩] (none))
  (.seq (.cond (.t 14)
    .skip
    (.exit 0))
  (.seq (.block 1
    (.seq (.region [
      ⟨some 15, .cp (.t 13), none⟩,
      ⟨some 16, .iaddr 4 (.t 11) (.t 13), none⟩,
      ⟨some 17, .load 4 true (.t 16), none⟩,
      ⟨some 8, .alloc [.s (.string ⟨#[]⟩), .s (.int .i64 0), .s (.string ⟨#[]⟩), .s (.int .i64 0)], none⟩,
      ⟨some 7, .cp (.t 15), none⟩,
      ⟨none, .store 4 (.t 8) (.t 17), none⟩] (none))
    (.seq (.seq (.region [
      ⟨some 18, .cp (.t 7), none⟩,
      ⟨some 19, .cp (.t 1), none⟩,
      ⟨some 20, .len false (.t 19), none⟩,
      ⟨some 21, .bin .geq (.t 18) (.t 20), none⟩] (none))
    (.cond (.t 21)
      (.seq (.region [
        ⟨some 6, .cp (.c (.s (.int .i64 1))), none⟩] (none))
      .ret)
      .skip))
    (.seq (.region [
      ⟨some 22, .cp (.t 1), none⟩,
      ⟨some 23, .cp (.t 7), none⟩,
      ⟨some 24, .iaddr 4 (.t 22) (.t 23), none⟩,
      ⟨some 25, .load 4 true (.t 24), none⟩,
      ⟨some 9, .alloc [.s (.string ⟨#[]⟩), .s (.int .i64 0), .s (.string ⟨#[]⟩), .s (.int .i64 0)], none⟩,
      ⟨none, .store 4 (.t 9) (.t 25), none⟩] (none))
    (.seq (.region [
      ⟨some 26, .cp (.t 2), none⟩,
      ⟨some 27, .load 4 true (.t 8), none⟩,
      ⟨some 28, .load 4 true (.t 9), none⟩,
      ⟨some 29, .callv false (.t 26) [(.t 27), (.t 28)], none⟩,
      ⟨some 10, .cp (.t 29), none⟩] (none))
    (.seq (.region [
      ⟨some 30, .cp (.t 10), none⟩,
      ⟨some 31, .bin .neq (.t 30) (.c (.s (.int .i64 0))), none⟩] (none))
    (.cond (.t 31)
      (.seq (.region [
        ⟨some 32, .cp (.t 10), none⟩,
        ⟨some 6, .cp (.t 32), none⟩] (none))
      .ret)
      .skip)))))))
  (.region [
    ⟨some 33, .bin .add (.t 13) (.c (.s (.int .i64 1))), none⟩,
    ⟨some 13, .cp (.t 33), none⟩] (none)))))
def x_slices_CompareFunc_api_Attr_api_Attr_api_Attr_api_Attr : XF := { np := 3, results := [(.inl 6, .v)], body :=
  (.seq (.region [
    ⟨some 6, .cp (.c (.s (.int .i64 0))), none⟩] (none))
  (.seq (.seq (.region [
    ⟨some 11, .cp (.t 0), none⟩,
    ⟨some 12, .len false (.t 11), none⟩,
    ⟨some 13, .cp (.c (.s (.int .i64 0))), none⟩] (none))
  (.block 0
    (.loop x_slices_CompareFunc_api_Attr_api_Attr_api_Attr_api_Attr_l0)))
  (.seq (.seq (.region [
    ⟨some 34, .cp (.t 0), none⟩,
    ⟨some 35, .len false (.t 34), none⟩,
    ⟨some 36, .cp (.t 1), none⟩,
    ⟨some 37, .len false (.t 36), none⟩,
    ⟨some 38, .bin .lss (.t 35) (.t 37), none⟩] (none))
  (.cond (.t 38)
    (.seq (.region [
      ⟨some 6, .cp (.c (.s (.int .i64 (-1)))), none⟩] (none))
    .ret)
    .skip))
  (.seq (.region [
    ⟨some 6, .cp (.c (.s (.int .i64 0))), none⟩] (none))
  .ret)))) }
def x_attribute_CompareAttrs_1 : XF := { np := 2, results := [(.inl 4, .v)], body :=
  (.seq (.region [
    ⟨some 2, .box false (.t 0), none⟩,
    ⟨some 3, .box false (.t 1), none⟩,
    ⟨some 4, .cp (.c (.s (.int .i64 0))), none⟩] (none))
  (.seq (.region [
    ⟨some 5, .faddr (.t 2) 0, none⟩,
    ⟨some 6, .load 1 false (.t 5), none⟩,
    ⟨some 7, .faddr (.t 3) 0, none⟩,
    ⟨some 8, .load 1 false (.t 7), none⟩,
    ⟨some 9, .call false i_cmp_Compare_string [(.t 6), (.t 8)], none⟩,
    ⟨some 10, .faddr (.t 2) 1, none⟩,
    ⟨some 11, .load 3 true (.t 10), none⟩,
    ⟨some 12, .faddr (.t 3) 1, none⟩,
    ⟨some 13, .load 3 true (.t 12), none⟩,
    ⟨some 14, .call false i_attribute_CompareValues [(.t 11), (.t 13)], none⟩,
    ⟨some 15, .bslice false 1 [(.t 9), (.t 14)], none⟩,
    ⟨some 16, .call false i_cmp_Or_int [(.t 15)], none⟩,
    ⟨some 4, .cp (.t 16), none⟩] (some [(4, some 6), (4, some 8)]))
  .ret)) }
def x_attribute_CompareValues : XF := { np := 2, results := [(.inl 4, .v)], body :=
  (.seq (.region [
    ⟨some 2, .box false (.t 0), none⟩,
    ⟨some 3, .box false (.t 1), none⟩,
    ⟨some 4, .cp (.c (.s (.int .i64 0))), none⟩] (none))
  (.seq (.region [
    ⟨some 5, .faddr (.t 2) 0, none⟩,
    ⟨some 6, .load 1 false (.t 5), none⟩,
    ⟨some 7, .faddr (.t 3) 0, none⟩,
    ⟨some 8, .load 1 false (.t 7), none⟩,
    ⟨some 9, .call false i_cmp_Compare_int [(.t 6), (.t 8)], none⟩,
    ⟨some 10, .faddr (.t 2) 1, none⟩,
    ⟨some 11, .load 1 false (.t 10), none⟩,
    ⟨some 12, .faddr (.t 3) 1, none⟩,
    ⟨some 13, .load 1 false (.t 12), none⟩,
    ⟨some 14, .call false i_cmp_Compare_string [(.t 11), (.t 13)], none⟩,
    ⟨some 15, .faddr (.t 2) 2, none⟩,
    ⟨some 16, .load 1 false (.t 15), none⟩,
    ⟨some 17, .faddr (.t 3) 2, none⟩,
    ⟨some 18, .load 1 false (.t 17), none⟩,
    ⟨some 19, .call false i_cmp_Compare_int [(.t 16), (.t 18)], none⟩,
    ⟨some 20, .bslice false 1 [(.t 9), (.t 14), (.t 19)], none⟩,
    ⟨some 21, .call false i_cmp_Or_int [(.t 20)], none⟩,
    ⟨some 4, .cp (.t 21), none⟩] (some [(4, none), (9, some 11), (9, some 13)]))
  .ret)) }
def x_slices_BinarySearchFunc_api_Attr_api_Attr_string_l0 : XC :=
  (.seq (.seq (.region [
    ⟨some 15, .cp (.t 9), none⟩,
    ⟨some 16, .cp (.t 10), none⟩,
    ⟨some 17, .bin .lss (.t 15) (.t 16), none⟩] (none))
  (.cond (.t 17)
    .skip
    (.exit 0)))
  (.block 1
    (.seq (.region [
      ⟨some 18, .cp (.t 9), none⟩,
      ⟨some 19, .cp (.t 10), none⟩,
      ⟨some 20, .bin .add (.t 18) (.t 19), none⟩,
      ⟨some 21, .conv .u64 (.t 20), none⟩,
      ⟨some 22, .bin .shr (.t 21) (.c (.s (.int .u64 1))), none⟩,
      ⟨some 23, .conv .i64 (.t 22), none⟩,
      ⟨some 11, .cp (.t 23), none⟩] (none))
    (.seq (.region [
      ⟨some 24, .cp (.t 2), none⟩,
      ⟨some 25, .cp (.t 0), none⟩,
      ⟨some 26, .cp (.t 11), none⟩,
      ⟨some 27, .iaddr 4 (.t 25) (.t 26), none⟩,
      ⟨some 28, .load 4 true (.t 27), none⟩,
      ⟨some 29, .cp (.t 1), none⟩,
      ⟨some 30, .callv false (.t 24) [(.t 28), (.t 29)], none⟩,
      ⟨some 31, .bin .lss (.t 30) (.c (.s (.int .i64 0))), none⟩] (none))
    (.cond (.t 31)
      (.region [
        ⟨some 32, .cp (.t 11), none⟩,
        ⟨some 33, .bin .add (.t 32) (.c (.s (.int .i64 1))), none⟩,
        ⟨some 9, .cp (.t 33), none⟩] (none))
      (.region [
        ⟨some 34, .cp (.t 11), none⟩,
        ⟨some 10, .cp (.t 34), none⟩] (none)))))))
def x_slices_BinarySearchFunc_api_Attr_api_Attr_string : XF := { np := 3, results := [(.inl 6, .v), (.inl 7, .v)], body :=
  (.seq (.region [
    ⟨some 6, .cp (.c (.s (.int .i64 0))), none⟩,
    ⟨some 7, .cp (.c (.s (.bool false))), none⟩] (none))
  (.seq (.region [
    ⟨some 12, .cp (.t 0), none⟩,
    ⟨some 13, .len false (.t 12), none⟩,
    ⟨some 8, .cp (.t 13), none⟩] (none))
  (.seq (.region [
    ⟨some 14, .cp (.t 8), none⟩,
    ⟨some 9, .cp (.c (.s (.int .i64 0))), none⟩,
    ⟨some 10, .cp (.t 14), none⟩] (none))
  (.seq (.block 0
    (.loop x_slices_BinarySearchFunc_api_Attr_api_Attr_string_l0))
  (.seq (.region [
    ⟨some 35, .cp (.t 9), none⟩,
    ⟨some 36, .cp (.t 9), none⟩,
    ⟨some 37, .cp (.t 8), none⟩,
    ⟨some 38, .bin .lss (.t 36) (.t 37), none⟩,
    ⟨some 39, .cp (.t 38), none⟩,
    ⟨some 40, .cp (.t 2), some (39, true)⟩,
    ⟨some 41, .cp (.t 0), some (39, true)⟩,
    ⟨some 42, .cp (.t 9), some (39, true)⟩,
    ⟨some 43, .iaddr 4 (.t 41) (.t 42), some (39, true)⟩,
    ⟨some 44, .load 4 true (.t 43), some (39, true)⟩,
    ⟨some 45, .cp (.t 1), some (39, true)⟩,
    ⟨some 46, .callv false (.t 40) [(.t 44), (.t 45)], some (39, true)⟩,
    ⟨some 47, .bin .eql (.t 46) (.c (.s (.int .i64 0))), some (39, true)⟩,
    ⟨some 48, .pick (.t 39) (.t 47) (.c (.s (.bool false))), none⟩,
    ⟨some 6, .cp (.t 35), none⟩,
    ⟨some 7, .cp (.t 48), none⟩] (none))
  .ret))))) }
def x_attribute_place_1 : XF := { np := 2, results := [(.inl 4, .v)], body :=
  (.seq (.region [
    ⟨some 2, .box false (.t 0), none⟩,
    ⟨some 4, .cp (.c (.s (.int .i64 0))), none⟩] (none))
  (.seq (.region [
    ⟨some 5, .faddr (.t 2) 0, none⟩,
    ⟨some 6, .load 1 false (.t 5), none⟩,
    ⟨some 7, .cp (.t 1), none⟩,
    ⟨some 8, .call false i_cmp_Compare_string [(.t 6), (.t 7)], none⟩,
    ⟨some 4, .cp (.t 8), none⟩] (none))
  .ret)) }
def x_span_copied : XF := { np := 1, results := [(.inr (2, 14, true), .v)], body :=
  (.seq (.region [
    ⟨some 1, .box false (.t 0), none⟩,
    ⟨some 2, .alloc [.s (.int .i64 0), .s (.int .i64 0), .s (.int .i64 0), .s (.int .i64 0), .s (.int .i64 0), .s (.int .i64 0), .s (.string ⟨#[]⟩), .s (.string ⟨#[]⟩), .s (.string ⟨#[]⟩), .s (.int .i64 0), .s (.int .i64 0), .s (.bool false), .s (.slice none 0 0), .s (.slice none 0 0)], none⟩] (none))
  (.seq (.region [
    ⟨some 3, .faddr (.t 1) 12, none⟩,
    ⟨some 4, .load 1 false (.t 3), none⟩,
    ⟨some 5, .call false i_slices_Clone_api_Attr_api_Attr [(.t 4)], none⟩,
    ⟨some 6, .faddr (.t 1) 13, none⟩,
    ⟨some 7, .load 1 false (.t 6), none⟩,
    ⟨some 8, .call false i_slices_Clone_api_Ref_api_Ref [(.t 7)], none⟩,
    ⟨some 9, .faddr (.t 1) 12, none⟩,
    ⟨none, .store 1 (.t 9) (.t 5), none⟩,
    ⟨some 10, .faddr (.t 1) 13, none⟩,
    ⟨none, .store 1 (.t 10) (.t 8), none⟩] (some [(2, some 4)]))
  (.seq (.region [
    ⟨some 11, .load 14 true (.t 1), none⟩,
    ⟨none, .store 14 (.t 2) (.t 11), none⟩] (none))
  .ret))) }
def x_slices_CompactFunc_api_Span_api_Span_l0 : XC :=
  (.seq (.seq (.region [
    ⟨some 32, .cp (.t 7), none⟩,
    ⟨some 33, .cp (.t 6), none⟩,
    ⟨some 34, .len false (.t 33), none⟩,
    ⟨some 35, .bin .lss (.t 32) (.t 34), none⟩] (none))
  (.cond (.t 35)
    .skip
    (.exit 2)))
  (.seq (.block 3
    (.seq (.region [
      ⟨some 38, .cp (.t 1), none⟩,
      ⟨some 39, .cp (.t 6), none⟩,
      ⟨some 40, .cp (.t 7), none⟩,
      ⟨some 41, .iaddr 14 (.t 39) (.t 40), none⟩,
      ⟨some 42, .load 14 true (.t 41), none⟩,
      ⟨some 43, .cp (.t 6), none⟩,
      ⟨some 44, .cp (.t 7), none⟩,
      ⟨some 45, .bin .sub (.t 44) (.c (.s (.int .i64 1))), none⟩,
      ⟨some 46, .iaddr 14 (.t 43) (.t 45), none⟩,
      ⟨some 47, .load 14 true (.t 46), none⟩,
      ⟨some 48, .callv false (.t 38) [(.t 42), (.t 47)], none⟩,
      ⟨some 49, .un .not (.t 48), none⟩] (some []))
    (.cond (.t 49)
      (.seq (.region [
        ⟨some 50, .cp (.t 0), none⟩,
        ⟨some 51, .cp (.t 5), none⟩,
        ⟨some 52, .cp (.t 6), none⟩,
        ⟨some 53, .cp (.t 7), none⟩,
        ⟨some 54, .iaddr 14 (.t 52) (.t 53), none⟩,
        ⟨some 55, .load 14 true (.t 54), none⟩,
        ⟨some 56, .iaddr 14 (.t 50) (.t 51), none⟩,
        ⟨none, .store 14 (.t 56) (.t 55), none⟩] (none))
      (.region [
        ⟨some 57, .cp (.t 5), none⟩,
        ⟨some 58, .bin .add (.t 57) (.c (.s (.int .i64 1))), none⟩,
        ⟨some 5, .cp (.t 58), none⟩] (none)))
      .skip)))
  (.region [
    ⟨some 36, .cp (.t 7), none⟩,
    ⟨some 37, .bin .add (.t 36) (.c (.s (.int .i64 1))), none⟩,
    ⟨some 7, .cp (.t 37), none⟩] (none))))
def x_slices_CompactFunc_api_Span_api_Span_l1 : XC :=
  (.seq (.seq (.region [
    ⟨some 12, .cp (.t 5), none⟩,
    ⟨some 13, .cp (.t 0), none⟩,
    ⟨some 14, .len false (.t 13), none⟩,
    ⟨some 15, .bin .lss (.t 12) (.t 14), none⟩] (none))
  (.cond (.t 15)
    .skip
    (.exit 0)))
  (.seq (.block 1
    (.seq (.region [
      ⟨some 18, .cp (.t 1), none⟩,
      ⟨some 19, .cp (.t 0), none⟩,
      ⟨some 20, .cp (.t 5), none⟩,
      ⟨some 21, .iaddr 14 (.t 19) (.t 20), none⟩,
      ⟨some 22, .load 14 true (.t 21), none⟩,
      ⟨some 23, .cp (.t 0), none⟩,
      ⟨some 24, .cp (.t 5), none⟩,
      ⟨some 25, .bin .sub (.t 24) (.c (.s (.int .i64 1))), none⟩,
      ⟨some 26, .iaddr 14 (.t 23) (.t 25), none⟩,
      ⟨some 27, .load 14 true (.t 26), none⟩,
      ⟨some 28, .callv false (.t 18) [(.t 22), (.t 27)], none⟩] (some []))
    (.cond (.t 28)
      (.seq (.region [
        ⟨some 29, .cp (.t 0), none⟩,
        ⟨some 30, .cp (.t 5), none⟩,
        ⟨some 31, .slLst 14 (.t 29) (some (.t 30)) none, none⟩,
        ⟨some 6, .cp (.t 31), none⟩] (none))
      (.seq (.seq (.region [
        ⟨some 7, .cp (.c (.s (.int .i64 1))), none⟩] (none))
      (.block 2
        (.loop x_slices_CompactFunc_api_Span_api_Span_l0)))
      (.seq (.region [
        ⟨some 59, .cp (.t 0), none⟩,
        ⟨some 60, .cp (.t 5), none⟩,
        ⟨some 61, .slLst 14 (.t 59) (some (.t 60)) none, none⟩,
        ⟨none, .clear 14 (.agg [.s (.int .i64 0), .s (.int .i64 0), .s (.int .i64 0), .s (.int .i64 0), .s (.int .i64 0), .s (.int .i64 0), .s (.string ⟨#[]⟩), .s (.string ⟨#[]⟩), .s (.string ⟨#[]⟩), .s (.int .i64 0), .s (.int .i64 0), .s (.bool false), .s (.slice none 0 0), .s (.slice none 0 0)]) (.t 61), none⟩] (none))
      (.seq (.region [
        ⟨some 62, .cp (.t 0), none⟩,
        ⟨some 63, .cp (.t 5), none⟩,
        ⟨some 64, .slFrz 14 (.t 62) none (some (.t 63)), none⟩,
        ⟨some 4, .cp (.t 64), none⟩] (none))
      .ret))))
      .skip)))
  (.region [
    ⟨some 16, .cp (.t 5), none⟩,
    ⟨some 17, .bin .add (.t 16) (.c (.s (.int .i64 1))), none⟩,
    ⟨some 5, .cp (.t 17), none⟩] (none))))
def x_slices_CompactFunc_api_Span_api_Span : XF := { np := 2, results := [(.inl 4, .v)], body :=
  (.seq (.region [
    ⟨some 4, .cp (.c (.s (.slice none 0 0))), none⟩] (none))
  (.seq (.seq (.region [
    ⟨some 8, .cp (.t 0), none⟩,
    ⟨some 9, .len false (.t 8), none⟩,
    ⟨some 10, .bin .lss (.t 9) (.c (.s (.int .i64 2))), none⟩] (none))
  (.cond (.t 10)
    (.seq (.region [
      ⟨some 11, .cp (.t 0), none⟩,
      ⟨some 4, .cp (.t 11), none⟩] (none))
    .ret)
    .skip))
  (.seq (.seq (.region [
    ⟨some 5, .cp (.c (.s (.int .i64 1))), none⟩] (none))
  (.block 0
    (.loop x_slices_CompactFunc_api_Span_api_Span_l1)))
  (.seq (.region [
    ⟨some 65, .cp (.t 0), none⟩,
    ⟨some 4, .cp (.t 65), none⟩] (none))
  .ret)))) }
def x_slices_SortedFunc_api_Span : XF := { np := 2, results := [(.inl 4, .v)], body :=
  (.seq (.region [
    ⟨some 4, .cp (.c (.s (.slice none 0 0))), none⟩] (none))
  (.seq (.region [
    ⟨some 6, .cp (.t 0), none⟩,
    ⟨some 7, .call true i_slices_Collect_api_Span [(.t 6)], none⟩,
    ⟨some 5, .cp (.t 7), none⟩] (none))
  (.seq (.region [
    ⟨some 8, .cp (.t 5), none⟩,
    ⟨some 9, .cp (.t 1), none⟩,
    ⟨some 10, .call false i_slices_SortFunc_api_Span_api_Span [(.t 8), (.t 9)], none⟩] (none))
  (.seq (.region [
    ⟨some 11, .cp (.t 5), none⟩,
    ⟨some 4, .cp (.t 11), none⟩] (none))
  .ret)))) }
def x_slices_Values_api_Span_api_Span : XF := { np := 1, results := [(.inl 2, .c)], body :=
  (.seq (.region [
    ⟨some 1, .box true (.t 0), none⟩,
    ⟨some 2, .cp (.c (.s .nilFunc)), none⟩] (none))
  (.seq (.region [
    ⟨some 3, .mkfn false i_slices_Values_api_Span_api_Span_1 [] [(.t 1)], none⟩,
    ⟨some 2, .cp (.t 3), none⟩] (none))
  .ret)) }
def x_slices_Clone_api_Attr_api_Attr : XF := { np := 1, results := [(.inl 2, .v)], body :=
  (.seq (.region [
    ⟨some 2, .cp (.c (.s (.slice none 0 0))), none⟩] (none))
  (.seq (.seq (.region [
    ⟨some 3, .cp (.t 0), none⟩,
    ⟨some 4, .eqv .s false (.t 3) (.c (.s (.slice none 0 0))), none⟩] (none))
  (.cond (.t 4)
    (.seq (.region [
      ⟨some 2, .cp (.c (.s (.slice none 0 0))), none⟩] (none))
    .ret)
    .skip))
  (.seq (.region [
    ⟨some 5, .bslice true 4 [], none⟩,
    ⟨some 6, .cp (.t 0), none⟩,
    ⟨some 7, .append 4 2932031007402 (.t 5) (.t 6), none⟩,
    ⟨some 2, .cp (.t 7), none⟩] (none))
  .ret))) }
def x_slices_Clone_api_Ref_api_Ref : XF := { np := 1, results := [(.inl 2, .v)], body :=
  (.seq (.region [
    ⟨some 2, .cp (.c (.s (.slice none 0 0))), none⟩] (none))
  (.seq (.seq (.region [
    ⟨some 3, .cp (.t 0), none⟩,
    ⟨some 4, .eqv .s false (.t 3) (.c (.s (.slice none 0 0))), none⟩] (none))
  (.cond (.t 4)
    (.seq (.region [
      ⟨some 2, .cp (.c (.s (.slice none 0 0))), none⟩] (none))
    .ret)
    .skip))
  (.seq (.region [
    ⟨some 5, .bslice true 2 [], none⟩,
    ⟨some 6, .cp (.t 0), none⟩,
    ⟨some 7, .append 2 8796093022208 (.t 5) (.t 6), none⟩,
    ⟨some 2, .cp (.t 7), none⟩] (none))
  .ret))) }
def x_slices_Collect_api_Span : XF := { np := 1, results := [(.inl 2, .v)], body :=
  (.seq (.region [
    ⟨some 2, .cp (.c (.s (.slice none 0 0))), none⟩] (none))
  (.seq (.region [
    ⟨some 3, .cp (.t 0), none⟩,
    ⟨some 4, .call true i_slices_AppendSeq_api_Span_api_Span [(.c (.s (.slice none 0 0))), (.t 3)], none⟩,
    ⟨some 2, .cp (.t 4), none⟩] (none))
  .ret)) }
def x_slices_SortFunc_api_Span_api_Span : XF := { np := 2, results := [], body := .skip, nat := some (.sort 14) }
def x_slices_Values_api_Span_api_Span_1_l0 : XC :=
  (.seq (.region [
    ⟨some 8, .bin .lss (.t 7) (.t 6), none⟩] (none))
  (.seq (.cond (.t 8)
    .skip
    (.exit 0))
  (.seq (.block 1
    (.seq (.region [
      ⟨some 9, .iaddr 14 (.t 5) (.t 7), none⟩,
      ⟨some 10, .load 14 true (.t 9), none⟩,
      ⟨some 4, .alloc [.s (.int .i64 0), .s (.int .i64 0), .s (.int .i64 0), .s (.int .i64 0), .s (.int .i64 0), .s (.int .i64 0), .s (.string ⟨#[]⟩), .s (.string ⟨#[]⟩), .s (.string ⟨#[]⟩), .s (.int .i64 0), .s (.int .i64 0), .s (.bool false), .s (.slice none 0 0), .s (.slice none 0 0)], none⟩,
      ⟨none, .store 14 (.t 4) (.t 10), none⟩] (none))
    (.seq (.region [
      ⟨some 11, .cp (.t 0), none⟩,
      ⟨some 12, .load 14 true (.t 4), none⟩,
      ⟨some 13, .callv false (.t 11) [(.t 12)], none⟩,
      ⟨some 14, .un .not (.t 13), none⟩] (none))
    (.cond (.t 14)
      .ret
      .skip))))
  (.region [
    ⟨some 15, .bin .add (.t 7) (.c (.s (.int .i64 1))), none⟩,
    ⟨some 7, .cp (.t 15), none⟩] (none)))))
def x_slices_Values_api_Span_api_Span_1 : XF := { np := 2, results := [], body :=
  (.seq (.region [
    ⟨some 5, .load 1 false (.t 1), none⟩,
    ⟨some 6, .len false (.t 5), none⟩,
    ⟨some 7, .cp (.c (.s (.int .i64 0))), none⟩] (none))
  (.block 0
    (.loop x_slices_Values_api_Span_api_Span_1_l0))) }
def x_slices_AppendSeq_api_Span_api_Span : XF := { np := 2, results := [], body := .skip, nat := some (.seq i_slices_Values_api_Span_api_Span_1 14 837723144972) }
def XPL : List (Option XF) := [none, none, none, none, none, none, none, none, none, none, none, none, none, none, none, none, none, none, none, none, none, none, none, none, none, none, none, none, none, none, none, none, none, none, none, none, none, none, none, none, none, none, none, none, none, none, none, none, none, none, none, none, none, none, none, none, none, none, none, none, none, none, none, none, none, none, none, none, none, none, none, none, none, none, none, none, none, none, none, none, none, none, none, none, none, none, none, none, none, none, none, none, none, none, none, none, none, none, none, none, none, none, none, none, none, none, none, none, none, none, none, none, none, none, none, none, none, none, none, none, none, none, none, none, none, none, none, none, none, none, none, none, none, none, none, none, none, none, none, none, none, none, none, none, none, none, none, none, none, none, none, some x_sleuthlaw11_SpanFields, none, none, none, none, some x_sleuthlaw11_known, some x_span_Check, none, some x_sleuthlaw11_Span, some x_span_Compare, none, some x_span_Equal, some x_span_RefOf, some x_span_CompareRefs, none, some x_span_Fields, some x_sleuthlaw11_names, some x_span_View_Value, some x_span_FieldKind, some x_sleuthlaw11_value, some x_attribute_CheckValue, some x_sleuthlaw11_isField, some x_attribute_Get, some x_span_KindName, none, some x_sleuthlaw11_kinds, some x_span_Duration, none, none, some x_span_Slot, some x_span_Partition, none, none, none, none, none, some x_span_Winners, none, some x_span_badId, some x_attribute_IsName, some x_cmp_Or_api_Errno, some x_attribute_CheckAttrs, some x_span_checkLinks, none, some x_cmp_Or_int, some x_slices_Compare_int_int, some x_cmp_Compare_string, some x_cmp_Compare_int, some x_span_number, some x_attribute_CompareAttrs, some x_slices_CompareFunc_api_Ref_api_Ref_api_Ref_api_Ref, none, none, some x_sleuthlaw11_flag, some x_span_View_text, some x_span_View_number, some x_slices_Contains_string_string, some x_attribute_within, some x_attribute_place, some x_span_kinds, some x_slices_Index_string_string, some x_span_chosen, some x_span_set, none, none, some x_span_Winners_1, some x_cmp_isNaN_string, some x_cmp_isNaN_int, some x_slices_CompareFunc_api_Attr_api_Attr_api_Attr_api_Attr, some x_attribute_CompareAttrs_1, some x_attribute_CompareValues, some x_slices_BinarySearchFunc_api_Attr_api_Attr_string, some x_attribute_place_1, some x_span_copied, some x_slices_CompactFunc_api_Span_api_Span, some x_slices_SortedFunc_api_Span, some x_slices_Values_api_Span_api_Span, none, some x_slices_Clone_api_Attr_api_Attr, some x_slices_Clone_api_Ref_api_Ref, some x_slices_Collect_api_Span, some x_slices_SortFunc_api_Span_api_Span, some x_slices_Values_api_Span_api_Span_1, some x_slices_AppendSeq_api_Span_api_Span, none, none, none, none, none, none, none, none, none, none, none, none, none, none, none]
def XP : Nat → Option XF := fun n => XPL.getD n none
theorem xp_sleuthlaw11_SpanFields : XP i_sleuthlaw11_SpanFields = some x_sleuthlaw11_SpanFields := rfl
theorem xp_sleuthlaw11_known : XP i_sleuthlaw11_known = some x_sleuthlaw11_known := rfl
theorem xp_span_Check : XP i_span_Check = some x_span_Check := rfl
theorem xp_sleuthlaw11_Span : XP i_sleuthlaw11_Span = some x_sleuthlaw11_Span := rfl
theorem xp_span_Compare : XP i_span_Compare = some x_span_Compare := rfl
theorem xp_span_Equal : XP i_span_Equal = some x_span_Equal := rfl
theorem xp_span_RefOf : XP i_span_RefOf = some x_span_RefOf := rfl
theorem xp_span_CompareRefs : XP i_span_CompareRefs = some x_span_CompareRefs := rfl
theorem xp_span_Fields : XP i_span_Fields = some x_span_Fields := rfl
theorem xp_sleuthlaw11_names : XP i_sleuthlaw11_names = some x_sleuthlaw11_names := rfl
theorem xp_span_View_Value : XP i_span_View_Value = some x_span_View_Value := rfl
theorem xp_span_FieldKind : XP i_span_FieldKind = some x_span_FieldKind := rfl
theorem xp_sleuthlaw11_value : XP i_sleuthlaw11_value = some x_sleuthlaw11_value := rfl
theorem xp_attribute_CheckValue : XP i_attribute_CheckValue = some x_attribute_CheckValue := rfl
theorem xp_sleuthlaw11_isField : XP i_sleuthlaw11_isField = some x_sleuthlaw11_isField := rfl
theorem xp_attribute_Get : XP i_attribute_Get = some x_attribute_Get := rfl
theorem xp_span_KindName : XP i_span_KindName = some x_span_KindName := rfl
theorem xp_sleuthlaw11_kinds : XP i_sleuthlaw11_kinds = some x_sleuthlaw11_kinds := rfl
theorem xp_span_Duration : XP i_span_Duration = some x_span_Duration := rfl
theorem xp_span_Slot : XP i_span_Slot = some x_span_Slot := rfl
theorem xp_span_Partition : XP i_span_Partition = some x_span_Partition := rfl
theorem xp_span_Winners : XP i_span_Winners = some x_span_Winners := rfl
theorem xp_span_badId : XP i_span_badId = some x_span_badId := rfl
theorem xp_attribute_IsName : XP i_attribute_IsName = some x_attribute_IsName := rfl
theorem xp_cmp_Or_api_Errno : XP i_cmp_Or_api_Errno = some x_cmp_Or_api_Errno := rfl
theorem xp_attribute_CheckAttrs : XP i_attribute_CheckAttrs = some x_attribute_CheckAttrs := rfl
theorem xp_span_checkLinks : XP i_span_checkLinks = some x_span_checkLinks := rfl
theorem xp_cmp_Or_int : XP i_cmp_Or_int = some x_cmp_Or_int := rfl
theorem xp_slices_Compare_int_int : XP i_slices_Compare_int_int = some x_slices_Compare_int_int := rfl
theorem xp_cmp_Compare_string : XP i_cmp_Compare_string = some x_cmp_Compare_string := rfl
theorem xp_cmp_Compare_int : XP i_cmp_Compare_int = some x_cmp_Compare_int := rfl
theorem xp_span_number : XP i_span_number = some x_span_number := rfl
theorem xp_attribute_CompareAttrs : XP i_attribute_CompareAttrs = some x_attribute_CompareAttrs := rfl
theorem xp_slices_CompareFunc_api_Ref_api_Ref_api_Ref_api_Ref : XP i_slices_CompareFunc_api_Ref_api_Ref_api_Ref_api_Ref = some x_slices_CompareFunc_api_Ref_api_Ref_api_Ref_api_Ref := rfl
theorem xp_sleuthlaw11_flag : XP i_sleuthlaw11_flag = some x_sleuthlaw11_flag := rfl
theorem xp_span_View_text : XP i_span_View_text = some x_span_View_text := rfl
theorem xp_span_View_number : XP i_span_View_number = some x_span_View_number := rfl
theorem xp_slices_Contains_string_string : XP i_slices_Contains_string_string = some x_slices_Contains_string_string := rfl
theorem xp_attribute_within : XP i_attribute_within = some x_attribute_within := rfl
theorem xp_attribute_place : XP i_attribute_place = some x_attribute_place := rfl
theorem xp_span_kinds : XP i_span_kinds = some x_span_kinds := rfl
theorem xp_slices_Index_string_string : XP i_slices_Index_string_string = some x_slices_Index_string_string := rfl
theorem xp_span_chosen : XP i_span_chosen = some x_span_chosen := rfl
theorem xp_span_set : XP i_span_set = some x_span_set := rfl
theorem xp_span_Winners_1 : XP i_span_Winners_1 = some x_span_Winners_1 := rfl
theorem xp_cmp_isNaN_string : XP i_cmp_isNaN_string = some x_cmp_isNaN_string := rfl
theorem xp_cmp_isNaN_int : XP i_cmp_isNaN_int = some x_cmp_isNaN_int := rfl
theorem xp_slices_CompareFunc_api_Attr_api_Attr_api_Attr_api_Attr : XP i_slices_CompareFunc_api_Attr_api_Attr_api_Attr_api_Attr = some x_slices_CompareFunc_api_Attr_api_Attr_api_Attr_api_Attr := rfl
theorem xp_attribute_CompareAttrs_1 : XP i_attribute_CompareAttrs_1 = some x_attribute_CompareAttrs_1 := rfl
theorem xp_attribute_CompareValues : XP i_attribute_CompareValues = some x_attribute_CompareValues := rfl
theorem xp_slices_BinarySearchFunc_api_Attr_api_Attr_string : XP i_slices_BinarySearchFunc_api_Attr_api_Attr_string = some x_slices_BinarySearchFunc_api_Attr_api_Attr_string := rfl
theorem xp_attribute_place_1 : XP i_attribute_place_1 = some x_attribute_place_1 := rfl
theorem xp_span_copied : XP i_span_copied = some x_span_copied := rfl
theorem xp_slices_CompactFunc_api_Span_api_Span : XP i_slices_CompactFunc_api_Span_api_Span = some x_slices_CompactFunc_api_Span_api_Span := rfl
theorem xp_slices_SortedFunc_api_Span : XP i_slices_SortedFunc_api_Span = some x_slices_SortedFunc_api_Span := rfl
theorem xp_slices_Values_api_Span_api_Span : XP i_slices_Values_api_Span_api_Span = some x_slices_Values_api_Span_api_Span := rfl
theorem xp_slices_Clone_api_Attr_api_Attr : XP i_slices_Clone_api_Attr_api_Attr = some x_slices_Clone_api_Attr_api_Attr := rfl
theorem xp_slices_Clone_api_Ref_api_Ref : XP i_slices_Clone_api_Ref_api_Ref = some x_slices_Clone_api_Ref_api_Ref := rfl
theorem xp_slices_Collect_api_Span : XP i_slices_Collect_api_Span = some x_slices_Collect_api_Span := rfl
theorem xp_slices_SortFunc_api_Span_api_Span : XP i_slices_SortFunc_api_Span_api_Span = some x_slices_SortFunc_api_Span_api_Span := rfl
theorem xp_slices_Values_api_Span_api_Span_1 : XP i_slices_Values_api_Span_api_Span_1 = some x_slices_Values_api_Span_api_Span_1 := rfl
theorem xp_slices_AppendSeq_api_Span_api_Span : XP i_slices_AppendSeq_api_Span_api_Span = some x_slices_AppendSeq_api_Span_api_Span := rfl
end Go.Proofs.Sl
