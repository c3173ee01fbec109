/- A part of the proof. -/
import Derived.Test.YtofeccbcakebfaaSlA
set_option linter.unusedVariables false
set_option linter.unusedSimpArgs false
set_option linter.unnecessarySimpa false
namespace Go.Proofs.Sl
def i_encoding_Writer_Number : Nat := 9
def i_encoding_Writer_Bytes : Nat := 10
def i_encoding_Writer_Text : Nat := 34
def i_encoding_magnitude : Nat := 47
def i_sleuthlaw07_ColumnNil : Nat := 94
def i_sleuthlaw07_known : Nat := 96
def i_column_New : Nat := 98
def i_column_EncodeAs : Nat := 99
def i_column_Column_Encode : Nat := 101
def i_column_Column_Select : Nat := 102
def i_column_Column_Slice : Nat := 103
def i_column_Column_Append : Nat := 104
def i_column_Column_At : Nat := 105
def i_column_Column_Zone : Nat := 106
def i_column_Column_Kind : Nat := 107
def i_column_Column_Len : Nat := 108
def i_column_Column_Values : Nat := 109
def i_column_Column_Where : Nat := 110
def i_column_Column_Equal : Nat := 111
def i_column_check : Nat := 115
def i_column_made : Nat := 116
def i_slices_Clone_int_int : Nat := 117
def i_column_encode : Nat := 118
def i_slices_Concat_int_int : Nat := 122
def i_column_zone : Nat := 123
def i_slices_Equal_int_int : Nat := 124
def i_slices_ContainsFunc_int_int : Nat := 134
def i_column_wrong : Nat := 135
def i_column_plain : Nat := 136
def i_column_delta : Nat := 137
def i_column_runs : Nat := 138
def i_column_packed : Nat := 139
def i_slices_Grow_int_int : Nat := 140
def i_slices_Min_int_int : Nat := 141
def i_slices_Max_int_int : Nat := 142
def i_slices_IndexFunc_int_int : Nat := 144
def i_math_bits_Len : Nat := 145
def i_math_bits_Len32 : Nat := 146
def i_math_bits_Len64 : Nat := 147
def x_encoding_Writer_Number_l0 : XC :=
  (.seq (.seq (.region [
    ⟨some 14, .cp (.t 6), none⟩,
    ⟨some 15, .bin .gtr (.t 14) (.c (.s (.int .u64 0))), none⟩] (none))
  (.cond (.t 15)
    .skip
    (.exit 0)))
  (.seq (.block 1
    (.region [
      ⟨some 18, .cp (.t 5), none⟩,
      ⟨some 19, .bin .add (.t 18) (.c (.s (.int .i64 1))), none⟩,
      ⟨some 5, .cp (.t 19), none⟩] (none)))
  (.region [
    ⟨some 16, .cp (.t 6), none⟩,
    ⟨some 17, .bin .shr (.t 16) (.c (.s (.int .u64 8))), none⟩,
    ⟨some 6, .cp (.t 17), none⟩] (none))))
def x_encoding_Writer_Number_l1 : XC :=
  (.seq (.seq (.region [
    ⟨some 48, .cp (.t 8), none⟩,
    ⟨some 49, .bin .geq (.t 48) (.c (.s (.int .i64 0))), none⟩] (none))
  (.cond (.t 49)
    .skip
    (.exit 2)))
  (.seq (.block 3
    (.region [
      ⟨some 52, .cp (.t 0), none⟩,
      ⟨some 53, .cp (.t 0), none⟩,
      ⟨some 54, .nilchk (.t 53), none⟩,
      ⟨some 55, .faddr (.t 54) 0, none⟩,
      ⟨some 56, .load 1 false (.t 55), none⟩,
      ⟨some 57, .cp (.t 4), none⟩,
      ⟨some 58, .cp (.t 8), none⟩,
      ⟨some 59, .bin .mul (.c (.s (.int .i64 8))) (.t 58), none⟩,
      ⟨some 60, .bin .shr (.t 57) (.t 59), none⟩,
      ⟨some 61, .conv .u8 (.t 60), none⟩,
      ⟨some 62, .cp (.t 7), none⟩,
      ⟨some 63, .bin .xor (.t 61) (.t 62), none⟩,
      ⟨some 64, .bslice false 1 [(.t 63)], none⟩,
      ⟨some 65, .append 1 140737488355328 (.t 56) (.t 64), none⟩,
      ⟨some 66, .nilchk (.t 52), none⟩,
      ⟨some 67, .faddr (.t 66) 0, none⟩,
      ⟨none, .store 1 (.t 67) (.t 65), none⟩] (some [])))
  (.region [
    ⟨some 50, .cp (.t 8), none⟩,
    ⟨some 51, .bin .sub (.t 50) (.c (.s (.int .i64 1))), none⟩,
    ⟨some 8, .cp (.t 51), none⟩] (none))))
def x_encoding_Writer_Number : XF := { np := 2, results := [], body :=
  (.seq (.seq (.region [
    ⟨some 9, .cp (.t 0), none⟩,
    ⟨some 10, .eqv .p false (.t 9) (.c (.s (.pointer none))), none⟩] (none))
  (.cond (.t 10)
    .ret
    .skip))
  (.seq (.region [
    ⟨some 11, .cp (.t 1), none⟩,
    ⟨some 12, .call false i_encoding_magnitude [(.t 11)], none⟩,
    ⟨some 4, .cp (.t 12), none⟩,
    ⟨some 5, .cp (.c (.s (.int .i64 0))), none⟩] (none))
  (.seq (.seq (.region [
    ⟨some 13, .cp (.t 4), none⟩,
    ⟨some 6, .cp (.t 13), none⟩] (none))
  (.block 0
    (.loop x_encoding_Writer_Number_l0)))
  (.seq (.region [
    ⟨some 7, .cp (.c (.s (.int .u8 0))), none⟩] (none))
  (.seq (.seq (.region [
    ⟨some 20, .cp (.t 1), none⟩,
    ⟨some 21, .bin .lss (.t 20) (.c (.s (.int .i64 0))), none⟩] (none))
  (.cond (.t 21)
    (.seq (.region [
      ⟨some 7, .cp (.c (.s (.int .u8 255))), none⟩] (none))
    (.region [
      ⟨some 22, .cp (.t 0), none⟩,
      ⟨some 23, .cp (.t 0), none⟩,
      ⟨some 24, .nilchk (.t 23), none⟩,
      ⟨some 25, .faddr (.t 24) 0, none⟩,
      ⟨some 26, .load 1 false (.t 25), none⟩,
      ⟨some 27, .cp (.t 5), none⟩,
      ⟨some 28, .bin .sub (.c (.s (.int .i64 128))) (.t 27), none⟩,
      ⟨some 29, .conv .u8 (.t 28), none⟩,
      ⟨some 30, .bslice false 1 [(.t 29)], none⟩,
      ⟨some 31, .append 1 140737488355328 (.t 26) (.t 30), none⟩,
      ⟨some 32, .nilchk (.t 22), none⟩,
      ⟨some 33, .faddr (.t 32) 0, none⟩,
      ⟨none, .store 1 (.t 33) (.t 31), none⟩] (none)))
    (.region [
      ⟨some 34, .cp (.t 0), none⟩,
      ⟨some 35, .cp (.t 0), none⟩,
      ⟨some 36, .nilchk (.t 35), none⟩,
      ⟨some 37, .faddr (.t 36) 0, none⟩,
      ⟨some 38, .load 1 false (.t 37), none⟩,
      ⟨some 39, .cp (.t 5), none⟩,
      ⟨some 40, .bin .add (.c (.s (.int .i64 128))) (.t 39), none⟩,
      ⟨some 41, .conv .u8 (.t 40), none⟩,
      ⟨some 42, .bslice false 1 [(.t 41)], none⟩,
      ⟨some 43, .append 1 140737488355328 (.t 38) (.t 42), none⟩,
      ⟨some 44, .nilchk (.t 34), none⟩,
      ⟨some 45, .faddr (.t 44) 0, none⟩,
      ⟨none, .store 1 (.t 45) (.t 43), none⟩] (none))))
  (.seq (.region [
    ⟨some 46, .cp (.t 5), none⟩,
    ⟨some 47, .bin .sub (.t 46) (.c (.s (.int .i64 1))), none⟩,
    ⟨some 8, .cp (.t 47), none⟩] (none))
  (.block 2
    (.loop x_encoding_Writer_Number_l1)))))))) }
def x_encoding_Writer_Bytes : XF := { np := 1, results := [(.inl 2, .v)], body :=
  (.seq (.region [
    ⟨some 2, .cp (.c (.s (.string ⟨#[]⟩))), none⟩] (none))
  (.seq (.seq (.region [
    ⟨some 3, .cp (.t 0), none⟩,
    ⟨some 4, .eqv .p false (.t 3) (.c (.s (.pointer none))), none⟩] (none))
  (.cond (.t 4)
    (.seq (.region [
      ⟨some 2, .cp (.c (.s (.string ⟨#[]⟩))), none⟩] (none))
    .ret)
    .skip))
  (.seq (.region [
    ⟨some 5, .cp (.t 0), none⟩,
    ⟨some 6, .nilchk (.t 5), none⟩,
    ⟨some 7, .faddr (.t 6) 0, none⟩,
    ⟨some 8, .load 1 false (.t 7), none⟩,
    ⟨some 9, .toStr (.t 8), none⟩,
    ⟨some 2, .cp (.t 9), none⟩] (none))
  .ret))) }
def x_encoding_Writer_Text : XF := { np := 2, results := [], body :=
  (.seq (.seq (.region [
    ⟨some 4, .cp (.t 0), none⟩,
    ⟨some 5, .eqv .p false (.t 4) (.c (.s (.pointer none))), none⟩] (none))
  (.cond (.t 5)
    .ret
    .skip))
  (.seq (.region [
    ⟨some 6, .cp (.t 0), none⟩,
    ⟨some 7, .cp (.t 1), none⟩,
    ⟨some 8, .len true (.t 7), none⟩,
    ⟨some 9, .call false i_encoding_Writer_Number [(.t 6), (.t 8)], none⟩] (none))
  (.region [
    ⟨some 10, .cp (.t 0), none⟩,
    ⟨some 11, .cp (.t 0), none⟩,
    ⟨some 12, .nilchk (.t 11), none⟩,
    ⟨some 13, .faddr (.t 12) 0, none⟩,
    ⟨some 14, .load 1 false (.t 13), none⟩,
    ⟨some 15, .cp (.t 1), none⟩,
    ⟨some 16, .append 1 140737488355328 (.t 14) (.t 15), none⟩,
    ⟨some 17, .nilchk (.t 10), none⟩,
    ⟨some 18, .faddr (.t 17) 0, none⟩,
    ⟨none, .store 1 (.t 18) (.t 16), none⟩] (none)))) }
def x_encoding_magnitude : XF := { np := 1, results := [(.inl 2, .v)], body :=
  (.seq (.region [
    ⟨some 2, .cp (.c (.s (.int .u64 0))), none⟩] (none))
  (.seq (.seq (.region [
    ⟨some 3, .cp (.t 0), none⟩,
    ⟨some 4, .bin .lss (.t 3) (.c (.s (.int .i64 0))), none⟩] (none))
  (.cond (.t 4)
    (.seq (.region [
      ⟨some 5, .cp (.t 0), none⟩,
      ⟨some 6, .conv .u64 (.t 5), none⟩,
      ⟨some 7, .un .neg (.t 6), none⟩,
      ⟨some 2, .cp (.t 7), none⟩] (none))
    .ret)
    .skip))
  (.seq (.region [
    ⟨some 8, .cp (.t 0), none⟩,
    ⟨some 9, .conv .u64 (.t 8), none⟩,
    ⟨some 2, .cp (.t 9), none⟩] (none))
  .ret))) }
def x_sleuthlaw07_ColumnNil : XF := { np := 3, results := [(.inl 6, .v)], body :=
  (.seq (.region [
    ⟨some 6, .cp (.c (.s (.bool false))), none⟩] (none))
  (.seq (.seq (.region [
    ⟨some 26, .call false i_sleuthlaw07_known [], none⟩,
    ⟨some 27, .un .not (.t 26), none⟩,
    ⟨some 28, .cp (.t 27), none⟩,
    ⟨some 29, .cp (.t 2), some (28, false)⟩,
    ⟨some 30, .len false (.t 29), some (28, false)⟩,
    ⟨some 31, .bin .gtr (.t 30) (.c (.s (.int .i64 10))), some (28, false)⟩,
    ⟨some 32, .pick (.t 28) (.c (.s (.bool true))) (.t 31), none⟩] (none))
  (.cond (.t 32)
    (.seq (.region [
      ⟨some 33, .call false i_sleuthlaw07_known [], none⟩,
      ⟨some 6, .cp (.t 33), none⟩] (none))
    .ret)
    .skip))
  (.seq (.region [
    ⟨some 7, .cp (.c (.s (.pointer none))), none⟩] (none))
  (.seq (.region [
    ⟨some 35, .mkslice 1 (.s (.int .i64 0)) 17592186044416 (.c (.s (.int .i64 4096))) (.c (.s (.int .i64 4096))), none⟩,
    ⟨some 36, .call false i_column_New [(.t 35)], none⟩,
    ⟨some 34, .cp (.t 36), none⟩,
    ⟨some 37, .extract (.t 34) 0, none⟩,
    ⟨some 38, .extract (.t 34) 1, none⟩,
    ⟨some 8, .cp (.t 37), none⟩,
    ⟨some 9, .cp (.t 38), none⟩] (none))
  (.seq (.region [
    ⟨some 40, .bslice false 1 [(.c (.s (.int .i64 1)))], none⟩,
    ⟨some 41, .call false i_column_New [(.t 40)], none⟩,
    ⟨some 39, .cp (.t 41), none⟩,
    ⟨some 42, .extract (.t 39) 0, none⟩,
    ⟨some 43, .extract (.t 39) 1, none⟩,
    ⟨some 10, .cp (.t 42), none⟩,
    ⟨some 11, .cp (.t 43), none⟩] (none))
  (.seq (.region [
    ⟨some 45, .cp (.t 7), none⟩,
    ⟨some 46, .cp (.t 2), none⟩,
    ⟨some 47, .call false i_column_Column_Select [(.t 45), (.t 46)], none⟩,
    ⟨some 44, .cp (.t 47), none⟩,
    ⟨some 48, .extract (.t 44) 0, none⟩,
    ⟨some 49, .extract (.t 44) 1, none⟩,
    ⟨some 12, .cp (.t 48), none⟩,
    ⟨some 13, .cp (.t 49), none⟩] (none))
  (.seq (.region [
    ⟨some 51, .cp (.t 7), none⟩,
    ⟨some 52, .cp (.t 0), none⟩,
    ⟨some 53, .cp (.t 1), none⟩,
    ⟨some 54, .call false i_column_Column_Slice [(.t 51), (.t 52), (.t 53)], none⟩,
    ⟨some 50, .cp (.t 54), none⟩,
    ⟨some 55, .extract (.t 50) 0, none⟩,
    ⟨some 56, .extract (.t 50) 1, none⟩,
    ⟨some 14, .cp (.t 55), none⟩,
    ⟨some 15, .cp (.t 56), none⟩] (none))
  (.seq (.region [
    ⟨some 58, .cp (.t 7), none⟩,
    ⟨some 59, .cp (.t 10), none⟩,
    ⟨some 60, .call false i_column_Column_Append [(.t 58), (.t 59)], none⟩,
    ⟨some 57, .cp (.t 60), none⟩,
    ⟨some 61, .extract (.t 57) 0, none⟩,
    ⟨some 62, .extract (.t 57) 1, none⟩,
    ⟨some 16, .cp (.t 61), none⟩,
    ⟨some 17, .cp (.t 62), none⟩] (none))
  (.seq (.region [
    ⟨some 64, .cp (.t 10), none⟩,
    ⟨some 65, .cp (.t 7), none⟩,
    ⟨some 66, .call false i_column_Column_Append [(.t 64), (.t 65)], none⟩,
    ⟨some 63, .cp (.t 66), none⟩,
    ⟨some 67, .extract (.t 63) 0, none⟩,
    ⟨some 68, .extract (.t 63) 1, none⟩,
    ⟨some 18, .cp (.t 67), none⟩,
    ⟨some 19, .cp (.t 68), none⟩] (none))
  (.seq (.region [
    ⟨some 70, .cp (.t 8), none⟩,
    ⟨some 71, .cp (.t 10), none⟩,
    ⟨some 72, .call false i_column_Column_Append [(.t 70), (.t 71)], none⟩,
    ⟨some 69, .cp (.t 72), none⟩,
    ⟨some 73, .extract (.t 69) 0, none⟩,
    ⟨some 74, .extract (.t 69) 1, none⟩,
    ⟨some 20, .cp (.t 73), none⟩,
    ⟨some 21, .cp (.t 74), none⟩] (none))
  (.seq (.region [
    ⟨some 76, .cp (.t 7), none⟩,
    ⟨some 77, .cp (.t 0), none⟩,
    ⟨some 78, .call false i_column_Column_At [(.t 76), (.t 77)], none⟩,
    ⟨some 75, .cp (.t 78), none⟩,
    ⟨some 79, .extract (.t 75) 0, none⟩,
    ⟨some 80, .extract (.t 75) 1, none⟩,
    ⟨some 22, .cp (.t 79), none⟩,
    ⟨some 23, .cp (.t 80), none⟩] (none))
  (.seq (.region [
    ⟨some 82, .cp (.t 7), none⟩,
    ⟨some 83, .call false i_column_Column_Zone [(.t 82)], none⟩,
    ⟨some 81, .cp (.t 83), none⟩,
    ⟨some 84, .extract (.t 81) 0, none⟩,
    ⟨some 85, .extract (.t 81) 1, none⟩,
    ⟨some 24, .alloc [.s (.int .i64 0), .s (.int .i64 0)], none⟩,
    ⟨none, .store 2 (.t 24) (.t 84), none⟩,
    ⟨some 25, .cp (.t 85), none⟩] (none))
  (.seq (.seq (.region [
    ⟨some 86, .cp (.t 9), none⟩,
    ⟨some 87, .bin .neq (.t 86) (.c (.s (.int .i64 0))), none⟩,
    ⟨some 88, .cp (.t 87), none⟩,
    ⟨some 89, .cp (.t 11), some (88, false)⟩,
    ⟨some 90, .bin .neq (.t 89) (.c (.s (.int .i64 0))), some (88, false)⟩,
    ⟨some 91, .pick (.t 88) (.c (.s (.bool true))) (.t 90), none⟩,
    ⟨some 92, .cp (.t 91), none⟩,
    ⟨some 93, .cp (.t 13), some (92, false)⟩,
    ⟨some 94, .bin .neq (.t 93) (.c (.s (.int .i64 1))), some (92, false)⟩,
    ⟨some 95, .pick (.t 92) (.c (.s (.bool true))) (.t 94), none⟩,
    ⟨some 96, .cp (.t 95), none⟩,
    ⟨some 97, .cp (.t 15), some (96, false)⟩,
    ⟨some 98, .bin .neq (.t 97) (.c (.s (.int .i64 1))), some (96, false)⟩,
    ⟨some 99, .pick (.t 96) (.c (.s (.bool true))) (.t 98), none⟩,
    ⟨some 100, .cp (.t 99), none⟩,
    ⟨some 101, .cp (.t 17), some (100, false)⟩,
    ⟨some 102, .bin .neq (.t 101) (.c (.s (.int .i64 1))), some (100, false)⟩,
    ⟨some 103, .pick (.t 100) (.c (.s (.bool true))) (.t 102), none⟩,
    ⟨some 104, .cp (.t 103), none⟩,
    ⟨some 105, .cp (.t 19), some (104, false)⟩,
    ⟨some 106, .bin .neq (.t 105) (.c (.s (.int .i64 1))), some (104, false)⟩,
    ⟨some 107, .pick (.t 104) (.c (.s (.bool true))) (.t 106), none⟩,
    ⟨some 108, .cp (.t 107), none⟩,
    ⟨some 109, .cp (.t 21), some (108, false)⟩,
    ⟨some 110, .bin .neq (.t 109) (.c (.s (.int .i64 6))), some (108, false)⟩,
    ⟨some 111, .pick (.t 108) (.c (.s (.bool true))) (.t 110), none⟩,
    ⟨some 112, .cp (.t 111), none⟩,
    ⟨some 113, .cp (.t 20), some (112, false)⟩,
    ⟨some 114, .eqv .p true (.t 113) (.c (.s (.pointer none))), some (112, false)⟩,
    ⟨some 115, .pick (.t 112) (.c (.s (.bool true))) (.t 114), none⟩] (none))
  (.cond (.t 115)
    (.seq (.region [
      ⟨some 6, .cp (.c (.s (.bool false))), none⟩] (none))
    .ret)
    .skip))
  (.seq (.region [
    ⟨some 116, .cp (.t 22), none⟩,
    ⟨some 117, .bin .eql (.t 116) (.c (.s (.int .i64 0))), none⟩,
    ⟨some 118, .cp (.t 117), none⟩,
    ⟨some 119, .cp (.t 23), some (118, true)⟩,
    ⟨some 120, .un .not (.t 119), some (118, true)⟩,
    ⟨some 121, .pick (.t 118) (.t 120) (.c (.s (.bool false))), none⟩,
    ⟨some 122, .cp (.t 121), none⟩,
    ⟨some 123, .load 2 true (.t 24), some (122, true)⟩,
    ⟨some 124, .build false [.s (.int .i64 0), .s (.int .i64 0)] [], some (122, true)⟩,
    ⟨some 125, .eqv (.a [.i, .i]) false (.t 123) (.t 124), some (122, true)⟩,
    ⟨some 126, .pick (.t 122) (.t 125) (.c (.s (.bool false))), none⟩,
    ⟨some 127, .cp (.t 126), none⟩,
    ⟨some 128, .cp (.t 25), some (127, true)⟩,
    ⟨some 129, .un .not (.t 128), some (127, true)⟩,
    ⟨some 130, .pick (.t 127) (.t 129) (.c (.s (.bool false))), none⟩,
    ⟨some 131, .cp (.t 130), none⟩,
    ⟨some 132, .cp (.t 7), some (131, true)⟩,
    ⟨some 133, .call false i_column_Column_Encode [(.t 132)], some (131, true)⟩,
    ⟨some 134, .bin .eql (.t 133) (.c (.s (.string ⟨#[]⟩))), some (131, true)⟩,
    ⟨some 135, .pick (.t 131) (.t 134) (.c (.s (.bool false))), none⟩,
    ⟨some 136, .cp (.t 135), none⟩,
    ⟨some 137, .cp (.t 7), some (136, true)⟩,
    ⟨some 138, .call false i_column_Column_Kind [(.t 137)], some (136, true)⟩,
    ⟨some 139, .bin .eql (.t 138) (.c (.s (.int .i64 0))), some (136, true)⟩,
    ⟨some 140, .pick (.t 136) (.t 139) (.c (.s (.bool false))), none⟩,
    ⟨some 141, .cp (.t 140), none⟩,
    ⟨some 142, .cp (.t 7), some (141, true)⟩,
    ⟨some 143, .call false i_column_Column_Len [(.t 142)], some (141, true)⟩,
    ⟨some 144, .bin .eql (.t 143) (.c (.s (.int .i64 0))), some (141, true)⟩,
    ⟨some 145, .pick (.t 141) (.t 144) (.c (.s (.bool false))), none⟩,
    ⟨some 146, .cp (.t 145), none⟩,
    ⟨some 147, .cp (.t 7), some (146, true)⟩,
    ⟨some 148, .call false i_column_Column_Values [(.t 147)], some (146, true)⟩,
    ⟨some 149, .len false (.t 148), some (146, true)⟩,
    ⟨some 150, .bin .eql (.t 149) (.c (.s (.int .i64 0))), some (146, true)⟩,
    ⟨some 151, .pick (.t 146) (.t 150) (.c (.s (.bool false))), none⟩,
    ⟨some 152, .cp (.t 151), none⟩,
    ⟨some 153, .cp (.t 7), some (152, true)⟩,
    ⟨some 154, .cp (.t 0), some (152, true)⟩,
    ⟨some 155, .cp (.t 1), some (152, true)⟩,
    ⟨some 156, .call false i_column_Column_Where [(.t 153), (.t 154), (.t 155)], some (152, true)⟩,
    ⟨some 157, .len false (.t 156), some (152, true)⟩,
    ⟨some 158, .bin .eql (.t 157) (.c (.s (.int .i64 0))), some (152, true)⟩,
    ⟨some 159, .pick (.t 152) (.t 158) (.c (.s (.bool false))), none⟩,
    ⟨some 160, .cp (.t 159), none⟩,
    ⟨some 161, .cp (.t 7), some (160, true)⟩,
    ⟨some 162, .call false i_column_Column_Equal [(.t 161), (.c (.s (.pointer none)))], some (160, true)⟩,
    ⟨some 163, .pick (.t 160) (.t 162) (.c (.s (.bool false))), none⟩,
    ⟨some 164, .cp (.t 163), none⟩,
    ⟨some 165, .cp (.t 7), some (164, true)⟩,
    ⟨some 166, .cp (.t 10), some (164, true)⟩,
    ⟨some 167, .call false i_column_Column_Equal [(.t 165), (.t 166)], some (164, true)⟩,
    ⟨some 168, .un .not (.t 167), some (164, true)⟩,
    ⟨some 169, .pick (.t 164) (.t 168) (.c (.s (.bool false))), none⟩,
    ⟨some 170, .cp (.t 169), none⟩,
    ⟨some 171, .cp (.t 10), some (170, true)⟩,
    ⟨some 172, .cp (.t 7), some (170, true)⟩,
    ⟨some 173, .call false i_column_Column_Equal [(.t 171), (.t 172)], some (170, true)⟩,
    ⟨some 174, .un .not (.t 173), some (170, true)⟩,
    ⟨some 175, .pick (.t 170) (.t 174) (.c (.s (.bool false))), none⟩,
    ⟨some 6, .cp (.t 175), none⟩] (none))
  .ret)))))))))))))) }
def x_sleuthlaw07_known : XF := { np := 0, results := [(.inl 0, .v)], body :=
  (.seq (.region [
    ⟨some 0, .cp (.c (.s (.bool false))), none⟩] (none))
  (.seq (.region [
    ⟨some 6, .bslice false 1 [(.c (.s (.int .i64 5))), (.c (.s (.int .i64 5))), (.c (.s (.int .i64 5)))], none⟩,
    ⟨some 7, .call false i_column_New [(.t 6)], none⟩,
    ⟨some 5, .cp (.t 7), none⟩,
    ⟨some 8, .extract (.t 5) 0, none⟩,
    ⟨some 9, .extract (.t 5) 1, none⟩,
    ⟨some 1, .cp (.t 8), none⟩,
    ⟨some 2, .cp (.t 9), none⟩] (none))
  (.seq (.region [
    ⟨some 11, .bslice false 1 [(.c (.s (.int .i64 3))), (.c (.s (.int .i64 0))), (.c (.s (.int .i64 2))), (.c (.s (.int .i64 1)))], none⟩,
    ⟨some 12, .call false i_column_EncodeAs [(.c (.s (.int .i64 4))), (.t 11)], none⟩,
    ⟨some 10, .cp (.t 12), none⟩,
    ⟨some 13, .extract (.t 10) 0, none⟩,
    ⟨some 14, .extract (.t 10) 1, none⟩,
    ⟨some 3, .cp (.t 13), none⟩,
    ⟨some 4, .cp (.t 14), none⟩] (none))
  (.seq (.region [
    ⟨some 15, .cp (.t 2), none⟩,
    ⟨some 16, .bin .eql (.t 15) (.c (.s (.int .i64 0))), none⟩,
    ⟨some 17, .cp (.t 16), none⟩,
    ⟨some 18, .cp (.t 4), some (17, true)⟩,
    ⟨some 19, .bin .eql (.t 18) (.c (.s (.int .i64 0))), some (17, true)⟩,
    ⟨some 20, .pick (.t 17) (.t 19) (.c (.s (.bool false))), none⟩,
    ⟨some 21, .cp (.t 20), none⟩,
    ⟨some 22, .cp (.t 1), some (21, true)⟩,
    ⟨some 23, .eqv .p true (.t 22) (.c (.s (.pointer none))), some (21, true)⟩,
    ⟨some 24, .pick (.t 21) (.t 23) (.c (.s (.bool false))), none⟩,
    ⟨some 25, .cp (.t 24), none⟩,
    ⟨some 26, .cp (.t 1), some (25, true)⟩,
    ⟨some 27, .call false i_column_Column_Encode [(.t 26)], some (25, true)⟩,
    ⟨some 28, .bin .eql (.t 27) (.c (.s (.string ⟨#[129, 2, 129, 3, 129, 5, 128, 128]⟩))), some (25, true)⟩,
    ⟨some 29, .pick (.t 25) (.t 28) (.c (.s (.bool false))), none⟩,
    ⟨some 30, .cp (.t 29), none⟩,
    ⟨some 31, .cp (.t 3), some (30, true)⟩,
    ⟨some 32, .bin .eql (.t 31) (.c (.s (.string ⟨#[129, 4, 129, 4, 128, 129, 2, 129, 1, 99]⟩))), some (30, true)⟩,
    ⟨some 33, .pick (.t 30) (.t 32) (.c (.s (.bool false))), none⟩,
    ⟨some 0, .cp (.t 33), none⟩] (none))
  .ret)))) }
def x_column_New : XF := { np := 1, results := [(.inl 2, .f), (.inl 3, .v)], body :=
  (.seq (.region [
    ⟨some 2, .cp (.c (.s (.pointer none))), none⟩,
    ⟨some 3, .cp (.c (.s (.int .i64 0))), none⟩] (none))
  (.seq (.seq (.region [
    ⟨some 5, .cp (.t 0), none⟩,
    ⟨some 6, .call false i_column_check [(.t 5)], none⟩,
    ⟨some 4, .cp (.t 6), none⟩] (none))
  (.seq (.region [
    ⟨some 7, .cp (.t 4), none⟩,
    ⟨some 8, .bin .neq (.t 7) (.c (.s (.int .i64 0))), none⟩] (none))
  (.cond (.t 8)
    (.seq (.region [
      ⟨some 9, .cp (.t 4), none⟩,
      ⟨some 2, .cp (.c (.s (.pointer none))), none⟩,
      ⟨some 3, .cp (.t 9), none⟩] (none))
    .ret)
    .skip)))
  (.seq (.region [
    ⟨some 10, .cp (.t 0), none⟩,
    ⟨some 11, .call false i_slices_Clone_int_int [(.t 10)], none⟩,
    ⟨some 12, .call false i_column_made [(.t 11)], none⟩,
    ⟨some 2, .cp (.t 12), none⟩,
    ⟨some 3, .cp (.c (.s (.int .i64 0))), none⟩] (none))
  .ret))) }
def x_column_EncodeAs : XF := { np := 2, results := [(.inl 4, .v), (.inl 5, .v)], body :=
  (.seq (.region [
    ⟨some 4, .cp (.c (.s (.string ⟨#[]⟩))), none⟩,
    ⟨some 5, .cp (.c (.s (.int .i64 0))), none⟩] (none))
  (.seq (.seq (.region [
    ⟨some 7, .cp (.t 0), none⟩,
    ⟨some 8, .bin .lss (.t 7) (.c (.s (.int .i64 1))), none⟩,
    ⟨some 9, .cp (.t 8), none⟩,
    ⟨some 10, .cp (.t 0), some (9, false)⟩,
    ⟨some 11, .bin .gtr (.t 10) (.c (.s (.int .i64 4))), some (9, false)⟩,
    ⟨some 12, .pick (.t 9) (.c (.s (.bool true))) (.t 11), none⟩] (none))
  (.cond (.t 12)
    (.seq (.region [
      ⟨some 4, .cp (.c (.s (.string ⟨#[]⟩))), none⟩,
      ⟨some 5, .cp (.c (.s (.int .i64 12))), none⟩] (none))
    .ret)
    .skip))
  (.seq (.seq (.region [
    ⟨some 13, .cp (.t 1), none⟩,
    ⟨some 14, .call false i_column_check [(.t 13)], none⟩,
    ⟨some 6, .cp (.t 14), none⟩] (none))
  (.seq (.region [
    ⟨some 15, .cp (.t 6), none⟩,
    ⟨some 16, .bin .neq (.t 15) (.c (.s (.int .i64 0))), none⟩] (none))
  (.cond (.t 16)
    (.seq (.region [
      ⟨some 17, .cp (.t 6), none⟩,
      ⟨some 4, .cp (.c (.s (.string ⟨#[]⟩))), none⟩,
      ⟨some 5, .cp (.t 17), none⟩] (none))
    .ret)
    .skip)))
  (.seq (.region [
    ⟨some 18, .cp (.t 0), none⟩,
    ⟨some 19, .cp (.t 1), none⟩,
    ⟨some 20, .call false i_column_encode [(.t 18), (.t 19)], none⟩,
    ⟨some 4, .cp (.t 20), none⟩,
    ⟨some 5, .cp (.c (.s (.int .i64 0))), none⟩] (none))
  .ret)))) }
def x_column_Column_Encode : XF := { np := 1, results := [(.inl 2, .v)], body :=
  (.seq (.region [
    ⟨some 2, .cp (.c (.s (.string ⟨#[]⟩))), none⟩] (none))
  (.seq (.seq (.region [
    ⟨some 3, .cp (.t 0), none⟩,
    ⟨some 4, .eqv .p false (.t 3) (.c (.s (.pointer none))), none⟩] (none))
  (.cond (.t 4)
    (.seq (.region [
      ⟨some 2, .cp (.c (.s (.string ⟨#[]⟩))), none⟩] (none))
    .ret)
    .skip))
  (.seq (.region [
    ⟨some 5, .cp (.t 0), none⟩,
    ⟨some 6, .nilchk (.t 5), none⟩,
    ⟨some 7, .faddr (.t 6) 1, none⟩,
    ⟨some 8, .load 1 false (.t 7), none⟩,
    ⟨some 2, .cp (.t 8), none⟩] (none))
  .ret))) }
def x_column_Column_Select_l0 : XC :=
  (.seq (.region [
    ⟨some 16, .bin .lss (.t 15) (.t 14), none⟩] (none))
  (.seq (.cond (.t 16)
    .skip
    (.exit 0))
  (.seq (.block 1
    (.seq (.region [
      ⟨some 17, .iaddr 1 (.t 13) (.t 15), none⟩,
      ⟨some 18, .load 1 false (.t 17), none⟩,
      ⟨some 8, .cp (.t 18), none⟩] (none))
    (.seq (.region [
      ⟨some 20, .cp (.t 0), none⟩,
      ⟨some 21, .cp (.t 8), none⟩,
      ⟨some 22, .call false i_column_Column_At [(.t 20), (.t 21)], none⟩,
      ⟨some 19, .cp (.t 22), none⟩,
      ⟨some 23, .extract (.t 19) 0, none⟩,
      ⟨some 24, .extract (.t 19) 1, none⟩,
      ⟨some 9, .cp (.t 23), none⟩,
      ⟨some 10, .cp (.t 24), none⟩] (none))
    (.seq (.seq (.region [
      ⟨some 25, .cp (.t 10), none⟩,
      ⟨some 26, .un .not (.t 25), none⟩] (none))
    (.cond (.t 26)
      (.seq (.region [
        ⟨some 4, .cp (.c (.s (.slice none 0 0))), none⟩,
        ⟨some 5, .cp (.c (.s (.int .i64 2))), none⟩] (none))
      .ret)
      .skip))
    (.region [
      ⟨some 27, .cp (.t 6), none⟩,
      ⟨some 28, .cp (.t 9), none⟩,
      ⟨some 29, .bslice false 1 [(.t 28)], none⟩,
      ⟨some 30, .append 1 17592186044416 (.t 27) (.t 29), none⟩,
      ⟨some 6, .cp (.t 30), none⟩] (none))))))
  (.region [
    ⟨some 31, .bin .add (.t 15) (.c (.s (.int .i64 1))), none⟩,
    ⟨some 15, .cp (.t 31), none⟩] (none)))))
def x_column_Column_Select : XF := { np := 2, results := [(.inl 4, .v), (.inl 5, .v)], body :=
  (.seq (.region [
    ⟨some 4, .cp (.c (.s (.slice none 0 0))), none⟩,
    ⟨some 5, .cp (.c (.s (.int .i64 0))), none⟩] (none))
  (.seq (.seq (.region [
    ⟨some 11, .cp (.t 0), none⟩,
    ⟨some 12, .eqv .p false (.t 11) (.c (.s (.pointer none))), none⟩] (none))
  (.cond (.t 12)
    (.seq (.region [
      ⟨some 4, .cp (.c (.s (.slice none 0 0))), none⟩,
      ⟨some 5, .cp (.c (.s (.int .i64 1))), none⟩] (none))
    .ret)
    .skip))
  (.seq (.region [
    ⟨some 6, .cp (.c (.s (.slice none 0 0))), none⟩] (none))
  (.seq (.seq (.region [
    ⟨some 13, .cp (.t 1), none⟩,
    ⟨some 14, .len false (.t 13), none⟩,
    ⟨some 15, .cp (.c (.s (.int .i64 0))), none⟩] (none))
  (.block 0
    (.loop x_column_Column_Select_l0)))
  (.seq (.region [
    ⟨some 32, .cp (.t 6), none⟩,
    ⟨some 4, .cp (.t 32), none⟩,
    ⟨some 5, .cp (.c (.s (.int .i64 0))), none⟩] (none))
  .ret))))) }
def x_column_Column_Slice : XF := { np := 3, results := [(.inl 6, .f), (.inl 7, .v)], body :=
  (.seq (.region [
    ⟨some 6, .cp (.c (.s (.pointer none))), none⟩,
    ⟨some 7, .cp (.c (.s (.int .i64 0))), none⟩] (none))
  (.seq (.block 0
    (.seq (.region [
      ⟨some 9, .cp (.t 0), none⟩,
      ⟨some 10, .eqv .p false (.t 9) (.c (.s (.pointer none))), none⟩,
      ⟨some 8, .cp (.t 10), none⟩] (none))
    (.cond (.t 8)
      (.seq (.region [
        ⟨some 6, .cp (.c (.s (.pointer none))), none⟩,
        ⟨some 7, .cp (.c (.s (.int .i64 1))), none⟩] (none))
      .ret)
      (.seq (.region [
        ⟨some 12, .cp (.t 1), none⟩,
        ⟨some 13, .bin .lss (.t 12) (.c (.s (.int .i64 0))), none⟩,
        ⟨some 14, .cp (.t 13), none⟩,
        ⟨some 15, .cp (.t 1), some (14, false)⟩,
        ⟨some 16, .cp (.t 2), some (14, false)⟩,
        ⟨some 17, .bin .gtr (.t 15) (.t 16), some (14, false)⟩,
        ⟨some 18, .pick (.t 14) (.c (.s (.bool true))) (.t 17), none⟩,
        ⟨some 19, .cp (.t 18), none⟩,
        ⟨some 20, .cp (.t 2), some (19, false)⟩,
        ⟨some 21, .cp (.t 0), some (19, false)⟩,
        ⟨some 22, .nilchk (.t 21), some (19, false)⟩,
        ⟨some 23, .faddr (.t 22) 0, some (19, false)⟩,
        ⟨some 24, .load 1 false (.t 23), some (19, false)⟩,
        ⟨some 25, .len false (.t 24), some (19, false)⟩,
        ⟨some 26, .bin .gtr (.t 20) (.t 25), some (19, false)⟩,
        ⟨some 27, .pick (.t 19) (.c (.s (.bool true))) (.t 26), none⟩,
        ⟨some 11, .cp (.t 27), none⟩] (none))
      (.cond (.t 11)
        (.seq (.region [
          ⟨some 6, .cp (.c (.s (.pointer none))), none⟩,
          ⟨some 7, .cp (.c (.s (.int .i64 2))), none⟩] (none))
        .ret)
        .skip)))))
  (.seq (.region [
    ⟨some 28, .cp (.t 0), none⟩,
    ⟨some 29, .nilchk (.t 28), none⟩,
    ⟨some 30, .faddr (.t 29) 0, none⟩,
    ⟨some 31, .load 1 false (.t 30), none⟩,
    ⟨some 32, .cp (.t 1), none⟩,
    ⟨some 33, .cp (.t 2), none⟩,
    ⟨some 34, .slLst 1 (.t 31) (some (.t 32)) (some (.t 33)), none⟩,
    ⟨some 35, .call false i_slices_Clone_int_int [(.t 34)], none⟩,
    ⟨some 36, .call false i_column_made [(.t 35)], none⟩,
    ⟨some 6, .cp (.t 36), none⟩,
    ⟨some 7, .cp (.c (.s (.int .i64 0))), none⟩] (none))
  .ret))) }
def x_column_Column_Append : XF := { np := 2, results := [(.inl 4, .f), (.inl 5, .v)], body :=
  (.seq (.region [
    ⟨some 4, .cp (.c (.s (.pointer none))), none⟩,
    ⟨some 5, .cp (.c (.s (.int .i64 0))), none⟩] (none))
  (.seq (.block 0
    (.seq (.region [
      ⟨some 7, .cp (.t 0), none⟩,
      ⟨some 8, .eqv .p false (.t 7) (.c (.s (.pointer none))), none⟩,
      ⟨some 9, .cp (.t 8), none⟩,
      ⟨some 10, .cp (.t 1), some (9, false)⟩,
      ⟨some 11, .eqv .p false (.t 10) (.c (.s (.pointer none))), some (9, false)⟩,
      ⟨some 12, .pick (.t 9) (.c (.s (.bool true))) (.t 11), none⟩,
      ⟨some 6, .cp (.t 12), none⟩] (none))
    (.cond (.t 6)
      (.seq (.region [
        ⟨some 4, .cp (.c (.s (.pointer none))), none⟩,
        ⟨some 5, .cp (.c (.s (.int .i64 1))), none⟩] (none))
      .ret)
      (.seq (.region [
        ⟨some 14, .cp (.t 0), none⟩,
        ⟨some 15, .nilchk (.t 14), none⟩,
        ⟨some 16, .faddr (.t 15) 0, none⟩,
        ⟨some 17, .load 1 false (.t 16), none⟩,
        ⟨some 18, .len false (.t 17), none⟩,
        ⟨some 19, .cp (.t 1), none⟩,
        ⟨some 20, .nilchk (.t 19), none⟩,
        ⟨some 21, .faddr (.t 20) 0, none⟩,
        ⟨some 22, .load 1 false (.t 21), none⟩,
        ⟨some 23, .len false (.t 22), none⟩,
        ⟨some 24, .bin .add (.t 18) (.t 23), none⟩,
        ⟨some 25, .bin .gtr (.t 24) (.c (.s (.int .i64 4096))), none⟩,
        ⟨some 13, .cp (.t 25), none⟩] (some []))
      (.cond (.t 13)
        (.seq (.region [
          ⟨some 4, .cp (.c (.s (.pointer none))), none⟩,
          ⟨some 5, .cp (.c (.s (.int .i64 6))), none⟩] (none))
        .ret)
        .skip)))))
  (.seq (.region [
    ⟨some 26, .cp (.t 0), none⟩,
    ⟨some 27, .nilchk (.t 26), none⟩,
    ⟨some 28, .faddr (.t 27) 0, none⟩,
    ⟨some 29, .load 1 false (.t 28), none⟩,
    ⟨some 30, .cp (.t 1), none⟩,
    ⟨some 31, .nilchk (.t 30), none⟩,
    ⟨some 32, .faddr (.t 31) 0, none⟩,
    ⟨some 33, .load 1 false (.t 32), none⟩,
    ⟨some 34, .bslice false 1 [(.t 29), (.t 33)], none⟩,
    ⟨some 35, .call false i_slices_Concat_int_int [(.t 34)], none⟩,
    ⟨some 36, .call false i_column_made [(.t 35)], none⟩,
    ⟨some 4, .cp (.t 36), none⟩,
    ⟨some 5, .cp (.c (.s (.int .i64 0))), none⟩] (some []))
  .ret))) }
def x_column_Column_At : XF := { np := 2, results := [(.inl 4, .v), (.inl 5, .v)], body :=
  (.seq (.region [
    ⟨some 4, .cp (.c (.s (.int .i64 0))), none⟩,
    ⟨some 5, .cp (.c (.s (.bool false))), none⟩] (none))
  (.seq (.seq (.region [
    ⟨some 6, .cp (.t 1), none⟩,
    ⟨some 7, .bin .lss (.t 6) (.c (.s (.int .i64 0))), none⟩,
    ⟨some 8, .cp (.t 7), none⟩,
    ⟨some 9, .cp (.t 1), some (8, false)⟩,
    ⟨some 10, .cp (.t 0), some (8, false)⟩,
    ⟨some 11, .call false i_column_Column_Len [(.t 10)], some (8, false)⟩,
    ⟨some 12, .bin .geq (.t 9) (.t 11), some (8, false)⟩,
    ⟨some 13, .pick (.t 8) (.c (.s (.bool true))) (.t 12), none⟩] (none))
  (.cond (.t 13)
    (.seq (.region [
      ⟨some 4, .cp (.c (.s (.int .i64 0))), none⟩,
      ⟨some 5, .cp (.c (.s (.bool false))), none⟩] (none))
    .ret)
    .skip))
  (.seq (.region [
    ⟨some 14, .cp (.t 0), none⟩,
    ⟨some 15, .nilchk (.t 14), none⟩,
    ⟨some 16, .faddr (.t 15) 0, none⟩,
    ⟨some 17, .load 1 false (.t 16), none⟩,
    ⟨some 18, .cp (.t 1), none⟩,
    ⟨some 19, .iaddr 1 (.t 17) (.t 18), none⟩,
    ⟨some 20, .load 1 false (.t 19), none⟩,
    ⟨some 4, .cp (.t 20), none⟩,
    ⟨some 5, .cp (.c (.s (.bool true))), none⟩] (none))
  .ret))) }
def x_column_Column_Zone : XF := { np := 1, results := [(.inr (2, 2, true), .v), (.inl 3, .v)], body :=
  (.seq (.region [
    ⟨some 2, .alloc [.s (.int .i64 0), .s (.int .i64 0)], none⟩,
    ⟨some 3, .cp (.c (.s (.bool false))), none⟩] (none))
  (.seq (.seq (.region [
    ⟨some 4, .cp (.t 0), none⟩,
    ⟨some 5, .call false i_column_Column_Len [(.t 4)], none⟩,
    ⟨some 6, .bin .eql (.t 5) (.c (.s (.int .i64 0))), none⟩] (none))
  (.cond (.t 6)
    (.seq (.region [
      ⟨some 7, .build false [.s (.int .i64 0), .s (.int .i64 0)] [], none⟩,
      ⟨none, .store 2 (.t 2) (.t 7), none⟩,
      ⟨some 3, .cp (.c (.s (.bool false))), none⟩] (none))
    .ret)
    .skip))
  (.seq (.region [
    ⟨some 8, .cp (.t 0), none⟩,
    ⟨some 9, .nilchk (.t 8), none⟩,
    ⟨some 10, .faddr (.t 9) 0, none⟩,
    ⟨some 11, .load 1 false (.t 10), none⟩,
    ⟨some 12, .call false i_column_zone [(.t 11)], none⟩,
    ⟨none, .store 2 (.t 2) (.t 12), none⟩,
    ⟨some 3, .cp (.c (.s (.bool true))), none⟩] (none))
  .ret))) }
def x_column_Column_Kind : XF := { np := 1, results := [(.inl 2, .v)], body :=
  (.seq (.region [
    ⟨some 2, .cp (.c (.s (.int .i64 0))), none⟩] (none))
  (.seq (.seq (.region [
    ⟨some 3, .cp (.t 0), none⟩,
    ⟨some 4, .eqv .p false (.t 3) (.c (.s (.pointer none))), none⟩] (none))
  (.cond (.t 4)
    (.seq (.region [
      ⟨some 2, .cp (.c (.s (.int .i64 0))), none⟩] (none))
    .ret)
    .skip))
  (.seq (.region [
    ⟨some 5, .cp (.t 0), none⟩,
    ⟨some 6, .nilchk (.t 5), none⟩,
    ⟨some 7, .faddr (.t 6) 2, none⟩,
    ⟨some 8, .load 1 false (.t 7), none⟩,
    ⟨some 2, .cp (.t 8), none⟩] (none))
  .ret))) }
def x_column_Column_Len : XF := { np := 1, results := [(.inl 2, .v)], body :=
  (.seq (.region [
    ⟨some 2, .cp (.c (.s (.int .i64 0))), none⟩] (none))
  (.seq (.seq (.region [
    ⟨some 3, .cp (.t 0), none⟩,
    ⟨some 4, .eqv .p false (.t 3) (.c (.s (.pointer none))), none⟩] (none))
  (.cond (.t 4)
    (.seq (.region [
      ⟨some 2, .cp (.c (.s (.int .i64 0))), none⟩] (none))
    .ret)
    .skip))
  (.seq (.region [
    ⟨some 5, .cp (.t 0), none⟩,
    ⟨some 6, .nilchk (.t 5), none⟩,
    ⟨some 7, .faddr (.t 6) 0, none⟩,
    ⟨some 8, .load 1 false (.t 7), none⟩,
    ⟨some 9, .len false (.t 8), none⟩,
    ⟨some 2, .cp (.t 9), none⟩] (none))
  .ret))) }
def x_column_Column_Values : XF := { np := 1, results := [(.inl 2, .v)], body :=
  (.seq (.region [
    ⟨some 2, .cp (.c (.s (.slice none 0 0))), none⟩] (none))
  (.seq (.seq (.region [
    ⟨some 3, .cp (.t 0), none⟩,
    ⟨some 4, .eqv .p false (.t 3) (.c (.s (.pointer none))), none⟩] (none))
  (.cond (.t 4)
    (.seq (.region [
      ⟨some 2, .cp (.c (.s (.slice none 0 0))), none⟩] (none))
    .ret)
    .skip))
  (.seq (.region [
    ⟨some 5, .cp (.t 0), none⟩,
    ⟨some 6, .nilchk (.t 5), none⟩,
    ⟨some 7, .faddr (.t 6) 0, none⟩,
    ⟨some 8, .load 1 false (.t 7), none⟩,
    ⟨some 9, .call false i_slices_Clone_int_int [(.t 8)], none⟩,
    ⟨some 2, .cp (.t 9), none⟩] (none))
  .ret))) }
def x_column_Column_Where_l0 : XC :=
  (.seq (.region [
    ⟨some 18, .bin .lss (.t 17) (.t 16), none⟩] (none))
  (.seq (.cond (.t 18)
    .skip
    (.exit 0))
  (.seq (.block 1
    (.seq (.region [
      ⟨some 19, .cp (.t 17), none⟩,
      ⟨some 20, .iaddr 1 (.t 15) (.t 17), none⟩,
      ⟨some 21, .load 1 false (.t 20), none⟩,
      ⟨some 8, .cp (.t 19), none⟩,
      ⟨some 9, .cp (.t 21), none⟩] (none))
    (.seq (.region [
      ⟨some 22, .cp (.t 1), none⟩,
      ⟨some 23, .cp (.t 9), none⟩,
      ⟨some 24, .bin .leq (.t 22) (.t 23), none⟩,
      ⟨some 25, .cp (.t 24), none⟩,
      ⟨some 26, .cp (.t 9), some (25, true)⟩,
      ⟨some 27, .cp (.t 2), some (25, true)⟩,
      ⟨some 28, .bin .leq (.t 26) (.t 27), some (25, true)⟩,
      ⟨some 29, .pick (.t 25) (.t 28) (.c (.s (.bool false))), none⟩] (none))
    (.cond (.t 29)
      (.region [
        ⟨some 30, .cp (.t 7), none⟩,
        ⟨some 31, .cp (.t 8), none⟩,
        ⟨some 32, .bslice false 1 [(.t 31)], none⟩,
        ⟨some 33, .append 1 17592186044416 (.t 30) (.t 32), none⟩,
        ⟨some 7, .cp (.t 33), none⟩] (none))
      .skip))))
  (.region [
    ⟨some 34, .bin .add (.t 17) (.c (.s (.int .i64 1))), none⟩,
    ⟨some 17, .cp (.t 34), none⟩] (none)))))
def x_column_Column_Where : XF := { np := 3, results := [(.inl 6, .v)], body :=
  (.seq (.region [
    ⟨some 6, .cp (.c (.s (.slice none 0 0))), none⟩] (none))
  (.seq (.seq (.region [
    ⟨some 10, .cp (.t 0), none⟩,
    ⟨some 11, .eqv .p false (.t 10) (.c (.s (.pointer none))), none⟩] (none))
  (.cond (.t 11)
    (.seq (.region [
      ⟨some 6, .cp (.c (.s (.slice none 0 0))), none⟩] (none))
    .ret)
    .skip))
  (.seq (.region [
    ⟨some 7, .cp (.c (.s (.slice none 0 0))), none⟩] (none))
  (.seq (.seq (.region [
    ⟨some 12, .cp (.t 0), none⟩,
    ⟨some 13, .nilchk (.t 12), none⟩,
    ⟨some 14, .faddr (.t 13) 0, none⟩,
    ⟨some 15, .load 1 false (.t 14), none⟩,
    ⟨some 16, .len false (.t 15), none⟩,
    ⟨some 17, .cp (.c (.s (.int .i64 0))), none⟩] (none))
  (.block 0
    (.loop x_column_Column_Where_l0)))
  (.seq (.region [
    ⟨some 35, .cp (.t 7), none⟩,
    ⟨some 6, .cp (.t 35), none⟩] (none))
  .ret))))) }
def x_column_Column_Equal : XF := { np := 2, results := [(.inl 4, .v)], body :=
  (.seq (.region [
    ⟨some 4, .cp (.c (.s (.bool false))), none⟩] (none))
  (.seq (.seq (.region [
    ⟨some 5, .cp (.t 0), none⟩,
    ⟨some 6, .eqv .p false (.t 5) (.c (.s (.pointer none))), none⟩,
    ⟨some 7, .cp (.t 6), none⟩,
    ⟨some 8, .cp (.t 1), some (7, false)⟩,
    ⟨some 9, .eqv .p false (.t 8) (.c (.s (.pointer none))), some (7, false)⟩,
    ⟨some 10, .pick (.t 7) (.c (.s (.bool true))) (.t 9), none⟩] (none))
  (.cond (.t 10)
    (.seq (.region [
      ⟨some 11, .cp (.t 0), none⟩,
      ⟨some 12, .cp (.t 1), none⟩,
      ⟨some 13, .eqv .p false (.t 11) (.t 12), none⟩,
      ⟨some 4, .cp (.t 13), none⟩] (none))
    .ret)
    .skip))
  (.seq (.region [
    ⟨some 14, .cp (.t 0), none⟩,
    ⟨some 15, .nilchk (.t 14), none⟩,
    ⟨some 16, .faddr (.t 15) 0, none⟩,
    ⟨some 17, .load 1 false (.t 16), none⟩,
    ⟨some 18, .cp (.t 1), none⟩,
    ⟨some 19, .nilchk (.t 18), none⟩,
    ⟨some 20, .faddr (.t 19) 0, none⟩,
    ⟨some 21, .load 1 false (.t 20), none⟩,
    ⟨some 22, .call false i_slices_Equal_int_int [(.t 17), (.t 21)], none⟩,
    ⟨some 4, .cp (.t 22), none⟩] (some []))
  .ret))) }
def x_column_check : XF := { np := 1, results := [(.inl 2, .v)], body :=
  (.seq (.region [
    ⟨some 2, .cp (.c (.s (.int .i64 0))), none⟩] (none))
  (.seq (.seq (.region [
    ⟨some 3, .cp (.t 0), none⟩,
    ⟨some 4, .len false (.t 3), none⟩,
    ⟨some 5, .bin .gtr (.t 4) (.c (.s (.int .i64 4096))), none⟩] (none))
  (.cond (.t 5)
    (.seq (.region [
      ⟨some 2, .cp (.c (.s (.int .i64 6))), none⟩] (none))
    .ret)
    .skip))
  (.seq (.seq (.region [
    ⟨some 6, .cp (.t 0), none⟩,
    ⟨some 7, .call false i_slices_ContainsFunc_int_int [(.t 6), (.c (.fn i_column_wrong [] []))], none⟩] (none))
  (.cond (.t 7)
    (.seq (.region [
      ⟨some 2, .cp (.c (.s (.int .i64 2))), none⟩] (none))
    .ret)
    .skip))
  (.seq (.region [
    ⟨some 2, .cp (.c (.s (.int .i64 0))), none⟩] (none))
  .ret)))) }
def x_column_made_l0 : XC :=
  (.seq (.seq (.region [
    ⟨some 9, .cp (.t 4), none⟩,
    ⟨some 10, .bin .leq (.t 9) (.c (.s (.int .i64 4))), none⟩] (none))
  (.cond (.t 10)
    .skip
    (.exit 0)))
  (.seq (.block 1
    (.seq (.region [
      ⟨some 13, .cp (.t 4), none⟩,
      ⟨some 14, .cp (.t 0), none⟩,
      ⟨some 15, .call false i_column_encode [(.t 13), (.t 14)], none⟩,
      ⟨some 5, .cp (.t 15), none⟩] (none))
    (.seq (.region [
      ⟨some 16, .cp (.t 3), none⟩,
      ⟨some 17, .nilchk (.t 16), none⟩,
      ⟨some 18, .faddr (.t 17) 2, none⟩,
      ⟨some 19, .load 1 false (.t 18), none⟩,
      ⟨some 20, .bin .eql (.t 19) (.c (.s (.int .i64 0))), none⟩,
      ⟨some 21, .cp (.t 20), none⟩,
      ⟨some 22, .cp (.t 5), some (21, false)⟩,
      ⟨some 23, .len true (.t 22), some (21, false)⟩,
      ⟨some 24, .cp (.t 3), some (21, false)⟩,
      ⟨some 25, .nilchk (.t 24), some (21, false)⟩,
      ⟨some 26, .faddr (.t 25) 1, some (21, false)⟩,
      ⟨some 27, .load 1 false (.t 26), some (21, false)⟩,
      ⟨some 28, .len true (.t 27), some (21, false)⟩,
      ⟨some 29, .bin .lss (.t 23) (.t 28), some (21, false)⟩,
      ⟨some 30, .pick (.t 21) (.c (.s (.bool true))) (.t 29), none⟩] (none))
    (.cond (.t 30)
      (.region [
        ⟨some 31, .cp (.t 3), none⟩,
        ⟨some 32, .cp (.t 3), none⟩,
        ⟨some 33, .cp (.t 4), none⟩,
        ⟨some 34, .cp (.t 5), none⟩,
        ⟨some 35, .nilchk (.t 31), none⟩,
        ⟨some 36, .faddr (.t 35) 2, none⟩,
        ⟨none, .store 1 (.t 36) (.t 33), none⟩,
        ⟨some 37, .nilchk (.t 32), none⟩,
        ⟨some 38, .faddr (.t 37) 1, none⟩,
        ⟨none, .store 1 (.t 38) (.t 34), none⟩] (none))
      .skip))))
  (.region [
    ⟨some 11, .cp (.t 4), none⟩,
    ⟨some 12, .bin .add (.t 11) (.c (.s (.int .i64 1))), none⟩,
    ⟨some 4, .cp (.t 12), none⟩] (none))))
def x_column_made : XF := { np := 1, results := [(.inl 2, .f)], body :=
  (.seq (.region [
    ⟨some 2, .cp (.c (.s (.pointer none))), none⟩] (none))
  (.seq (.region [
    ⟨some 6, .cp (.t 0), none⟩,
    ⟨some 7, .build false [.s (.slice none 0 0), .s (.string ⟨#[]⟩), .s (.int .i64 0)] [(0, 1, (.t 6))], none⟩,
    ⟨some 8, .box false (.t 7), none⟩,
    ⟨some 3, .cp (.t 8), none⟩] (none))
  (.seq (.seq (.region [
    ⟨some 4, .cp (.c (.s (.int .i64 1))), none⟩] (none))
  (.block 0
    (.loop x_column_made_l0)))
  (.seq (.region [
    ⟨some 39, .cp (.t 3), none⟩,
    ⟨some 2, .cp (.t 39), none⟩] (none))
  .ret)))) }
def x_slices_Clone_int_int : XF := { np := 1, results := [(.inl 2, .v)], body :=
  (.seq (.region [
    ⟨some 2, .cp (.c (.s (.slice none 0 0))), none⟩] (none))
  (.seq (.seq (.region [
    ⟨some 3, .cp (.t 0), none⟩,
    ⟨some 4, .eqv .s false (.t 3) (.c (.s (.slice none 0 0))), none⟩] (none))
  (.cond (.t 4)
    (.seq (.region [
      ⟨some 2, .cp (.c (.s (.slice none 0 0))), none⟩] (none))
    .ret)
    .skip))
  (.seq (.region [
    ⟨some 5, .bslice true 1 [], none⟩,
    ⟨some 6, .cp (.t 0), none⟩,
    ⟨some 7, .append 1 17592186044416 (.t 5) (.t 6), none⟩,
    ⟨some 2, .cp (.t 7), none⟩] (none))
  .ret))) }
def x_column_encode : XF := { np := 2, results := [(.inl 4, .v)], body :=
  (.seq (.region [
    ⟨some 4, .cp (.c (.s (.string ⟨#[]⟩))), none⟩] (none))
  (.seq (.region [
    ⟨some 7, .build false [.s .nilFunc, .s .nilFunc, .s .nilFunc, .s .nilFunc] [(0, 1, (.c (.fn i_column_plain [] []))), (1, 1, (.c (.fn i_column_delta [] []))), (2, 1, (.c (.fn i_column_runs [] []))), (3, 1, (.c (.fn i_column_packed [] [])))], none⟩,
    ⟨some 5, .alloc [.s .nilFunc, .s .nilFunc, .s .nilFunc, .s .nilFunc], none⟩,
    ⟨none, .store 4 (.t 5) (.t 7), none⟩] (none))
  (.seq (.region [
    ⟨some 6, .alloc [.s (.slice none 0 0)], none⟩] (none))
  (.seq (.region [
    ⟨some 8, .cp (.t 0), none⟩,
    ⟨some 9, .call false i_encoding_Writer_Number [(.t 6), (.t 8)], none⟩] (none))
  (.seq (.region [
    ⟨some 10, .cp (.t 0), none⟩,
    ⟨some 11, .bin .sub (.t 10) (.c (.s (.int .i64 1))), none⟩,
    ⟨some 12, .iaddrA 4 1 (.t 5) (.t 11), none⟩,
    ⟨some 13, .load 1 false (.t 12), none⟩,
    ⟨some 14, .cp (.t 1), none⟩,
    ⟨some 15, .callv false (.t 13) [(.t 6), (.t 14)], none⟩] (none))
  (.seq (.region [
    ⟨some 16, .call false i_encoding_Writer_Bytes [(.t 6)], none⟩,
    ⟨some 4, .cp (.t 16), none⟩] (none))
  .ret)))))) }
def x_slices_Concat_int_int_l0 : XC :=
  (.seq (.region [
    ⟨some 12, .bin .lss (.t 11) (.t 10), none⟩] (none))
  (.seq (.cond (.t 12)
    .skip
    (.exit 0))
  (.seq (.block 1
    (.seq (.region [
      ⟨some 13, .iaddr 1 (.t 9) (.t 11), none⟩,
      ⟨some 14, .load 1 false (.t 13), none⟩,
      ⟨some 5, .cp (.t 14), none⟩] (none))
    (.seq (.region [
      ⟨some 15, .cp (.t 3), none⟩,
      ⟨some 16, .cp (.t 5), none⟩,
      ⟨some 17, .len false (.t 16), none⟩,
      ⟨some 18, .bin .add (.t 15) (.t 17), none⟩,
      ⟨some 3, .cp (.t 18), none⟩] (none))
    (.seq (.region [
      ⟨some 19, .cp (.t 3), none⟩,
      ⟨some 20, .bin .lss (.t 19) (.c (.s (.int .i64 0))), none⟩] (none))
    (.cond (.t 20)
      (.region [
        ⟨some 21, .slArr 0 (.c (.s (.slice none 0 0))), none⟩,
        ⟨none, .slArr 0 (.c (.s (.slice none 0 0))), none⟩] (none))
      .skip)))))
  (.region [
    ⟨some 22, .bin .add (.t 11) (.c (.s (.int .i64 1))), none⟩,
    ⟨some 11, .cp (.t 22), none⟩] (none)))))
def x_slices_Concat_int_int_l1 : XC :=
  (.seq (.region [
    ⟨some 28, .bin .lss (.t 27) (.t 26), none⟩] (none))
  (.seq (.cond (.t 28)
    .skip
    (.exit 2))
  (.seq (.block 3
    (.seq (.region [
      ⟨some 29, .iaddr 1 (.t 25) (.t 27), none⟩,
      ⟨some 30, .load 1 false (.t 29), none⟩,
      ⟨some 8, .cp (.t 30), none⟩] (none))
    (.region [
      ⟨some 31, .cp (.t 6), none⟩,
      ⟨some 32, .cp (.t 8), none⟩,
      ⟨some 33, .append 1 17592186044416 (.t 31) (.t 32), none⟩,
      ⟨some 6, .cp (.t 33), none⟩] (none))))
  (.region [
    ⟨some 34, .bin .add (.t 27) (.c (.s (.int .i64 1))), none⟩,
    ⟨some 27, .cp (.t 34), none⟩] (none)))))
def x_slices_Concat_int_int : XF := { np := 1, results := [(.inl 2, .v)], body :=
  (.seq (.region [
    ⟨some 2, .cp (.c (.s (.slice none 0 0))), none⟩] (none))
  (.seq (.region [
    ⟨some 3, .cp (.c (.s (.int .i64 0))), none⟩] (none))
  (.seq (.seq (.region [
    ⟨some 9, .cp (.t 0), none⟩,
    ⟨some 10, .len false (.t 9), none⟩,
    ⟨some 11, .cp (.c (.s (.int .i64 0))), none⟩] (none))
  (.block 0
    (.loop x_slices_Concat_int_int_l0)))
  (.seq (.region [
    ⟨some 23, .cp (.t 3), none⟩,
    ⟨some 24, .call true i_slices_Grow_int_int [(.c (.s (.slice none 0 0))), (.t 23)], none⟩,
    ⟨some 6, .cp (.t 24), none⟩] (none))
  (.seq (.seq (.region [
    ⟨some 25, .cp (.t 0), none⟩,
    ⟨some 26, .len false (.t 25), none⟩,
    ⟨some 27, .cp (.c (.s (.int .i64 0))), none⟩] (none))
  (.block 2
    (.loop x_slices_Concat_int_int_l1)))
  (.seq (.region [
    ⟨some 35, .cp (.t 6), none⟩,
    ⟨some 2, .cp (.t 35), none⟩] (none))
  .ret)))))) }
def x_column_zone : XF := { np := 1, results := [(.inr (2, 2, true), .v)], body :=
  (.seq (.region [
    ⟨some 2, .alloc [.s (.int .i64 0), .s (.int .i64 0)], none⟩] (none))
  (.seq (.seq (.region [
    ⟨some 3, .cp (.t 0), none⟩,
    ⟨some 4, .len false (.t 3), none⟩,
    ⟨some 5, .bin .eql (.t 4) (.c (.s (.int .i64 0))), none⟩] (none))
  (.cond (.t 5)
    (.seq (.region [
      ⟨some 6, .build false [.s (.int .i64 0), .s (.int .i64 0)] [], none⟩,
      ⟨none, .store 2 (.t 2) (.t 6), none⟩] (none))
    .ret)
    .skip))
  (.seq (.region [
    ⟨some 7, .cp (.t 0), none⟩,
    ⟨some 8, .call false i_slices_Min_int_int [(.t 7)], none⟩,
    ⟨some 9, .cp (.t 0), none⟩,
    ⟨some 10, .call false i_slices_Max_int_int [(.t 9)], none⟩,
    ⟨some 11, .build false [.s (.int .i64 0), .s (.int .i64 0)] [(0, 1, (.t 8)), (1, 1, (.t 10))], none⟩,
    ⟨none, .store 2 (.t 2) (.t 11), none⟩] (none))
  .ret))) }
def x_slices_Equal_int_int_l0 : XC :=
  (.seq (.region [
    ⟨some 14, .bin .lss (.t 13) (.t 12), none⟩] (none))
  (.seq (.cond (.t 14)
    .skip
    (.exit 0))
  (.seq (.block 1
    (.seq (.region [
      ⟨some 15, .cp (.t 13), none⟩,
      ⟨some 5, .cp (.t 15), none⟩] (none))
    (.seq (.region [
      ⟨some 16, .cp (.t 0), none⟩,
      ⟨some 17, .cp (.t 5), none⟩,
      ⟨some 18, .iaddr 1 (.t 16) (.t 17), none⟩,
      ⟨some 19, .load 1 false (.t 18), none⟩,
      ⟨some 20, .cp (.t 1), none⟩,
      ⟨some 21, .cp (.t 5), none⟩,
      ⟨some 22, .iaddr 1 (.t 20) (.t 21), none⟩,
      ⟨some 23, .load 1 false (.t 22), none⟩,
      ⟨some 24, .bin .neq (.t 19) (.t 23), none⟩] (some []))
    (.cond (.t 24)
      (.seq (.region [
        ⟨some 4, .cp (.c (.s (.bool false))), none⟩] (none))
      .ret)
      .skip))))
  (.region [
    ⟨some 25, .bin .add (.t 13) (.c (.s (.int .i64 1))), none⟩,
    ⟨some 13, .cp (.t 25), none⟩] (none)))))
def x_slices_Equal_int_int : XF := { np := 2, results := [(.inl 4, .v)], body :=
  (.seq (.region [
    ⟨some 4, .cp (.c (.s (.bool false))), none⟩] (none))
  (.seq (.seq (.region [
    ⟨some 6, .cp (.t 0), none⟩,
    ⟨some 7, .len false (.t 6), none⟩,
    ⟨some 8, .cp (.t 1), none⟩,
    ⟨some 9, .len false (.t 8), none⟩,
    ⟨some 10, .bin .neq (.t 7) (.t 9), none⟩] (none))
  (.cond (.t 10)
    (.seq (.region [
      ⟨some 4, .cp (.c (.s (.bool false))), none⟩] (none))
    .ret)
    .skip))
  (.seq (.seq (.region [
    ⟨some 11, .cp (.t 0), none⟩,
    ⟨some 12, .len false (.t 11), none⟩,
    ⟨some 13, .cp (.c (.s (.int .i64 0))), none⟩] (none))
  (.block 0
    (.loop x_slices_Equal_int_int_l0)))
  (.seq (.region [
    ⟨some 4, .cp (.c (.s (.bool true))), none⟩] (none))
  .ret)))) }
def x_slices_ContainsFunc_int_int : XF := { np := 2, results := [(.inl 4, .v)], body :=
  (.seq (.region [
    ⟨some 4, .cp (.c (.s (.bool false))), none⟩] (none))
  (.seq (.region [
    ⟨some 5, .cp (.t 0), none⟩,
    ⟨some 6, .cp (.t 1), none⟩,
    ⟨some 7, .call false i_slices_IndexFunc_int_int [(.t 5), (.t 6)], none⟩,
    ⟨some 8, .bin .geq (.t 7) (.c (.s (.int .i64 0))), none⟩,
    ⟨some 4, .cp (.t 8), none⟩] (none))
  .ret)) }
def x_column_wrong : XF := { np := 1, results := [(.inl 2, .v)], body :=
  (.seq (.region [
    ⟨some 2, .cp (.c (.s (.bool false))), none⟩] (none))
  (.seq (.region [
    ⟨some 3, .cp (.t 0), none⟩,
    ⟨some 4, .bin .lss (.t 3) (.c (.s (.int .i64 (-1152921504606846976)))), none⟩,
    ⟨some 5, .cp (.t 4), none⟩,
    ⟨some 6, .cp (.t 0), some (5, false)⟩,
    ⟨some 7, .bin .gtr (.t 6) (.c (.s (.int .i64 1152921504606846976))), some (5, false)⟩,
    ⟨some 8, .pick (.t 5) (.c (.s (.bool true))) (.t 7), none⟩,
    ⟨some 2, .cp (.t 8), none⟩] (none))
  .ret)) }
def x_column_plain_l0 : XC :=
  (.seq (.region [
    ⟨some 13, .bin .lss (.t 12) (.t 11), none⟩] (none))
  (.seq (.cond (.t 13)
    .skip
    (.exit 0))
  (.seq (.block 1
    (.seq (.region [
      ⟨some 14, .iaddr 1 (.t 10) (.t 12), none⟩,
      ⟨some 15, .load 1 false (.t 14), none⟩,
      ⟨some 5, .cp (.t 15), none⟩] (none))
    (.region [
      ⟨some 16, .cp (.t 0), none⟩,
      ⟨some 17, .cp (.t 5), none⟩,
      ⟨some 18, .call false i_encoding_Writer_Number [(.t 16), (.t 17)], none⟩] (none))))
  (.region [
    ⟨some 19, .bin .add (.t 12) (.c (.s (.int .i64 1))), none⟩,
    ⟨some 12, .cp (.t 19), none⟩] (none)))))
def x_column_plain : XF := { np := 2, results := [], body :=
  (.seq (.region [
    ⟨some 6, .cp (.t 0), none⟩,
    ⟨some 7, .cp (.t 1), none⟩,
    ⟨some 8, .len false (.t 7), none⟩,
    ⟨some 9, .call false i_encoding_Writer_Number [(.t 6), (.t 8)], none⟩] (none))
  (.seq (.region [
    ⟨some 10, .cp (.t 1), none⟩,
    ⟨some 11, .len false (.t 10), none⟩,
    ⟨some 12, .cp (.c (.s (.int .i64 0))), none⟩] (none))
  (.block 0
    (.loop x_column_plain_l0)))) }
def x_column_delta_l0 : XC :=
  (.seq (.region [
    ⟨some 14, .bin .lss (.t 13) (.t 12), none⟩] (none))
  (.seq (.cond (.t 14)
    .skip
    (.exit 0))
  (.seq (.block 1
    (.seq (.region [
      ⟨some 15, .iaddr 1 (.t 11) (.t 13), none⟩,
      ⟨some 16, .load 1 false (.t 15), none⟩,
      ⟨some 6, .cp (.t 16), none⟩] (none))
    (.seq (.region [
      ⟨some 17, .cp (.t 0), none⟩,
      ⟨some 18, .cp (.t 6), none⟩,
      ⟨some 19, .cp (.t 4), none⟩,
      ⟨some 20, .bin .sub (.t 18) (.t 19), none⟩,
      ⟨some 21, .call false i_encoding_Writer_Number [(.t 17), (.t 20)], none⟩] (none))
    (.region [
      ⟨some 22, .cp (.t 6), none⟩,
      ⟨some 4, .cp (.t 22), none⟩] (none)))))
  (.region [
    ⟨some 23, .bin .add (.t 13) (.c (.s (.int .i64 1))), none⟩,
    ⟨some 13, .cp (.t 23), none⟩] (none)))))
def x_column_delta : XF := { np := 2, results := [], body :=
  (.seq (.region [
    ⟨some 7, .cp (.t 0), none⟩,
    ⟨some 8, .cp (.t 1), none⟩,
    ⟨some 9, .len false (.t 8), none⟩,
    ⟨some 10, .call false i_encoding_Writer_Number [(.t 7), (.t 9)], none⟩] (none))
  (.seq (.region [
    ⟨some 4, .cp (.c (.s (.int .i64 0))), none⟩] (none))
  (.seq (.region [
    ⟨some 11, .cp (.t 1), none⟩,
    ⟨some 12, .len false (.t 11), none⟩,
    ⟨some 13, .cp (.c (.s (.int .i64 0))), none⟩] (none))
  (.block 0
    (.loop x_column_delta_l0))))) }
def x_column_runs_l0 : XC :=
  (.seq (.region [
    ⟨some 13, .bin .lss (.t 12) (.t 11), none⟩] (none))
  (.seq (.cond (.t 13)
    .skip
    (.exit 0))
  (.seq (.block 1
    (.seq (.region [
      ⟨some 14, .cp (.t 12), none⟩,
      ⟨some 15, .iaddr 1 (.t 10) (.t 12), none⟩,
      ⟨some 16, .load 1 false (.t 15), none⟩,
      ⟨some 5, .cp (.t 14), none⟩,
      ⟨some 6, .cp (.t 16), none⟩] (none))
    (.seq (.region [
      ⟨some 17, .cp (.t 5), none⟩,
      ⟨some 18, .bin .eql (.t 17) (.c (.s (.int .i64 0))), none⟩,
      ⟨some 19, .cp (.t 18), none⟩,
      ⟨some 20, .cp (.t 6), some (19, false)⟩,
      ⟨some 21, .cp (.t 1), some (19, false)⟩,
      ⟨some 22, .cp (.t 5), some (19, false)⟩,
      ⟨some 23, .bin .sub (.t 22) (.c (.s (.int .i64 1))), some (19, false)⟩,
      ⟨some 24, .iaddr 1 (.t 21) (.t 23), some (19, false)⟩,
      ⟨some 25, .load 1 false (.t 24), some (19, false)⟩,
      ⟨some 26, .bin .neq (.t 20) (.t 25), some (19, false)⟩,
      ⟨some 27, .pick (.t 19) (.c (.s (.bool true))) (.t 26), none⟩] (none))
    (.cond (.t 27)
      (.region [
        ⟨some 28, .cp (.t 4), none⟩,
        ⟨some 29, .cp (.t 5), none⟩,
        ⟨some 30, .bslice false 1 [(.t 29)], none⟩,
        ⟨some 31, .append 1 17592186044416 (.t 28) (.t 30), none⟩,
        ⟨some 4, .cp (.t 31), none⟩] (none))
      .skip))))
  (.region [
    ⟨some 32, .bin .add (.t 12) (.c (.s (.int .i64 1))), none⟩,
    ⟨some 12, .cp (.t 32), none⟩] (none)))))
def x_column_runs_l1 : XC :=
  (.seq (.region [
    ⟨some 40, .bin .lss (.t 39) (.t 38), none⟩] (none))
  (.seq (.cond (.t 40)
    .skip
    (.exit 2))
  (.seq (.block 3
    (.seq (.region [
      ⟨some 41, .cp (.t 39), none⟩,
      ⟨some 42, .iaddr 1 (.t 37) (.t 39), none⟩,
      ⟨some 43, .load 1 false (.t 42), none⟩,
      ⟨some 7, .cp (.t 41), none⟩,
      ⟨some 8, .cp (.t 43), none⟩] (none))
    (.seq (.region [
      ⟨some 44, .cp (.t 1), none⟩,
      ⟨some 45, .len false (.t 44), none⟩,
      ⟨some 9, .cp (.t 45), none⟩] (none))
    (.seq (.seq (.region [
      ⟨some 46, .cp (.t 7), none⟩,
      ⟨some 47, .bin .add (.t 46) (.c (.s (.int .i64 1))), none⟩,
      ⟨some 48, .cp (.t 4), none⟩,
      ⟨some 49, .len false (.t 48), none⟩,
      ⟨some 50, .bin .lss (.t 47) (.t 49), none⟩] (none))
    (.cond (.t 50)
      (.region [
        ⟨some 51, .cp (.t 4), none⟩,
        ⟨some 52, .cp (.t 7), none⟩,
        ⟨some 53, .bin .add (.t 52) (.c (.s (.int .i64 1))), none⟩,
        ⟨some 54, .iaddr 1 (.t 51) (.t 53), none⟩,
        ⟨some 55, .load 1 false (.t 54), none⟩,
        ⟨some 9, .cp (.t 55), none⟩] (none))
      .skip))
    (.seq (.region [
      ⟨some 56, .cp (.t 0), none⟩,
      ⟨some 57, .cp (.t 1), none⟩,
      ⟨some 58, .cp (.t 8), none⟩,
      ⟨some 59, .iaddr 1 (.t 57) (.t 58), none⟩,
      ⟨some 60, .load 1 false (.t 59), none⟩,
      ⟨some 61, .call false i_encoding_Writer_Number [(.t 56), (.t 60)], none⟩] (none))
    (.region [
      ⟨some 62, .cp (.t 0), none⟩,
      ⟨some 63, .cp (.t 9), none⟩,
      ⟨some 64, .cp (.t 8), none⟩,
      ⟨some 65, .bin .sub (.t 63) (.t 64), none⟩,
      ⟨some 66, .call false i_encoding_Writer_Number [(.t 62), (.t 65)], none⟩] (none)))))))
  (.region [
    ⟨some 67, .bin .add (.t 39) (.c (.s (.int .i64 1))), none⟩,
    ⟨some 39, .cp (.t 67), none⟩] (none)))))
def x_column_runs : XF := { np := 2, results := [], body :=
  (.seq (.region [
    ⟨some 4, .cp (.c (.s (.slice none 0 0))), none⟩] (none))
  (.seq (.seq (.region [
    ⟨some 10, .cp (.t 1), none⟩,
    ⟨some 11, .len false (.t 10), none⟩,
    ⟨some 12, .cp (.c (.s (.int .i64 0))), none⟩] (none))
  (.block 0
    (.loop x_column_runs_l0)))
  (.seq (.region [
    ⟨some 33, .cp (.t 0), none⟩,
    ⟨some 34, .cp (.t 4), none⟩,
    ⟨some 35, .len false (.t 34), none⟩,
    ⟨some 36, .call false i_encoding_Writer_Number [(.t 33), (.t 35)], none⟩] (none))
  (.seq (.region [
    ⟨some 37, .cp (.t 4), none⟩,
    ⟨some 38, .len false (.t 37), none⟩,
    ⟨some 39, .cp (.c (.s (.int .i64 0))), none⟩] (none))
  (.block 2
    (.loop x_column_runs_l1)))))) }
def x_column_packed_l0 : XC :=
  (.seq (.region [
    ⟨some 36, .bin .lss (.t 35) (.t 34), none⟩] (none))
  (.seq (.cond (.t 36)
    .skip
    (.exit 2))
  (.seq (.block 3
    (.seq (.region [
      ⟨some 37, .cp (.t 35), none⟩,
      ⟨some 9, .cp (.t 37), none⟩] (none))
    (.seq (.region [
      ⟨some 38, .cp (.t 7), none⟩,
      ⟨some 39, .cp (.t 5), none⟩,
      ⟨some 40, .bin .mul (.t 38) (.t 39), none⟩,
      ⟨some 41, .cp (.t 9), none⟩,
      ⟨some 42, .bin .add (.t 40) (.t 41), none⟩,
      ⟨some 10, .cp (.t 42), none⟩] (none))
    (.region [
      ⟨some 43, .cp (.t 6), none⟩,
      ⟨some 44, .cp (.t 10), none⟩,
      ⟨some 45, .bin .quo (.t 44) (.c (.s (.int .i64 8))), none⟩,
      ⟨some 46, .iaddr 1 (.t 43) (.t 45), none⟩,
      ⟨some 47, .load 1 false (.t 46), none⟩,
      ⟨some 48, .cp (.t 8), none⟩,
      ⟨some 49, .faddr (.t 4) 0, none⟩,
      ⟨some 50, .load 1 false (.t 49), none⟩,
      ⟨some 51, .bin .sub (.t 48) (.t 50), none⟩,
      ⟨some 52, .cp (.t 9), none⟩,
      ⟨some 53, .bin .shr (.t 51) (.t 52), none⟩,
      ⟨some 54, .bin .and (.t 53) (.c (.s (.int .i64 1))), none⟩,
      ⟨some 55, .conv .u8 (.t 54), none⟩,
      ⟨some 56, .cp (.t 10), none⟩,
      ⟨some 57, .bin .rem (.t 56) (.c (.s (.int .i64 8))), none⟩,
      ⟨some 58, .bin .shl (.t 55) (.t 57), none⟩,
      ⟨some 59, .bin .or (.t 47) (.t 58), none⟩,
      ⟨some 60, .iaddr 1 (.t 43) (.t 45), none⟩,
      ⟨none, .store 1 (.t 60) (.t 59), none⟩] (some [])))))
  (.region [
    ⟨some 61, .bin .add (.t 35) (.c (.s (.int .i64 1))), none⟩,
    ⟨some 35, .cp (.t 61), none⟩] (none)))))
def x_column_packed_l1 : XC :=
  (.seq (.region [
    ⟨some 30, .bin .lss (.t 29) (.t 28), none⟩] (none))
  (.seq (.cond (.t 30)
    .skip
    (.exit 0))
  (.seq (.block 1
    (.seq (.region [
      ⟨some 31, .cp (.t 29), none⟩,
      ⟨some 32, .iaddr 1 (.t 27) (.t 29), none⟩,
      ⟨some 33, .load 1 false (.t 32), none⟩,
      ⟨some 7, .cp (.t 31), none⟩,
      ⟨some 8, .cp (.t 33), none⟩] (none))
    (.seq (.region [
      ⟨some 34, .cp (.t 5), none⟩,
      ⟨some 35, .cp (.c (.s (.int .i64 0))), none⟩] (none))
    (.block 2
      (.loop x_column_packed_l0)))))
  (.region [
    ⟨some 62, .bin .add (.t 29) (.c (.s (.int .i64 1))), none⟩,
    ⟨some 29, .cp (.t 62), none⟩] (none)))))
def x_column_packed : XF := { np := 2, results := [], body :=
  (.seq (.region [
    ⟨some 11, .cp (.t 1), none⟩,
    ⟨some 12, .call false i_column_zone [(.t 11)], none⟩,
    ⟨some 4, .alloc [.s (.int .i64 0), .s (.int .i64 0)], none⟩,
    ⟨none, .store 2 (.t 4) (.t 12), none⟩] (none))
  (.seq (.region [
    ⟨some 13, .faddr (.t 4) 1, none⟩,
    ⟨some 14, .load 1 false (.t 13), none⟩,
    ⟨some 15, .faddr (.t 4) 0, none⟩,
    ⟨some 16, .load 1 false (.t 15), none⟩,
    ⟨some 17, .bin .sub (.t 14) (.t 16), none⟩,
    ⟨some 18, .conv .u64 (.t 17), none⟩,
    ⟨some 19, .call false i_math_bits_Len [(.t 18)], none⟩,
    ⟨some 5, .cp (.t 19), none⟩] (none))
  (.seq (.region [
    ⟨some 20, .cp (.t 1), none⟩,
    ⟨some 21, .len false (.t 20), none⟩,
    ⟨some 22, .cp (.t 5), none⟩,
    ⟨some 23, .bin .mul (.t 21) (.t 22), none⟩,
    ⟨some 24, .bin .add (.t 23) (.c (.s (.int .i64 7))), none⟩,
    ⟨some 25, .bin .quo (.t 24) (.c (.s (.int .i64 8))), none⟩,
    ⟨some 26, .mkslice 1 (.s (.int .u8 0)) 140737488355328 (.t 25) (.t 25), none⟩,
    ⟨some 6, .cp (.t 26), none⟩] (none))
  (.seq (.seq (.region [
    ⟨some 27, .cp (.t 1), none⟩,
    ⟨some 28, .len false (.t 27), none⟩,
    ⟨some 29, .cp (.c (.s (.int .i64 0))), none⟩] (none))
  (.block 0
    (.loop x_column_packed_l1)))
  (.seq (.region [
    ⟨some 63, .cp (.t 0), none⟩,
    ⟨some 64, .cp (.t 1), none⟩,
    ⟨some 65, .len false (.t 64), none⟩,
    ⟨some 66, .call false i_encoding_Writer_Number [(.t 63), (.t 65)], none⟩] (none))
  (.seq (.region [
    ⟨some 67, .cp (.t 0), none⟩,
    ⟨some 68, .faddr (.t 4) 0, none⟩,
    ⟨some 69, .load 1 false (.t 68), none⟩,
    ⟨some 70, .call false i_encoding_Writer_Number [(.t 67), (.t 69)], none⟩] (none))
  (.seq (.region [
    ⟨some 71, .cp (.t 0), none⟩,
    ⟨some 72, .cp (.t 5), none⟩,
    ⟨some 73, .call false i_encoding_Writer_Number [(.t 71), (.t 72)], none⟩] (none))
  (.region [
    ⟨some 74, .cp (.t 0), none⟩,
    ⟨some 75, .cp (.t 6), none⟩,
    ⟨some 76, .toStr (.t 75), none⟩,
    ⟨some 77, .call false i_encoding_Writer_Text [(.t 74), (.t 76)], none⟩] (none))))))))) }
def x_slices_Grow_int_int : XF := { np := 2, results := [(.inl 4, .v)], body :=
  (.seq (.region [
    ⟨some 4, .cp (.c (.s (.slice none 0 0))), none⟩] (none))
  (.seq (.seq (.region [
    ⟨some 5, .cp (.t 1), none⟩,
    ⟨some 6, .bin .lss (.t 5) (.c (.s (.int .i64 0))), none⟩] (none))
  (.cond (.t 6)
    (.region [
      ⟨some 7, .slArr 0 (.c (.s (.slice none 0 0))), none⟩,
      ⟨none, .slArr 0 (.c (.s (.slice none 0 0))), none⟩] (none))
    .skip))
  (.seq (.seq (.region [
    ⟨some 8, .cp (.t 1), none⟩,
    ⟨some 9, .cp (.t 0), none⟩,
    ⟨some 10, .slArr 0 (.c (.s (.slice none 0 0))), none⟩,
    ⟨some 11, .cp (.t 0), none⟩,
    ⟨some 12, .len false (.t 11), none⟩,
    ⟨some 13, .bin .sub (.t 10) (.t 12), none⟩,
    ⟨some 14, .bin .sub (.t 8) (.t 13), none⟩,
    ⟨some 1, .cp (.t 14), none⟩] (none))
  (.seq (.region [
    ⟨some 15, .cp (.t 1), none⟩,
    ⟨some 16, .bin .gtr (.t 15) (.c (.s (.int .i64 0))), none⟩] (none))
  (.cond (.t 16)
    (.region [
      ⟨some 17, .cp (.t 0), none⟩,
      ⟨some 18, .cp (.t 0), none⟩,
      ⟨some 19, .slArr 0 (.c (.s (.slice none 0 0))), none⟩,
      ⟨some 20, .slLst 1 (.t 17) none (some (.t 19)), none⟩,
      ⟨some 21, .cp (.t 1), none⟩,
      ⟨some 22, .slArr 0 (.c (.s (.slice none 0 0))), none⟩,
      ⟨some 23, .cp (.t 0), none⟩,
      ⟨some 24, .len false (.t 23), none⟩,
      ⟨some 25, .slLst 1 (.t 22) none (some (.t 24)), none⟩,
      ⟨some 0, .cp (.t 25), none⟩] (none))
    .skip)))
  (.seq (.region [
    ⟨some 26, .cp (.t 0), none⟩,
    ⟨some 4, .cp (.t 26), none⟩] (none))
  .ret)))) }
def x_slices_Min_int_int_l0 : XC :=
  (.seq (.seq (.region [
    ⟨some 12, .cp (.t 4), none⟩,
    ⟨some 13, .cp (.t 0), none⟩,
    ⟨some 14, .len false (.t 13), none⟩,
    ⟨some 15, .bin .lss (.t 12) (.t 14), none⟩] (none))
  (.cond (.t 15)
    .skip
    (.exit 0)))
  (.seq (.block 1
    (.region [
      ⟨some 18, .cp (.t 3), none⟩,
      ⟨some 19, .cp (.t 0), none⟩,
      ⟨some 20, .cp (.t 4), none⟩,
      ⟨some 21, .iaddr 1 (.t 19) (.t 20), none⟩,
      ⟨some 22, .load 1 false (.t 21), none⟩,
      ⟨some 23, .minmax false [(.t 18), (.t 22)], none⟩,
      ⟨some 3, .cp (.t 23), none⟩] (none)))
  (.region [
    ⟨some 16, .cp (.t 4), none⟩,
    ⟨some 17, .bin .add (.t 16) (.c (.s (.int .i64 1))), none⟩,
    ⟨some 4, .cp (.t 17), none⟩] (none))))
def x_slices_Min_int_int : XF := { np := 1, results := [(.inl 2, .v)], body :=
  (.seq (.region [
    ⟨some 2, .cp (.c (.s (.int .i64 0))), none⟩] (none))
  (.seq (.seq (.region [
    ⟨some 5, .cp (.t 0), none⟩,
    ⟨some 6, .len false (.t 5), none⟩,
    ⟨some 7, .bin .lss (.t 6) (.c (.s (.int .i64 1))), none⟩] (none))
  (.cond (.t 7)
    (.region [
      ⟨some 8, .slArr 0 (.c (.s (.slice none 0 0))), none⟩,
      ⟨none, .slArr 0 (.c (.s (.slice none 0 0))), none⟩] (none))
    .skip))
  (.seq (.region [
    ⟨some 9, .cp (.t 0), none⟩,
    ⟨some 10, .iaddr 1 (.t 9) (.c (.s (.int .i64 0))), none⟩,
    ⟨some 11, .load 1 false (.t 10), none⟩,
    ⟨some 3, .cp (.t 11), none⟩] (none))
  (.seq (.seq (.region [
    ⟨some 4, .cp (.c (.s (.int .i64 1))), none⟩] (none))
  (.block 0
    (.loop x_slices_Min_int_int_l0)))
  (.seq (.region [
    ⟨some 24, .cp (.t 3), none⟩,
    ⟨some 2, .cp (.t 24), none⟩] (none))
  .ret))))) }
def x_slices_Max_int_int_l0 : XC :=
  (.seq (.seq (.region [
    ⟨some 12, .cp (.t 4), none⟩,
    ⟨some 13, .cp (.t 0), none⟩,
    ⟨some 14, .len false (.t 13), none⟩,
    ⟨some 15, .bin .lss (.t 12) (.t 14), none⟩] (none))
  (.cond (.t 15)
    .skip
    (.exit 0)))
  (.seq (.block 1
    (.region [
      ⟨some 18, .cp (.t 3), none⟩,
      ⟨some 19, .cp (.t 0), none⟩,
      ⟨some 20, .cp (.t 4), none⟩,
      ⟨some 21, .iaddr 1 (.t 19) (.t 20), none⟩,
      ⟨some 22, .load 1 false (.t 21), none⟩,
      ⟨some 23, .minmax true [(.t 18), (.t 22)], none⟩,
      ⟨some 3, .cp (.t 23), none⟩] (none)))
  (.region [
    ⟨some 16, .cp (.t 4), none⟩,
    ⟨some 17, .bin .add (.t 16) (.c (.s (.int .i64 1))), none⟩,
    ⟨some 4, .cp (.t 17), none⟩] (none))))
def x_slices_Max_int_int : XF := { np := 1, results := [(.inl 2, .v)], body :=
  (.seq (.region [
    ⟨some 2, .cp (.c (.s (.int .i64 0))), none⟩] (none))
  (.seq (.seq (.region [
    ⟨some 5, .cp (.t 0), none⟩,
    ⟨some 6, .len false (.t 5), none⟩,
    ⟨some 7, .bin .lss (.t 6) (.c (.s (.int .i64 1))), none⟩] (none))
  (.cond (.t 7)
    (.region [
      ⟨some 8, .slArr 0 (.c (.s (.slice none 0 0))), none⟩,
      ⟨none, .slArr 0 (.c (.s (.slice none 0 0))), none⟩] (none))
    .skip))
  (.seq (.region [
    ⟨some 9, .cp (.t 0), none⟩,
    ⟨some 10, .iaddr 1 (.t 9) (.c (.s (.int .i64 0))), none⟩,
    ⟨some 11, .load 1 false (.t 10), none⟩,
    ⟨some 3, .cp (.t 11), none⟩] (none))
  (.seq (.seq (.region [
    ⟨some 4, .cp (.c (.s (.int .i64 1))), none⟩] (none))
  (.block 0
    (.loop x_slices_Max_int_int_l0)))
  (.seq (.region [
    ⟨some 24, .cp (.t 3), none⟩,
    ⟨some 2, .cp (.t 24), none⟩] (none))
  .ret))))) }
def x_slices_IndexFunc_int_int_l0 : XC :=
  (.seq (.region [
    ⟨some 9, .bin .lss (.t 8) (.t 7), none⟩] (none))
  (.seq (.cond (.t 9)
    .skip
    (.exit 0))
  (.seq (.block 1
    (.seq (.region [
      ⟨some 10, .cp (.t 8), none⟩,
      ⟨some 5, .cp (.t 10), none⟩] (none))
    (.seq (.region [
      ⟨some 11, .cp (.t 1), none⟩,
      ⟨some 12, .cp (.t 0), none⟩,
      ⟨some 13, .cp (.t 5), none⟩,
      ⟨some 14, .iaddr 1 (.t 12) (.t 13), none⟩,
      ⟨some 15, .load 1 false (.t 14), none⟩,
      ⟨some 16, .callv false (.t 11) [(.t 15)], none⟩] (none))
    (.cond (.t 16)
      (.seq (.region [
        ⟨some 17, .cp (.t 5), none⟩,
        ⟨some 4, .cp (.t 17), none⟩] (none))
      .ret)
      .skip))))
  (.region [
    ⟨some 18, .bin .add (.t 8) (.c (.s (.int .i64 1))), none⟩,
    ⟨some 8, .cp (.t 18), none⟩] (none)))))
def x_slices_IndexFunc_int_int : XF := { np := 2, results := [(.inl 4, .v)], body :=
  (.seq (.region [
    ⟨some 4, .cp (.c (.s (.int .i64 0))), none⟩] (none))
  (.seq (.seq (.region [
    ⟨some 6, .cp (.t 0), none⟩,
    ⟨some 7, .len false (.t 6), none⟩,
    ⟨some 8, .cp (.c (.s (.int .i64 0))), none⟩] (none))
  (.block 0
    (.loop x_slices_IndexFunc_int_int_l0)))
  (.seq (.region [
    ⟨some 4, .cp (.c (.s (.int .i64 (-1)))), none⟩] (none))
  .ret))) }
def x_math_bits_Len : XF := { np := 1, results := [(.inl 2, .v)], body :=
  (.seq (.region [
    ⟨some 2, .cp (.c (.s (.int .i64 0))), none⟩] (none))
  (.seq (.cond (.c (.s (.bool false)))
    (.seq (.region [
      ⟨some 3, .cp (.t 0), none⟩,
      ⟨some 4, .conv .u32 (.t 3), none⟩,
      ⟨some 5, .call false i_math_bits_Len32 [(.t 4)], none⟩,
      ⟨some 2, .cp (.t 5), none⟩] (none))
    .ret)
    .skip)
  (.seq (.region [
    ⟨some 6, .cp (.t 0), none⟩,
    ⟨some 7, .call false i_math_bits_Len64 [(.t 6)], none⟩,
    ⟨some 2, .cp (.t 7), none⟩] (none))
  .ret))) }
def x_math_bits_Len32_s0 : ByteArray :=
  ⟨#[0, 1, 2, 2, 3, 3, 3, 3, 4, 4, 4, 4, 4, 4, 4, 4, 5, 5, 5, 5, 5, 5, 5, 5, 5, 5, 5, 5, 5, 5, 5, 5, 6, 6, 6, 6, 6, 6, 6, 6, 6, 6, 6, 6, 6, 6, 6, 6, 6, 6, 6, 6, 6, 6, 6, 6, 6, 6, 6, 6, 6, 6, 6, 6, 7, 7, 7, 7, 7, 7, 7, 7, 7, 7, 7, 7, 7, 7, 7, 7, 7, 7, 7, 7, 7, 7, 7, 7, 7, 7, 7, 7, 7, 7, 7, 7, 7, 7, 7, 7, 7, 7, 7, 7, 7, 7, 7, 7, 7, 7, 7, 7, 7, 7, 7, 7, 7, 7, 7, 7, 7, 7, 7, 7, 7, 7, 7, 7, 8, 8, 8, 8, 8, 8, 8, 8, 8, 8, 8, 8, 8, 8, 8, 8, 8, 8, 8, 8, 8, 8, 8, 8, 8, 8, 8, 8, 8, 8, 8, 8, 8, 8, 8, 8, 8, 8, 8, 8, 8, 8, 8, 8, 8, 8, 8, 8, 8, 8, 8, 8, 8, 8, 8, 8, 8, 8, 8, 8, 8, 8, 8, 8, 8, 8, 8, 8, 8, 8, 8, 8, 8, 8, 8, 8, 8, 8, 8, 8, 8, 8, 8, 8, 8, 8, 8, 8, 8, 8, 8, 8, 8, 8, 8, 8, 8, 8, 8, 8, 8, 8, 8, 8, 8, 8, 8, 8, 8, 8, 8, 8, 8, 8, 8, 8, 8, 8, 8, 8, 8, 8, 8, 8, 8, 8, 8, 8]⟩
def x_math_bits_Len32 : XF := { np := 1, results := [(.inl 2, .v)], body :=
  (.seq (.region [
    ⟨some 2, .cp (.c (.s (.int .i64 0))), none⟩] (none))
  (.seq (.seq (.region [
    ⟨some 3, .cp (.t 0), none⟩,
    ⟨some 4, .bin .geq (.t 3) (.c (.s (.int .u32 65536))), none⟩] (none))
  (.cond (.t 4)
    (.seq (.region [
      ⟨some 5, .cp (.t 0), none⟩,
      ⟨some 6, .bin .shr (.t 5) (.c (.s (.int .u64 16))), none⟩,
      ⟨some 0, .cp (.t 6), none⟩] (none))
    (.region [
      ⟨some 2, .cp (.c (.s (.int .i64 16))), none⟩] (none)))
    .skip))
  (.seq (.seq (.region [
    ⟨some 7, .cp (.t 0), none⟩,
    ⟨some 8, .bin .geq (.t 7) (.c (.s (.int .u32 256))), none⟩] (none))
  (.cond (.t 8)
    (.seq (.region [
      ⟨some 9, .cp (.t 0), none⟩,
      ⟨some 10, .bin .shr (.t 9) (.c (.s (.int .u64 8))), none⟩,
      ⟨some 0, .cp (.t 10), none⟩] (none))
    (.region [
      ⟨some 11, .cp (.t 2), none⟩,
      ⟨some 12, .bin .add (.t 11) (.c (.s (.int .i64 8))), none⟩,
      ⟨some 2, .cp (.t 12), none⟩] (none)))
    .skip))
  (.seq (.region [
    ⟨some 13, .cp (.t 2), none⟩,
    ⟨some 14, .cp (.t 0), none⟩,
    ⟨some 15, .conv .u8 (.t 14), none⟩,
    ⟨some 16, .idxS (.c (.s (.string x_math_bits_Len32_s0))) (.t 15), none⟩,
    ⟨some 17, .conv .i64 (.t 16), none⟩,
    ⟨some 18, .bin .add (.t 13) (.t 17), none⟩,
    ⟨some 2, .cp (.t 18), none⟩] (none))
  .ret)))) }
def x_math_bits_Len64_s0 : ByteArray :=
  ⟨#[0, 1, 2, 2, 3, 3, 3, 3, 4, 4, 4, 4, 4, 4, 4, 4, 5, 5, 5, 5, 5, 5, 5, 5, 5, 5, 5, 5, 5, 5, 5, 5, 6, 6, 6, 6, 6, 6, 6, 6, 6, 6, 6, 6, 6, 6, 6, 6, 6, 6, 6, 6, 6, 6, 6, 6, 6, 6, 6, 6, 6, 6, 6, 6, 7, 7, 7, 7, 7, 7, 7, 7, 7, 7, 7, 7, 7, 7, 7, 7, 7, 7, 7, 7, 7, 7, 7, 7, 7, 7, 7, 7, 7, 7, 7, 7, 7, 7, 7, 7, 7, 7, 7, 7, 7, 7, 7, 7, 7, 7, 7, 7, 7, 7, 7, 7, 7, 7, 7, 7, 7, 7, 7, 7, 7, 7, 7, 7, 8, 8, 8, 8, 8, 8, 8, 8, 8, 8, 8, 8, 8, 8, 8, 8, 8, 8, 8, 8, 8, 8, 8, 8, 8, 8, 8, 8, 8, 8, 8, 8, 8, 8, 8, 8, 8, 8, 8, 8, 8, 8, 8, 8, 8, 8, 8, 8, 8, 8, 8, 8, 8, 8, 8, 8, 8, 8, 8, 8, 8, 8, 8, 8, 8, 8, 8, 8, 8, 8, 8, 8, 8, 8, 8, 8, 8, 8, 8, 8, 8, 8, 8, 8, 8, 8, 8, 8, 8, 8, 8, 8, 8, 8, 8, 8, 8, 8, 8, 8, 8, 8, 8, 8, 8, 8, 8, 8, 8, 8, 8, 8, 8, 8, 8, 8, 8, 8, 8, 8, 8, 8, 8, 8, 8, 8, 8, 8]⟩
def x_math_bits_Len64 : XF := { np := 1, results := [(.inl 2, .v)], body :=
  (.seq (.region [
    ⟨some 2, .cp (.c (.s (.int .i64 0))), none⟩] (none))
  (.seq (.seq (.region [
    ⟨some 3, .cp (.t 0), none⟩,
    ⟨some 4, .bin .geq (.t 3) (.c (.s (.int .u64 4294967296))), none⟩] (none))
  (.cond (.t 4)
    (.seq (.region [
      ⟨some 5, .cp (.t 0), none⟩,
      ⟨some 6, .bin .shr (.t 5) (.c (.s (.int .u64 32))), none⟩,
      ⟨some 0, .cp (.t 6), none⟩] (none))
    (.region [
      ⟨some 2, .cp (.c (.s (.int .i64 32))), none⟩] (none)))
    .skip))
  (.seq (.seq (.region [
    ⟨some 7, .cp (.t 0), none⟩,
    ⟨some 8, .bin .geq (.t 7) (.c (.s (.int .u64 65536))), none⟩] (none))
  (.cond (.t 8)
    (.seq (.region [
      ⟨some 9, .cp (.t 0), none⟩,
      ⟨some 10, .bin .shr (.t 9) (.c (.s (.int .u64 16))), none⟩,
      ⟨some 0, .cp (.t 10), none⟩] (none))
    (.region [
      ⟨some 11, .cp (.t 2), none⟩,
      ⟨some 12, .bin .add (.t 11) (.c (.s (.int .i64 16))), none⟩,
      ⟨some 2, .cp (.t 12), none⟩] (none)))
    .skip))
  (.seq (.seq (.region [
    ⟨some 13, .cp (.t 0), none⟩,
    ⟨some 14, .bin .geq (.t 13) (.c (.s (.int .u64 256))), none⟩] (none))
  (.cond (.t 14)
    (.seq (.region [
      ⟨some 15, .cp (.t 0), none⟩,
      ⟨some 16, .bin .shr (.t 15) (.c (.s (.int .u64 8))), none⟩,
      ⟨some 0, .cp (.t 16), none⟩] (none))
    (.region [
      ⟨some 17, .cp (.t 2), none⟩,
      ⟨some 18, .bin .add (.t 17) (.c (.s (.int .i64 8))), none⟩,
      ⟨some 2, .cp (.t 18), none⟩] (none)))
    .skip))
  (.seq (.region [
    ⟨some 19, .cp (.t 2), none⟩,
    ⟨some 20, .cp (.t 0), none⟩,
    ⟨some 21, .conv .u8 (.t 20), none⟩,
    ⟨some 22, .idxS (.c (.s (.string x_math_bits_Len64_s0))) (.t 21), none⟩,
    ⟨some 23, .conv .i64 (.t 22), none⟩,
    ⟨some 24, .bin .add (.t 19) (.t 23), none⟩,
    ⟨some 2, .cp (.t 24), none⟩] (none))
  .ret))))) }
def XP : Nat → Option XF := fun n => ([none, none, none, none, none, none, none, none, none, some x_encoding_Writer_Number, some x_encoding_Writer_Bytes, none, none, none, none, none, none, none, none, none, none, none, none, none, none, none, none, none, none, none, none, none, none, none, some x_encoding_Writer_Text, none, none, none, none, none, none, none, none, none, none, none, none, some x_encoding_magnitude, none, none, none, none, none, none, none, none, none, none, none, none, none, none, none, none, none, none, none, none, none, none, none, none, none, none, none, none, none, none, none, none, none, none, none, none, none, none, none, none, none, none, none, none, none, none, some x_sleuthlaw07_ColumnNil, none, some x_sleuthlaw07_known, none, some x_column_New, some x_column_EncodeAs, none, some x_column_Column_Encode, some x_column_Column_Select, some x_column_Column_Slice, some x_column_Column_Append, some x_column_Column_At, some x_column_Column_Zone, some x_column_Column_Kind, some x_column_Column_Len, some x_column_Column_Values, some x_column_Column_Where, some x_column_Column_Equal, none, none, none, some x_column_check, some x_column_made, some x_slices_Clone_int_int, some x_column_encode, none, none, none, some x_slices_Concat_int_int, some x_column_zone, some x_slices_Equal_int_int, none, none, none, none, none, none, none, none, none, some x_slices_ContainsFunc_int_int, some x_column_wrong, some x_column_plain, some x_column_delta, some x_column_runs, some x_column_packed, some x_slices_Grow_int_int, some x_slices_Min_int_int, some x_slices_Max_int_int, none, some x_slices_IndexFunc_int_int, some x_math_bits_Len, some x_math_bits_Len32, some x_math_bits_Len64] : List (Option XF)).getD n none
theorem xp_encoding_Writer_Number : XP i_encoding_Writer_Number = some x_encoding_Writer_Number := rfl
theorem xp_encoding_Writer_Bytes : XP i_encoding_Writer_Bytes = some x_encoding_Writer_Bytes := rfl
theorem xp_encoding_Writer_Text : XP i_encoding_Writer_Text = some x_encoding_Writer_Text := rfl
theorem xp_encoding_magnitude : XP i_encoding_magnitude = some x_encoding_magnitude := rfl
theorem xp_sleuthlaw07_ColumnNil : XP i_sleuthlaw07_ColumnNil = some x_sleuthlaw07_ColumnNil := rfl
theorem xp_sleuthlaw07_known : XP i_sleuthlaw07_known = some x_sleuthlaw07_known := rfl
theorem xp_column_New : XP i_column_New = some x_column_New := rfl
theorem xp_column_EncodeAs : XP i_column_EncodeAs = some x_column_EncodeAs := rfl
theorem xp_column_Column_Encode : XP i_column_Column_Encode = some x_column_Column_Encode := rfl
theorem xp_column_Column_Select : XP i_column_Column_Select = some x_column_Column_Select := rfl
theorem xp_column_Column_Slice : XP i_column_Column_Slice = some x_column_Column_Slice := rfl
theorem xp_column_Column_Append : XP i_column_Column_Append = some x_column_Column_Append := rfl
theorem xp_column_Column_At : XP i_column_Column_At = some x_column_Column_At := rfl
theorem xp_column_Column_Zone : XP i_column_Column_Zone = some x_column_Column_Zone := rfl
theorem xp_column_Column_Kind : XP i_column_Column_Kind = some x_column_Column_Kind := rfl
theorem xp_column_Column_Len : XP i_column_Column_Len = some x_column_Column_Len := rfl
theorem xp_column_Column_Values : XP i_column_Column_Values = some x_column_Column_Values := rfl
theorem xp_column_Column_Where : XP i_column_Column_Where = some x_column_Column_Where := rfl
theorem xp_column_Column_Equal : XP i_column_Column_Equal = some x_column_Column_Equal := rfl
theorem xp_column_check : XP i_column_check = some x_column_check := rfl
theorem xp_column_made : XP i_column_made = some x_column_made := rfl
theorem xp_slices_Clone_int_int : XP i_slices_Clone_int_int = some x_slices_Clone_int_int := rfl
theorem xp_column_encode : XP i_column_encode = some x_column_encode := rfl
theorem xp_slices_Concat_int_int : XP i_slices_Concat_int_int = some x_slices_Concat_int_int := rfl
theorem xp_column_zone : XP i_column_zone = some x_column_zone := rfl
theorem xp_slices_Equal_int_int : XP i_slices_Equal_int_int = some x_slices_Equal_int_int := rfl
theorem xp_slices_ContainsFunc_int_int : XP i_slices_ContainsFunc_int_int = some x_slices_ContainsFunc_int_int := rfl
theorem xp_column_wrong : XP i_column_wrong = some x_column_wrong := rfl
theorem xp_column_plain : XP i_column_plain = some x_column_plain := rfl
theorem xp_column_delta : XP i_column_delta = some x_column_delta := rfl
theorem xp_column_runs : XP i_column_runs = some x_column_runs := rfl
theorem xp_column_packed : XP i_column_packed = some x_column_packed := rfl
theorem xp_slices_Grow_int_int : XP i_slices_Grow_int_int = some x_slices_Grow_int_int := rfl
theorem xp_slices_Min_int_int : XP i_slices_Min_int_int = some x_slices_Min_int_int := rfl
theorem xp_slices_Max_int_int : XP i_slices_Max_int_int = some x_slices_Max_int_int := rfl
theorem xp_slices_IndexFunc_int_int : XP i_slices_IndexFunc_int_int = some x_slices_IndexFunc_int_int := rfl
theorem xp_math_bits_Len : XP i_math_bits_Len = some x_math_bits_Len := rfl
theorem xp_math_bits_Len32 : XP i_math_bits_Len32 = some x_math_bits_Len32 := rfl
theorem xp_math_bits_Len64 : XP i_math_bits_Len64 = some x_math_bits_Len64 := rfl
end Go.Proofs.Sl
