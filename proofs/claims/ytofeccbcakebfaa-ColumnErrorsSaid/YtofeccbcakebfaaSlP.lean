/- A part of the proof. -/
import Derived.Test.YtofeccbcakebfaaSlA
set_option linter.unusedVariables false
set_option linter.unusedSimpArgs false
set_option linter.unnecessarySimpa false
namespace Go.Proofs.Sl
def i_encoding_Writer_Number : Nat := 9
def i_encoding_Writer_Bytes : Nat := 10
def i_encoding_Writer_Text : Nat := 34
def i_encoding_magnitude : Nat := 47
def i_sleuthlaw07_ColumnErrors : Nat := 92
def i_sleuthlaw07_known : Nat := 96
def i_sleuthref07_Check : Nat := 97
def i_column_New : Nat := 98
def i_column_EncodeAs : Nat := 99
def i_sleuthref07_Form : Nat := 100
def i_column_Column_Encode : Nat := 101
def i_column_check : Nat := 115
def i_column_made : Nat := 116
def i_slices_Clone_int_int : Nat := 117
def i_column_encode : Nat := 118
def i_sleuthref07_Number : Nat := 119
def i_sleuthref07_Zone : Nat := 120
def i_sleuthref07_Bits : Nat := 121
def i_column_zone : Nat := 123
def i_slices_ContainsFunc_int_int : Nat := 134
def i_column_wrong : Nat := 135
def i_column_plain : Nat := 136
def i_column_delta : Nat := 137
def i_column_runs : Nat := 138
def i_column_packed : Nat := 139
def i_slices_Min_int_int : Nat := 141
def i_slices_Max_int_int : Nat := 142
def i_slices_IndexFunc_int_int : Nat := 144
def i_math_bits_Len : Nat := 145
def i_math_bits_Len32 : Nat := 146
def i_math_bits_Len64 : Nat := 147
def x_encoding_Writer_Number_l0 : XC :=
  (.seq (.seq (.region [
    ⟨some 14, .cp (.t 6), none⟩,
    ⟨some 15, .bin .gtr (.t 14) (.c (.s (.int .u64 0))), none⟩] (none))
  (.cond (.t 15)
    .skip
    (.exit 0)))
  (.seq (.block 1
    (.region [
      ⟨some 18, .cp (.t 5), none⟩,
      ⟨some 19, .bin .add (.t 18) (.c (.s (.int .i64 1))), none⟩,
      ⟨some 5, .cp (.t 19), none⟩] (none)))
  (.region [
    ⟨some 16, .cp (.t 6), none⟩,
    ⟨some 17, .bin .shr (.t 16) (.c (.s (.int .u64 8))), none⟩,
    ⟨some 6, .cp (.t 17), none⟩] (none))))
def x_encoding_Writer_Number_l1 : XC :=
  (.seq (.seq (.region [
    ⟨some 48, .cp (.t 8), none⟩,
    ⟨some 49, .bin .geq (.t 48) (.c (.s (.int .i64 0))), none⟩] (none))
  (.cond (.t 49)
    .skip
    (.exit 2)))
  (.seq (.block 3
    (.region [
      ⟨some 52, .cp (.t 0), none⟩,
      ⟨some 53, .cp (.t 0), none⟩,
      ⟨some 54, .nilchk (.t 53), none⟩,
      ⟨some 55, .faddr (.t 54) 0, none⟩,
      ⟨some 56, .load 1 false (.t 55), none⟩,
      ⟨some 57, .cp (.t 4), none⟩,
      ⟨some 58, .cp (.t 8), none⟩,
      ⟨some 59, .bin .mul (.c (.s (.int .i64 8))) (.t 58), none⟩,
      ⟨some 60, .bin .shr (.t 57) (.t 59), none⟩,
      ⟨some 61, .conv .u8 (.t 60), none⟩,
      ⟨some 62, .cp (.t 7), none⟩,
      ⟨some 63, .bin .xor (.t 61) (.t 62), none⟩,
      ⟨some 64, .bslice false 1 [(.t 63)], none⟩,
      ⟨some 65, .append 1 140737488355328 (.t 56) (.t 64), none⟩,
      ⟨some 66, .nilchk (.t 52), none⟩,
      ⟨some 67, .faddr (.t 66) 0, none⟩,
      ⟨none, .store 1 (.t 67) (.t 65), none⟩] (some [])))
  (.region [
    ⟨some 50, .cp (.t 8), none⟩,
    ⟨some 51, .bin .sub (.t 50) (.c (.s (.int .i64 1))), none⟩,
    ⟨some 8, .cp (.t 51), none⟩] (none))))
def x_encoding_Writer_Number : XF := { np := 2, results := [], body :=
  (.seq (.seq (.region [
    ⟨some 9, .cp (.t 0), none⟩,
    ⟨some 10, .eqv .p false (.t 9) (.c (.s (.pointer none))), none⟩] (none))
  (.cond (.t 10)
    .ret
    .skip))
  (.seq (.region [
    ⟨some 11, .cp (.t 1), none⟩,
    ⟨some 12, .call false i_encoding_magnitude [(.t 11)], none⟩,
    ⟨some 4, .cp (.t 12), none⟩,
    ⟨some 5, .cp (.c (.s (.int .i64 0))), none⟩] (none))
  (.seq (.seq (.region [
    ⟨some 13, .cp (.t 4), none⟩,
    ⟨some 6, .cp (.t 13), none⟩] (none))
  (.block 0
    (.loop x_encoding_Writer_Number_l0)))
  (.seq (.region [
    ⟨some 7, .cp (.c (.s (.int .u8 0))), none⟩] (none))
  (.seq (.seq (.region [
    ⟨some 20, .cp (.t 1), none⟩,
    ⟨some 21, .bin .lss (.t 20) (.c (.s (.int .i64 0))), none⟩] (none))
  (.cond (.t 21)
    (.seq (.region [
      ⟨some 7, .cp (.c (.s (.int .u8 255))), none⟩] (none))
    (.region [
      ⟨some 22, .cp (.t 0), none⟩,
      ⟨some 23, .cp (.t 0), none⟩,
      ⟨some 24, .nilchk (.t 23), none⟩,
      ⟨some 25, .faddr (.t 24) 0, none⟩,
      ⟨some 26, .load 1 false (.t 25), none⟩,
      ⟨some 27, .cp (.t 5), none⟩,
      ⟨some 28, .bin .sub (.c (.s (.int .i64 128))) (.t 27), none⟩,
      ⟨some 29, .conv .u8 (.t 28), none⟩,
      ⟨some 30, .bslice false 1 [(.t 29)], none⟩,
      ⟨some 31, .append 1 140737488355328 (.t 26) (.t 30), none⟩,
      ⟨some 32, .nilchk (.t 22), none⟩,
      ⟨some 33, .faddr (.t 32) 0, none⟩,
      ⟨none, .store 1 (.t 33) (.t 31), none⟩] (none)))
    (.region [
      ⟨some 34, .cp (.t 0), none⟩,
      ⟨some 35, .cp (.t 0), none⟩,
      ⟨some 36, .nilchk (.t 35), none⟩,
      ⟨some 37, .faddr (.t 36) 0, none⟩,
      ⟨some 38, .load 1 false (.t 37), none⟩,
      ⟨some 39, .cp (.t 5), none⟩,
      ⟨some 40, .bin .add (.c (.s (.int .i64 128))) (.t 39), none⟩,
      ⟨some 41, .conv .u8 (.t 40), none⟩,
      ⟨some 42, .bslice false 1 [(.t 41)], none⟩,
      ⟨some 43, .append 1 140737488355328 (.t 38) (.t 42), none⟩,
      ⟨some 44, .nilchk (.t 34), none⟩,
      ⟨some 45, .faddr (.t 44) 0, none⟩,
      ⟨none, .store 1 (.t 45) (.t 43), none⟩] (none))))
  (.seq (.region [
    ⟨some 46, .cp (.t 5), none⟩,
    ⟨some 47, .bin .sub (.t 46) (.c (.s (.int .i64 1))), none⟩,
    ⟨some 8, .cp (.t 47), none⟩] (none))
  (.block 2
    (.loop x_encoding_Writer_Number_l1)))))))) }
def x_encoding_Writer_Bytes : XF := { np := 1, results := [(.inl 2, .v)], body :=
  (.seq (.region [
    ⟨some 2, .cp (.c (.s (.string ⟨#[]⟩))), none⟩] (none))
  (.seq (.seq (.region [
    ⟨some 3, .cp (.t 0), none⟩,
    ⟨some 4, .eqv .p false (.t 3) (.c (.s (.pointer none))), none⟩] (none))
  (.cond (.t 4)
    (.seq (.region [
      ⟨some 2, .cp (.c (.s (.string ⟨#[]⟩))), none⟩] (none))
    .ret)
    .skip))
  (.seq (.region [
    ⟨some 5, .cp (.t 0), none⟩,
    ⟨some 6, .nilchk (.t 5), none⟩,
    ⟨some 7, .faddr (.t 6) 0, none⟩,
    ⟨some 8, .load 1 false (.t 7), none⟩,
    ⟨some 9, .toStr (.t 8), none⟩,
    ⟨some 2, .cp (.t 9), none⟩] (none))
  .ret))) }
def x_encoding_Writer_Text : XF := { np := 2, results := [], body :=
  (.seq (.seq (.region [
    ⟨some 4, .cp (.t 0), none⟩,
    ⟨some 5, .eqv .p false (.t 4) (.c (.s (.pointer none))), none⟩] (none))
  (.cond (.t 5)
    .ret
    .skip))
  (.seq (.region [
    ⟨some 6, .cp (.t 0), none⟩,
    ⟨some 7, .cp (.t 1), none⟩,
    ⟨some 8, .len true (.t 7), none⟩,
    ⟨some 9, .call false i_encoding_Writer_Number [(.t 6), (.t 8)], none⟩] (none))
  (.region [
    ⟨some 10, .cp (.t 0), none⟩,
    ⟨some 11, .cp (.t 0), none⟩,
    ⟨some 12, .nilchk (.t 11), none⟩,
    ⟨some 13, .faddr (.t 12) 0, none⟩,
    ⟨some 14, .load 1 false (.t 13), none⟩,
    ⟨some 15, .cp (.t 1), none⟩,
    ⟨some 16, .append 1 140737488355328 (.t 14) (.t 15), none⟩,
    ⟨some 17, .nilchk (.t 10), none⟩,
    ⟨some 18, .faddr (.t 17) 0, none⟩,
    ⟨none, .store 1 (.t 18) (.t 16), none⟩] (none)))) }
def x_encoding_magnitude : XF := { np := 1, results := [(.inl 2, .v)], body :=
  (.seq (.region [
    ⟨some 2, .cp (.c (.s (.int .u64 0))), none⟩] (none))
  (.seq (.seq (.region [
    ⟨some 3, .cp (.t 0), none⟩,
    ⟨some 4, .bin .lss (.t 3) (.c (.s (.int .i64 0))), none⟩] (none))
  (.cond (.t 4)
    (.seq (.region [
      ⟨some 5, .cp (.t 0), none⟩,
      ⟨some 6, .conv .u64 (.t 5), none⟩,
      ⟨some 7, .un .neg (.t 6), none⟩,
      ⟨some 2, .cp (.t 7), none⟩] (none))
    .ret)
    .skip))
  (.seq (.region [
    ⟨some 8, .cp (.t 0), none⟩,
    ⟨some 9, .conv .u64 (.t 8), none⟩,
    ⟨some 2, .cp (.t 9), none⟩] (none))
  .ret))) }
def x_sleuthlaw07_ColumnErrors : XF := { np := 3, results := [(.inl 6, .v)], body :=
  (.seq (.region [
    ⟨some 6, .cp (.c (.s (.bool false))), none⟩] (none))
  (.seq (.seq (.region [
    ⟨some 15, .call false i_sleuthlaw07_known [], none⟩,
    ⟨some 16, .un .not (.t 15), none⟩,
    ⟨some 17, .cp (.t 16), none⟩,
    ⟨some 18, .cp (.t 0), some (17, false)⟩,
    ⟨some 19, .len false (.t 18), some (17, false)⟩,
    ⟨some 20, .bin .gtr (.t 19) (.c (.s (.int .i64 20))), some (17, false)⟩,
    ⟨some 21, .pick (.t 17) (.c (.s (.bool true))) (.t 20), none⟩] (none))
  (.cond (.t 21)
    (.seq (.region [
      ⟨some 22, .call false i_sleuthlaw07_known [], none⟩,
      ⟨some 6, .cp (.t 22), none⟩] (none))
    .ret)
    .skip))
  (.seq (.region [
    ⟨some 23, .cp (.t 0), none⟩,
    ⟨some 24, .call false i_sleuthref07_Check [(.t 23)], none⟩,
    ⟨some 7, .cp (.t 24), none⟩] (none))
  (.seq (.region [
    ⟨some 26, .cp (.t 0), none⟩,
    ⟨some 27, .call false i_column_New [(.t 26)], none⟩,
    ⟨some 25, .cp (.t 27), none⟩,
    ⟨some 28, .extract (.t 25) 0, none⟩,
    ⟨some 29, .extract (.t 25) 1, none⟩,
    ⟨some 8, .cp (.t 28), none⟩,
    ⟨some 9, .cp (.t 29), none⟩] (none))
  (.seq (.region [
    ⟨some 31, .cp (.t 1), none⟩,
    ⟨some 32, .cp (.t 0), none⟩,
    ⟨some 33, .call false i_column_EncodeAs [(.t 31), (.t 32)], none⟩,
    ⟨some 30, .cp (.t 33), none⟩,
    ⟨some 34, .extract (.t 30) 0, none⟩,
    ⟨some 35, .extract (.t 30) 1, none⟩,
    ⟨some 10, .cp (.t 34), none⟩,
    ⟨some 11, .cp (.t 35), none⟩] (none))
  (.seq (.seq (.region [
    ⟨some 36, .cp (.t 9), none⟩,
    ⟨some 37, .cp (.t 7), none⟩,
    ⟨some 38, .bin .neq (.t 36) (.t 37), none⟩,
    ⟨some 39, .cp (.t 38), none⟩,
    ⟨some 40, .cp (.t 8), some (39, false)⟩,
    ⟨some 41, .eqv .p true (.t 40) (.c (.s (.pointer none))), some (39, false)⟩,
    ⟨some 42, .cp (.t 7), some (39, false)⟩,
    ⟨some 43, .bin .eql (.t 42) (.c (.s (.int .i64 0))), some (39, false)⟩,
    ⟨some 44, .eqv .b true (.t 41) (.t 43), some (39, false)⟩,
    ⟨some 45, .pick (.t 39) (.c (.s (.bool true))) (.t 44), none⟩] (none))
  (.cond (.t 45)
    (.seq (.region [
      ⟨some 6, .cp (.c (.s (.bool false))), none⟩] (none))
    .ret)
    .skip))
  (.seq (.seq (.region [
    ⟨some 46, .cp (.t 1), none⟩,
    ⟨some 47, .bin .lss (.t 46) (.c (.s (.int .i64 1))), none⟩,
    ⟨some 48, .cp (.t 47), none⟩,
    ⟨some 49, .cp (.t 1), some (48, false)⟩,
    ⟨some 50, .bin .gtr (.t 49) (.c (.s (.int .i64 4))), some (48, false)⟩,
    ⟨some 51, .pick (.t 48) (.c (.s (.bool true))) (.t 50), none⟩] (none))
  (.cond (.t 51)
    (.region [
      ⟨some 7, .cp (.c (.s (.int .i64 12))), none⟩] (none))
    .skip))
  (.seq (.seq (.region [
    ⟨some 52, .cp (.t 11), none⟩,
    ⟨some 53, .cp (.t 7), none⟩,
    ⟨some 54, .bin .neq (.t 52) (.t 53), none⟩,
    ⟨some 55, .cp (.t 54), none⟩,
    ⟨some 56, .cp (.t 7), some (55, false)⟩,
    ⟨some 57, .bin .eql (.t 56) (.c (.s (.int .i64 0))), some (55, false)⟩,
    ⟨some 58, .cp (.t 57), some (55, false)⟩,
    ⟨some 59, .cp (.t 10), some (58, true)⟩,
    ⟨some 60, .cp (.t 1), some (58, true)⟩,
    ⟨some 61, .cp (.t 0), some (58, true)⟩,
    ⟨some 62, .call false i_sleuthref07_Form [(.t 60), (.t 61)], some (58, true)⟩,
    ⟨some 63, .bin .neq (.t 59) (.t 62), some (58, true)⟩,
    ⟨some 64, .pick (.t 58) (.t 63) (.c (.s (.bool false))), some (55, false)⟩,
    ⟨some 65, .pick (.t 55) (.c (.s (.bool true))) (.t 64), none⟩,
    ⟨some 66, .cp (.t 65), none⟩,
    ⟨some 67, .cp (.t 7), some (66, false)⟩,
    ⟨some 68, .bin .neq (.t 67) (.c (.s (.int .i64 0))), some (66, false)⟩,
    ⟨some 69, .cp (.t 68), some (66, false)⟩,
    ⟨some 70, .cp (.t 10), some (69, true)⟩,
    ⟨some 71, .bin .neq (.t 70) (.c (.s (.string ⟨#[]⟩))), some (69, true)⟩,
    ⟨some 72, .pick (.t 69) (.t 71) (.c (.s (.bool false))), some (66, false)⟩,
    ⟨some 73, .pick (.t 66) (.c (.s (.bool true))) (.t 72), none⟩] (none))
  (.cond (.t 73)
    (.seq (.region [
      ⟨some 6, .cp (.c (.s (.bool false))), none⟩] (none))
    .ret)
    .skip))
  (.seq (.region [
    ⟨some 74, .cp (.t 2), none⟩,
    ⟨some 75, .bin .rem (.t 74) (.c (.s (.int .u8 3))), none⟩,
    ⟨some 76, .conv .i64 (.t 75), none⟩,
    ⟨some 77, .bin .add (.c (.s (.int .i64 4095))) (.t 76), none⟩,
    ⟨some 78, .mkslice 1 (.s (.int .i64 0)) 17592186044416 (.t 77) (.t 77), none⟩,
    ⟨some 12, .cp (.t 78), none⟩] (none))
  (.seq (.region [
    ⟨some 80, .cp (.t 12), none⟩,
    ⟨some 81, .call false i_column_New [(.t 80)], none⟩,
    ⟨some 79, .cp (.t 81), none⟩,
    ⟨some 82, .extract (.t 79) 0, none⟩,
    ⟨some 83, .extract (.t 79) 1, none⟩,
    ⟨some 13, .cp (.t 82), none⟩,
    ⟨some 14, .cp (.t 83), none⟩] (none))
  (.seq (.region [
    ⟨some 84, .cp (.t 14), none⟩,
    ⟨some 85, .bin .eql (.t 84) (.c (.s (.int .i64 0))), none⟩,
    ⟨some 86, .cp (.t 12), none⟩,
    ⟨some 87, .len false (.t 86), none⟩,
    ⟨some 88, .bin .leq (.t 87) (.c (.s (.int .i64 4096))), none⟩,
    ⟨some 89, .eqv .b false (.t 85) (.t 88), none⟩,
    ⟨some 90, .cp (.t 89), none⟩,
    ⟨some 91, .cp (.t 14), some (90, true)⟩,
    ⟨some 92, .bin .eql (.t 91) (.c (.s (.int .i64 6))), some (90, true)⟩,
    ⟨some 93, .cp (.t 12), some (90, true)⟩,
    ⟨some 94, .len false (.t 93), some (90, true)⟩,
    ⟨some 95, .bin .gtr (.t 94) (.c (.s (.int .i64 4096))), some (90, true)⟩,
    ⟨some 96, .eqv .b false (.t 92) (.t 95), some (90, true)⟩,
    ⟨some 97, .pick (.t 90) (.t 96) (.c (.s (.bool false))), none⟩,
    ⟨some 6, .cp (.t 97), none⟩] (none))
  .ret))))))))))) }
def x_sleuthlaw07_known : XF := { np := 0, results := [(.inl 0, .v)], body :=
  (.seq (.region [
    ⟨some 0, .cp (.c (.s (.bool false))), none⟩] (none))
  (.seq (.region [
    ⟨some 6, .bslice false 1 [(.c (.s (.int .i64 5))), (.c (.s (.int .i64 5))), (.c (.s (.int .i64 5)))], none⟩,
    ⟨some 7, .call false i_column_New [(.t 6)], none⟩,
    ⟨some 5, .cp (.t 7), none⟩,
    ⟨some 8, .extract (.t 5) 0, none⟩,
    ⟨some 9, .extract (.t 5) 1, none⟩,
    ⟨some 1, .cp (.t 8), none⟩,
    ⟨some 2, .cp (.t 9), none⟩] (none))
  (.seq (.region [
    ⟨some 11, .bslice false 1 [(.c (.s (.int .i64 3))), (.c (.s (.int .i64 0))), (.c (.s (.int .i64 2))), (.c (.s (.int .i64 1)))], none⟩,
    ⟨some 12, .call false i_column_EncodeAs [(.c (.s (.int .i64 4))), (.t 11)], none⟩,
    ⟨some 10, .cp (.t 12), none⟩,
    ⟨some 13, .extract (.t 10) 0, none⟩,
    ⟨some 14, .extract (.t 10) 1, none⟩,
    ⟨some 3, .cp (.t 13), none⟩,
    ⟨some 4, .cp (.t 14), none⟩] (none))
  (.seq (.region [
    ⟨some 15, .cp (.t 2), none⟩,
    ⟨some 16, .bin .eql (.t 15) (.c (.s (.int .i64 0))), none⟩,
    ⟨some 17, .cp (.t 16), none⟩,
    ⟨some 18, .cp (.t 4), some (17, true)⟩,
    ⟨some 19, .bin .eql (.t 18) (.c (.s (.int .i64 0))), some (17, true)⟩,
    ⟨some 20, .pick (.t 17) (.t 19) (.c (.s (.bool false))), none⟩,
    ⟨some 21, .cp (.t 20), none⟩,
    ⟨some 22, .cp (.t 1), some (21, true)⟩,
    ⟨some 23, .eqv .p true (.t 22) (.c (.s (.pointer none))), some (21, true)⟩,
    ⟨some 24, .pick (.t 21) (.t 23) (.c (.s (.bool false))), none⟩,
    ⟨some 25, .cp (.t 24), none⟩,
    ⟨some 26, .cp (.t 1), some (25, true)⟩,
    ⟨some 27, .call false i_column_Column_Encode [(.t 26)], some (25, true)⟩,
    ⟨some 28, .bin .eql (.t 27) (.c (.s (.string ⟨#[129, 2, 129, 3, 129, 5, 128, 128]⟩))), some (25, true)⟩,
    ⟨some 29, .pick (.t 25) (.t 28) (.c (.s (.bool false))), none⟩,
    ⟨some 30, .cp (.t 29), none⟩,
    ⟨some 31, .cp (.t 3), some (30, true)⟩,
    ⟨some 32, .bin .eql (.t 31) (.c (.s (.string ⟨#[129, 4, 129, 4, 128, 129, 2, 129, 1, 99]⟩))), some (30, true)⟩,
    ⟨some 33, .pick (.t 30) (.t 32) (.c (.s (.bool false))), none⟩,
    ⟨some 0, .cp (.t 33), none⟩] (none))
  .ret)))) }
def x_sleuthref07_Check_l0 : XC :=
  (.seq (.seq (.region [
    ⟨some 7, .cp (.t 3), none⟩,
    ⟨some 8, .cp (.t 0), none⟩,
    ⟨some 9, .len false (.t 8), none⟩,
    ⟨some 10, .bin .lss (.t 7) (.t 9), none⟩] (none))
  (.cond (.t 10)
    .skip
    (.exit 0)))
  (.seq (.block 1
    (.seq (.region [
      ⟨some 13, .cp (.t 0), none⟩,
      ⟨some 14, .cp (.t 3), none⟩,
      ⟨some 15, .iaddr 1 (.t 13) (.t 14), none⟩,
      ⟨some 16, .load 1 false (.t 15), none⟩,
      ⟨some 17, .bin .lss (.t 16) (.c (.s (.int .i64 (-1152921504606846976)))), none⟩,
      ⟨some 18, .cp (.t 17), none⟩,
      ⟨some 19, .cp (.t 0), some (18, false)⟩,
      ⟨some 20, .cp (.t 3), some (18, false)⟩,
      ⟨some 21, .iaddr 1 (.t 19) (.t 20), some (18, false)⟩,
      ⟨some 22, .load 1 false (.t 21), some (18, false)⟩,
      ⟨some 23, .bin .gtr (.t 22) (.c (.s (.int .i64 1152921504606846976))), some (18, false)⟩,
      ⟨some 24, .pick (.t 18) (.c (.s (.bool true))) (.t 23), none⟩] (none))
    (.cond (.t 24)
      (.seq (.region [
        ⟨some 2, .cp (.c (.s (.int .i64 2))), none⟩] (none))
      .ret)
      .skip)))
  (.region [
    ⟨some 11, .cp (.t 3), none⟩,
    ⟨some 12, .bin .add (.t 11) (.c (.s (.int .i64 1))), none⟩,
    ⟨some 3, .cp (.t 12), none⟩] (none))))
def x_sleuthref07_Check : XF := { np := 1, results := [(.inl 2, .v)], body :=
  (.seq (.region [
    ⟨some 2, .cp (.c (.s (.int .i64 0))), none⟩] (none))
  (.seq (.seq (.region [
    ⟨some 4, .cp (.t 0), none⟩,
    ⟨some 5, .len false (.t 4), none⟩,
    ⟨some 6, .bin .gtr (.t 5) (.c (.s (.int .i64 4096))), none⟩] (none))
  (.cond (.t 6)
    (.seq (.region [
      ⟨some 2, .cp (.c (.s (.int .i64 6))), none⟩] (none))
    .ret)
    .skip))
  (.seq (.seq (.region [
    ⟨some 3, .cp (.c (.s (.int .i64 0))), none⟩] (none))
  (.block 0
    (.loop x_sleuthref07_Check_l0)))
  (.seq (.region [
    ⟨some 2, .cp (.c (.s (.int .i64 0))), none⟩] (none))
  .ret)))) }
def x_column_New : XF := { np := 1, results := [(.inl 2, .f), (.inl 3, .v)], body :=
  (.seq (.region [
    ⟨some 2, .cp (.c (.s (.pointer none))), none⟩,
    ⟨some 3, .cp (.c (.s (.int .i64 0))), none⟩] (none))
  (.seq (.seq (.region [
    ⟨some 5, .cp (.t 0), none⟩,
    ⟨some 6, .call false i_column_check [(.t 5)], none⟩,
    ⟨some 4, .cp (.t 6), none⟩] (none))
  (.seq (.region [
    ⟨some 7, .cp (.t 4), none⟩,
    ⟨some 8, .bin .neq (.t 7) (.c (.s (.int .i64 0))), none⟩] (none))
  (.cond (.t 8)
    (.seq (.region [
      ⟨some 9, .cp (.t 4), none⟩,
      ⟨some 2, .cp (.c (.s (.pointer none))), none⟩,
      ⟨some 3, .cp (.t 9), none⟩] (none))
    .ret)
    .skip)))
  (.seq (.region [
    ⟨some 10, .cp (.t 0), none⟩,
    ⟨some 11, .call false i_slices_Clone_int_int [(.t 10)], none⟩,
    ⟨some 12, .call false i_column_made [(.t 11)], none⟩,
    ⟨some 2, .cp (.t 12), none⟩,
    ⟨some 3, .cp (.c (.s (.int .i64 0))), none⟩] (none))
  .ret))) }
def x_column_EncodeAs : XF := { np := 2, results := [(.inl 4, .v), (.inl 5, .v)], body :=
  (.seq (.region [
    ⟨some 4, .cp (.c (.s (.string ⟨#[]⟩))), none⟩,
    ⟨some 5, .cp (.c (.s (.int .i64 0))), none⟩] (none))
  (.seq (.seq (.region [
    ⟨some 7, .cp (.t 0), none⟩,
    ⟨some 8, .bin .lss (.t 7) (.c (.s (.int .i64 1))), none⟩,
    ⟨some 9, .cp (.t 8), none⟩,
    ⟨some 10, .cp (.t 0), some (9, false)⟩,
    ⟨some 11, .bin .gtr (.t 10) (.c (.s (.int .i64 4))), some (9, false)⟩,
    ⟨some 12, .pick (.t 9) (.c (.s (.bool true))) (.t 11), none⟩] (none))
  (.cond (.t 12)
    (.seq (.region [
      ⟨some 4, .cp (.c (.s (.string ⟨#[]⟩))), none⟩,
      ⟨some 5, .cp (.c (.s (.int .i64 12))), none⟩] (none))
    .ret)
    .skip))
  (.seq (.seq (.region [
    ⟨some 13, .cp (.t 1), none⟩,
    ⟨some 14, .call false i_column_check [(.t 13)], none⟩,
    ⟨some 6, .cp (.t 14), none⟩] (none))
  (.seq (.region [
    ⟨some 15, .cp (.t 6), none⟩,
    ⟨some 16, .bin .neq (.t 15) (.c (.s (.int .i64 0))), none⟩] (none))
  (.cond (.t 16)
    (.seq (.region [
      ⟨some 17, .cp (.t 6), none⟩,
      ⟨some 4, .cp (.c (.s (.string ⟨#[]⟩))), none⟩,
      ⟨some 5, .cp (.t 17), none⟩] (none))
    .ret)
    .skip)))
  (.seq (.region [
    ⟨some 18, .cp (.t 0), none⟩,
    ⟨some 19, .cp (.t 1), none⟩,
    ⟨some 20, .call false i_column_encode [(.t 18), (.t 19)], none⟩,
    ⟨some 4, .cp (.t 20), none⟩,
    ⟨some 5, .cp (.c (.s (.int .i64 0))), none⟩] (none))
  .ret)))) }
def x_sleuthref07_Form_l0 : XC :=
  (.seq (.seq (.region [
    ⟨some 29, .cp (.t 6), none⟩,
    ⟨some 30, .cp (.t 1), none⟩,
    ⟨some 31, .len false (.t 30), none⟩,
    ⟨some 32, .bin .lss (.t 29) (.t 31), none⟩] (none))
  (.cond (.t 32)
    .skip
    (.exit 0)))
  (.seq (.block 1
    (.seq (.region [
      ⟨some 35, .cp (.t 1), none⟩,
      ⟨some 36, .cp (.t 6), none⟩,
      ⟨some 37, .iaddr 1 (.t 35) (.t 36), none⟩,
      ⟨some 38, .load 1 false (.t 37), none⟩,
      ⟨some 7, .cp (.t 38), none⟩] (none))
    (.seq (.seq (.region [
      ⟨some 39, .cp (.t 0), none⟩,
      ⟨some 40, .bin .eql (.t 39) (.c (.s (.int .i64 2))), none⟩,
      ⟨some 41, .cp (.t 40), none⟩,
      ⟨some 42, .cp (.t 6), some (41, true)⟩,
      ⟨some 43, .bin .gtr (.t 42) (.c (.s (.int .i64 0))), some (41, true)⟩,
      ⟨some 44, .pick (.t 41) (.t 43) (.c (.s (.bool false))), none⟩] (none))
    (.cond (.t 44)
      (.region [
        ⟨some 45, .cp (.t 7), none⟩,
        ⟨some 46, .cp (.t 1), none⟩,
        ⟨some 47, .cp (.t 6), none⟩,
        ⟨some 48, .bin .sub (.t 47) (.c (.s (.int .i64 1))), none⟩,
        ⟨some 49, .iaddr 1 (.t 46) (.t 48), none⟩,
        ⟨some 50, .load 1 false (.t 49), none⟩,
        ⟨some 51, .bin .sub (.t 45) (.t 50), none⟩,
        ⟨some 7, .cp (.t 51), none⟩] (none))
      .skip))
    (.region [
      ⟨some 52, .cp (.t 5), none⟩,
      ⟨some 53, .cp (.t 7), none⟩,
      ⟨some 54, .call false i_sleuthref07_Number [(.t 53)], none⟩,
      ⟨some 55, .bin .add (.t 52) (.t 54), none⟩,
      ⟨some 5, .cp (.t 55), none⟩] (none)))))
  (.region [
    ⟨some 33, .cp (.t 6), none⟩,
    ⟨some 34, .bin .add (.t 33) (.c (.s (.int .i64 1))), none⟩,
    ⟨some 6, .cp (.t 34), none⟩] (none))))
def x_sleuthref07_Form_l1 : XC :=
  (.seq (.seq (.region [
    ⟨some 64, .cp (.t 11), none⟩,
    ⟨some 65, .cp (.t 1), none⟩,
    ⟨some 66, .len false (.t 65), none⟩,
    ⟨some 67, .bin .lss (.t 64) (.t 66), none⟩,
    ⟨some 68, .cp (.t 67), none⟩,
    ⟨some 69, .cp (.t 1), some (68, true)⟩,
    ⟨some 70, .cp (.t 11), some (68, true)⟩,
    ⟨some 71, .iaddr 1 (.t 69) (.t 70), some (68, true)⟩,
    ⟨some 72, .load 1 false (.t 71), some (68, true)⟩,
    ⟨some 73, .cp (.t 1), some (68, true)⟩,
    ⟨some 74, .cp (.t 10), some (68, true)⟩,
    ⟨some 75, .iaddr 1 (.t 73) (.t 74), some (68, true)⟩,
    ⟨some 76, .load 1 false (.t 75), some (68, true)⟩,
    ⟨some 77, .bin .eql (.t 72) (.t 76), some (68, true)⟩,
    ⟨some 78, .pick (.t 68) (.t 77) (.c (.s (.bool false))), none⟩] (some []))
  (.cond (.t 78)
    .skip
    (.exit 4)))
  (.block 5
    (.region [
      ⟨some 79, .cp (.t 11), none⟩,
      ⟨some 80, .bin .add (.t 79) (.c (.s (.int .i64 1))), none⟩,
      ⟨some 11, .cp (.t 80), none⟩] (none))))
def x_sleuthref07_Form_l2 : XC :=
  (.seq (.seq (.region [
    ⟨some 59, .cp (.t 10), none⟩,
    ⟨some 60, .cp (.t 1), none⟩,
    ⟨some 61, .len false (.t 60), none⟩,
    ⟨some 62, .bin .lss (.t 59) (.t 61), none⟩] (none))
  (.cond (.t 62)
    .skip
    (.exit 2)))
  (.block 3
    (.seq (.region [
      ⟨some 63, .cp (.t 10), none⟩,
      ⟨some 11, .cp (.t 63), none⟩] (none))
    (.seq (.block 4
      (.loop x_sleuthref07_Form_l1))
    (.seq (.region [
      ⟨some 81, .cp (.t 8), none⟩,
      ⟨some 82, .bin .add (.t 81) (.c (.s (.int .i64 1))), none⟩,
      ⟨some 83, .cp (.t 9), none⟩,
      ⟨some 84, .cp (.t 1), none⟩,
      ⟨some 85, .cp (.t 10), none⟩,
      ⟨some 86, .iaddr 1 (.t 84) (.t 85), none⟩,
      ⟨some 87, .load 1 false (.t 86), none⟩,
      ⟨some 88, .call false i_sleuthref07_Number [(.t 87)], none⟩,
      ⟨some 89, .bin .add (.t 83) (.t 88), none⟩,
      ⟨some 90, .cp (.t 11), none⟩,
      ⟨some 91, .cp (.t 10), none⟩,
      ⟨some 92, .bin .sub (.t 90) (.t 91), none⟩,
      ⟨some 93, .call false i_sleuthref07_Number [(.t 92)], none⟩,
      ⟨some 94, .bin .add (.t 89) (.t 93), none⟩,
      ⟨some 8, .cp (.t 82), none⟩,
      ⟨some 9, .cp (.t 94), none⟩] (none))
    (.region [
      ⟨some 95, .cp (.t 11), none⟩,
      ⟨some 10, .cp (.t 95), none⟩] (none)))))))
def x_sleuthref07_Form : XF := { np := 2, results := [(.inl 4, .v)], body :=
  (.seq (.region [
    ⟨some 4, .cp (.c (.s (.string ⟨#[]⟩))), none⟩] (none))
  (.seq (.region [
    ⟨some 16, .cp (.t 0), none⟩,
    ⟨some 17, .call false i_sleuthref07_Number [(.t 16)], none⟩,
    ⟨some 5, .cp (.t 17), none⟩] (none))
  (.seq (.seq (.region [
    ⟨some 18, .cp (.t 0), none⟩,
    ⟨some 19, .bin .eql (.t 18) (.c (.s (.int .i64 1))), none⟩,
    ⟨some 20, .cp (.t 19), none⟩,
    ⟨some 21, .cp (.t 0), some (20, false)⟩,
    ⟨some 22, .bin .eql (.t 21) (.c (.s (.int .i64 2))), some (20, false)⟩,
    ⟨some 23, .pick (.t 20) (.c (.s (.bool true))) (.t 22), none⟩] (none))
  (.cond (.t 23)
    (.seq (.region [
      ⟨some 24, .cp (.t 5), none⟩,
      ⟨some 25, .cp (.t 1), none⟩,
      ⟨some 26, .len false (.t 25), none⟩,
      ⟨some 27, .call false i_sleuthref07_Number [(.t 26)], none⟩,
      ⟨some 28, .bin .add (.t 24) (.t 27), none⟩,
      ⟨some 5, .cp (.t 28), none⟩] (none))
    (.seq (.seq (.region [
      ⟨some 6, .cp (.c (.s (.int .i64 0))), none⟩] (none))
    (.block 0
      (.loop x_sleuthref07_Form_l0)))
    (.seq (.region [
      ⟨some 56, .cp (.t 5), none⟩,
      ⟨some 4, .cp (.t 56), none⟩] (none))
    .ret)))
    .skip))
  (.seq (.seq (.region [
    ⟨some 57, .cp (.t 0), none⟩,
    ⟨some 58, .bin .eql (.t 57) (.c (.s (.int .i64 3))), none⟩] (none))
  (.cond (.t 58)
    (.seq (.region [
      ⟨some 8, .cp (.c (.s (.int .i64 0))), none⟩,
      ⟨some 9, .cp (.c (.s (.string ⟨#[]⟩))), none⟩] (none))
    (.seq (.seq (.region [
      ⟨some 10, .cp (.c (.s (.int .i64 0))), none⟩] (none))
    (.block 2
      (.loop x_sleuthref07_Form_l2)))
    (.seq (.region [
      ⟨some 96, .cp (.t 5), none⟩,
      ⟨some 97, .cp (.t 8), none⟩,
      ⟨some 98, .call false i_sleuthref07_Number [(.t 97)], none⟩,
      ⟨some 99, .bin .add (.t 96) (.t 98), none⟩,
      ⟨some 100, .cp (.t 9), none⟩,
      ⟨some 101, .bin .add (.t 99) (.t 100), none⟩,
      ⟨some 4, .cp (.t 101), none⟩] (none))
    .ret)))
    .skip))
  (.seq (.region [
    ⟨some 103, .cp (.t 1), none⟩,
    ⟨some 104, .call false i_sleuthref07_Zone [(.t 103)], none⟩,
    ⟨some 102, .cp (.t 104), none⟩,
    ⟨some 105, .extract (.t 102) 0, none⟩,
    ⟨some 106, .extract (.t 102) 1, none⟩,
    ⟨some 12, .cp (.t 105), none⟩,
    ⟨some 13, .cp (.t 106), none⟩] (none))
  (.seq (.region [
    ⟨some 108, .cp (.t 1), none⟩,
    ⟨some 109, .call false i_sleuthref07_Bits [(.t 108)], none⟩,
    ⟨some 107, .cp (.t 109), none⟩,
    ⟨some 110, .extract (.t 107) 0, none⟩,
    ⟨some 111, .extract (.t 107) 1, none⟩,
    ⟨some 14, .cp (.t 110), none⟩,
    ⟨some 15, .cp (.t 111), none⟩] (none))
  (.seq (.region [
    ⟨some 112, .cp (.t 5), none⟩,
    ⟨some 113, .cp (.t 1), none⟩,
    ⟨some 114, .len false (.t 113), none⟩,
    ⟨some 115, .call false i_sleuthref07_Number [(.t 114)], none⟩,
    ⟨some 116, .bin .add (.t 112) (.t 115), none⟩,
    ⟨some 117, .cp (.t 12), none⟩,
    ⟨some 118, .call false i_sleuthref07_Number [(.t 117)], none⟩,
    ⟨some 119, .bin .add (.t 116) (.t 118), none⟩,
    ⟨some 120, .cp (.t 14), none⟩,
    ⟨some 121, .call false i_sleuthref07_Number [(.t 120)], none⟩,
    ⟨some 122, .bin .add (.t 119) (.t 121), none⟩,
    ⟨some 123, .cp (.t 15), none⟩,
    ⟨some 124, .len true (.t 123), none⟩,
    ⟨some 125, .call false i_sleuthref07_Number [(.t 124)], none⟩,
    ⟨some 126, .bin .add (.t 122) (.t 125), none⟩,
    ⟨some 127, .cp (.t 15), none⟩,
    ⟨some 128, .bin .add (.t 126) (.t 127), none⟩,
    ⟨some 4, .cp (.t 128), none⟩] (none))
  .ret))))))) }
def x_column_Column_Encode : XF := { np := 1, results := [(.inl 2, .v)], body :=
  (.seq (.region [
    ⟨some 2, .cp (.c (.s (.string ⟨#[]⟩))), none⟩] (none))
  (.seq (.seq (.region [
    ⟨some 3, .cp (.t 0), none⟩,
    ⟨some 4, .eqv .p false (.t 3) (.c (.s (.pointer none))), none⟩] (none))
  (.cond (.t 4)
    (.seq (.region [
      ⟨some 2, .cp (.c (.s (.string ⟨#[]⟩))), none⟩] (none))
    .ret)
    .skip))
  (.seq (.region [
    ⟨some 5, .cp (.t 0), none⟩,
    ⟨some 6, .nilchk (.t 5), none⟩,
    ⟨some 7, .faddr (.t 6) 1, none⟩,
    ⟨some 8, .load 1 false (.t 7), none⟩,
    ⟨some 2, .cp (.t 8), none⟩] (none))
  .ret))) }
def x_column_check : XF := { np := 1, results := [(.inl 2, .v)], body :=
  (.seq (.region [
    ⟨some 2, .cp (.c (.s (.int .i64 0))), none⟩] (none))
  (.seq (.seq (.region [
    ⟨some 3, .cp (.t 0), none⟩,
    ⟨some 4, .len false (.t 3), none⟩,
    ⟨some 5, .bin .gtr (.t 4) (.c (.s (.int .i64 4096))), none⟩] (none))
  (.cond (.t 5)
    (.seq (.region [
      ⟨some 2, .cp (.c (.s (.int .i64 6))), none⟩] (none))
    .ret)
    .skip))
  (.seq (.seq (.region [
    ⟨some 6, .cp (.t 0), none⟩,
    ⟨some 7, .call false i_slices_ContainsFunc_int_int [(.t 6), (.c (.fn i_column_wrong [] []))], none⟩] (none))
  (.cond (.t 7)
    (.seq (.region [
      ⟨some 2, .cp (.c (.s (.int .i64 2))), none⟩] (none))
    .ret)
    .skip))
  (.seq (.region [
    ⟨some 2, .cp (.c (.s (.int .i64 0))), none⟩] (none))
  .ret)))) }
def x_column_made_l0 : XC :=
  (.seq (.seq (.region [
    ⟨some 9, .cp (.t 4), none⟩,
    ⟨some 10, .bin .leq (.t 9) (.c (.s (.int .i64 4))), none⟩] (none))
  (.cond (.t 10)
    .skip
    (.exit 0)))
  (.seq (.block 1
    (.seq (.region [
      ⟨some 13, .cp (.t 4), none⟩,
      ⟨some 14, .cp (.t 0), none⟩,
      ⟨some 15, .call false i_column_encode [(.t 13), (.t 14)], none⟩,
      ⟨some 5, .cp (.t 15), none⟩] (none))
    (.seq (.region [
      ⟨some 16, .cp (.t 3), none⟩,
      ⟨some 17, .nilchk (.t 16), none⟩,
      ⟨some 18, .faddr (.t 17) 2, none⟩,
      ⟨some 19, .load 1 false (.t 18), none⟩,
      ⟨some 20, .bin .eql (.t 19) (.c (.s (.int .i64 0))), none⟩,
      ⟨some 21, .cp (.t 20), none⟩,
      ⟨some 22, .cp (.t 5), some (21, false)⟩,
      ⟨some 23, .len true (.t 22), some (21, false)⟩,
      ⟨some 24, .cp (.t 3), some (21, false)⟩,
      ⟨some 25, .nilchk (.t 24), some (21, false)⟩,
      ⟨some 26, .faddr (.t 25) 1, some (21, false)⟩,
      ⟨some 27, .load 1 false (.t 26), some (21, false)⟩,
      ⟨some 28, .len true (.t 27), some (21, false)⟩,
      ⟨some 29, .bin .lss (.t 23) (.t 28), some (21, false)⟩,
      ⟨some 30, .pick (.t 21) (.c (.s (.bool true))) (.t 29), none⟩] (none))
    (.cond (.t 30)
      (.region [
        ⟨some 31, .cp (.t 3), none⟩,
        ⟨some 32, .cp (.t 3), none⟩,
        ⟨some 33, .cp (.t 4), none⟩,
        ⟨some 34, .cp (.t 5), none⟩,
        ⟨some 35, .nilchk (.t 31), none⟩,
        ⟨some 36, .faddr (.t 35) 2, none⟩,
        ⟨none, .store 1 (.t 36) (.t 33), none⟩,
        ⟨some 37, .nilchk (.t 32), none⟩,
        ⟨some 38, .faddr (.t 37) 1, none⟩,
        ⟨none, .store 1 (.t 38) (.t 34), none⟩] (none))
      .skip))))
  (.region [
    ⟨some 11, .cp (.t 4), none⟩,
    ⟨some 12, .bin .add (.t 11) (.c (.s (.int .i64 1))), none⟩,
    ⟨some 4, .cp (.t 12), none⟩] (none))))
def x_column_made : XF := { np := 1, results := [(.inl 2, .f)], body :=
  (.seq (.region [
    ⟨some 2, .cp (.c (.s (.pointer none))), none⟩] (none))
  (.seq (.region [
    ⟨some 6, .cp (.t 0), none⟩,
    ⟨some 7, .build false [.s (.slice none 0 0), .s (.string ⟨#[]⟩), .s (.int .i64 0)] [(0, 1, (.t 6))], none⟩,
    ⟨some 8, .box false (.t 7), none⟩,
    ⟨some 3, .cp (.t 8), none⟩] (none))
  (.seq (.seq (.region [
    ⟨some 4, .cp (.c (.s (.int .i64 1))), none⟩] (none))
  (.block 0
    (.loop x_column_made_l0)))
  (.seq (.region [
    ⟨some 39, .cp (.t 3), none⟩,
    ⟨some 2, .cp (.t 39), none⟩] (none))
  .ret)))) }
def x_slices_Clone_int_int : XF := { np := 1, results := [(.inl 2, .v)], body :=
  (.seq (.region [
    ⟨some 2, .cp (.c (.s (.slice none 0 0))), none⟩] (none))
  (.seq (.seq (.region [
    ⟨some 3, .cp (.t 0), none⟩,
    ⟨some 4, .eqv .s false (.t 3) (.c (.s (.slice none 0 0))), none⟩] (none))
  (.cond (.t 4)
    (.seq (.region [
      ⟨some 2, .cp (.c (.s (.slice none 0 0))), none⟩] (none))
    .ret)
    .skip))
  (.seq (.region [
    ⟨some 5, .bslice true 1 [], none⟩,
    ⟨some 6, .cp (.t 0), none⟩,
    ⟨some 7, .append 1 17592186044416 (.t 5) (.t 6), none⟩,
    ⟨some 2, .cp (.t 7), none⟩] (none))
  .ret))) }
def x_column_encode : XF := { np := 2, results := [(.inl 4, .v)], body :=
  (.seq (.region [
    ⟨some 4, .cp (.c (.s (.string ⟨#[]⟩))), none⟩] (none))
  (.seq (.region [
    ⟨some 7, .build false [.s .nilFunc, .s .nilFunc, .s .nilFunc, .s .nilFunc] [(0, 1, (.c (.fn i_column_plain [] []))), (1, 1, (.c (.fn i_column_delta [] []))), (2, 1, (.c (.fn i_column_runs [] []))), (3, 1, (.c (.fn i_column_packed [] [])))], none⟩,
    ⟨some 5, .alloc [.s .nilFunc, .s .nilFunc, .s .nilFunc, .s .nilFunc], none⟩,
    ⟨none, .store 4 (.t 5) (.t 7), none⟩] (none))
  (.seq (.region [
    ⟨some 6, .alloc [.s (.slice none 0 0)], none⟩] (none))
  (.seq (.region [
    ⟨some 8, .cp (.t 0), none⟩,
    ⟨some 9, .call false i_encoding_Writer_Number [(.t 6), (.t 8)], none⟩] (none))
  (.seq (.region [
    ⟨some 10, .cp (.t 0), none⟩,
    ⟨some 11, .bin .sub (.t 10) (.c (.s (.int .i64 1))), none⟩,
    ⟨some 12, .iaddrA 4 1 (.t 5) (.t 11), none⟩,
    ⟨some 13, .load 1 false (.t 12), none⟩,
    ⟨some 14, .cp (.t 1), none⟩,
    ⟨some 15, .callv false (.t 13) [(.t 6), (.t 14)], none⟩] (none))
  (.seq (.region [
    ⟨some 16, .call false i_encoding_Writer_Bytes [(.t 6)], none⟩,
    ⟨some 4, .cp (.t 16), none⟩] (none))
  .ret)))))) }
def x_sleuthref07_Number_l0 : XC :=
  (.seq (.seq (.region [
    ⟨some 17, .cp (.t 5), none⟩,
    ⟨some 18, .bin .gtr (.t 17) (.c (.s (.int .u64 0))), none⟩] (none))
  (.cond (.t 18)
    .skip
    (.exit 0)))
  (.seq (.block 1
    (.region [
      ⟨some 21, .cp (.t 5), none⟩,
      ⟨some 22, .bin .and (.t 21) (.c (.s (.int .u64 255))), none⟩,
      ⟨some 23, .conv .u8 (.t 22), none⟩,
      ⟨some 24, .bslice true 1 [(.t 23)], none⟩,
      ⟨some 25, .cp (.t 4), none⟩,
      ⟨some 26, .append 1 140737488355328 (.t 24) (.t 25), none⟩,
      ⟨some 4, .cp (.t 26), none⟩] (none)))
  (.region [
    ⟨some 19, .cp (.t 5), none⟩,
    ⟨some 20, .bin .shr (.t 19) (.c (.s (.int .u64 8))), none⟩,
    ⟨some 5, .cp (.t 20), none⟩] (none))))
def x_sleuthref07_Number_l1 : XC :=
  (.seq (.seq (.region [
    ⟨some 37, .cp (.t 7), none⟩,
    ⟨some 38, .cp (.t 4), none⟩,
    ⟨some 39, .len false (.t 38), none⟩,
    ⟨some 40, .bin .lss (.t 37) (.t 39), none⟩] (none))
  (.cond (.t 40)
    .skip
    (.exit 2)))
  (.seq (.block 3
    (.region [
      ⟨some 43, .cp (.t 4), none⟩,
      ⟨some 44, .cp (.t 7), none⟩,
      ⟨some 45, .cp (.t 4), none⟩,
      ⟨some 46, .cp (.t 7), none⟩,
      ⟨some 47, .iaddr 1 (.t 45) (.t 46), none⟩,
      ⟨some 48, .load 1 false (.t 47), none⟩,
      ⟨some 49, .bin .sub (.c (.s (.int .u8 255))) (.t 48), none⟩,
      ⟨some 50, .iaddr 1 (.t 43) (.t 44), none⟩,
      ⟨none, .store 1 (.t 50) (.t 49), none⟩] (none)))
  (.region [
    ⟨some 41, .cp (.t 7), none⟩,
    ⟨some 42, .bin .add (.t 41) (.c (.s (.int .i64 1))), none⟩,
    ⟨some 7, .cp (.t 42), none⟩] (none))))
def x_sleuthref07_Number : XF := { np := 1, results := [(.inl 2, .v)], body :=
  (.seq (.region [
    ⟨some 2, .cp (.c (.s (.string ⟨#[]⟩))), none⟩] (none))
  (.seq (.seq (.region [
    ⟨some 8, .cp (.t 0), none⟩,
    ⟨some 9, .bin .eql (.t 8) (.c (.s (.int .i64 0))), none⟩] (none))
  (.cond (.t 9)
    (.seq (.region [
      ⟨some 2, .cp (.c (.s (.string ⟨#[128]⟩))), none⟩] (none))
    .ret)
    .skip))
  (.seq (.region [
    ⟨some 10, .cp (.t 0), none⟩,
    ⟨some 11, .conv .u64 (.t 10), none⟩,
    ⟨some 3, .cp (.t 11), none⟩] (none))
  (.seq (.seq (.region [
    ⟨some 12, .cp (.t 0), none⟩,
    ⟨some 13, .bin .lss (.t 12) (.c (.s (.int .i64 0))), none⟩] (none))
  (.cond (.t 13)
    (.region [
      ⟨some 14, .cp (.t 3), none⟩,
      ⟨some 15, .bin .sub (.c (.s (.int .u64 0))) (.t 14), none⟩,
      ⟨some 3, .cp (.t 15), none⟩] (none))
    .skip))
  (.seq (.region [
    ⟨some 4, .cp (.c (.s (.slice none 0 0))), none⟩] (none))
  (.seq (.seq (.region [
    ⟨some 16, .cp (.t 3), none⟩,
    ⟨some 5, .cp (.t 16), none⟩] (none))
  (.block 0
    (.loop x_sleuthref07_Number_l0)))
  (.seq (.region [
    ⟨some 27, .cp (.t 4), none⟩,
    ⟨some 28, .len false (.t 27), none⟩,
    ⟨some 29, .bin .add (.c (.s (.int .i64 128))) (.t 28), none⟩,
    ⟨some 30, .conv .u8 (.t 29), none⟩,
    ⟨some 6, .cp (.t 30), none⟩] (none))
  (.seq (.seq (.region [
    ⟨some 31, .cp (.t 0), none⟩,
    ⟨some 32, .bin .lss (.t 31) (.c (.s (.int .i64 0))), none⟩] (none))
  (.cond (.t 32)
    (.seq (.region [
      ⟨some 33, .cp (.t 4), none⟩,
      ⟨some 34, .len false (.t 33), none⟩,
      ⟨some 35, .bin .sub (.c (.s (.int .i64 128))) (.t 34), none⟩,
      ⟨some 36, .conv .u8 (.t 35), none⟩,
      ⟨some 6, .cp (.t 36), none⟩] (none))
    (.seq (.region [
      ⟨some 7, .cp (.c (.s (.int .i64 0))), none⟩] (none))
    (.block 2
      (.loop x_sleuthref07_Number_l1))))
    .skip))
  (.seq (.region [
    ⟨some 51, .cp (.t 6), none⟩,
    ⟨some 52, .bslice true 1 [(.t 51)], none⟩,
    ⟨some 53, .cp (.t 4), none⟩,
    ⟨some 54, .append 1 140737488355328 (.t 52) (.t 53), none⟩,
    ⟨some 55, .toStr (.t 54), none⟩,
    ⟨some 2, .cp (.t 55), none⟩] (none))
  .ret))))))))) }
def x_sleuthref07_Zone_l0 : XC :=
  (.seq (.seq (.region [
    ⟨some 5, .cp (.t 4), none⟩,
    ⟨some 6, .cp (.t 0), none⟩,
    ⟨some 7, .len false (.t 6), none⟩,
    ⟨some 8, .bin .lss (.t 5) (.t 7), none⟩] (none))
  (.cond (.t 8)
    .skip
    (.exit 0)))
  (.seq (.block 1
    (.seq (.seq (.region [
      ⟨some 11, .cp (.t 4), none⟩,
      ⟨some 12, .bin .eql (.t 11) (.c (.s (.int .i64 0))), none⟩] (none))
    (.cond (.t 12)
      (.region [
        ⟨some 13, .cp (.t 0), none⟩,
        ⟨some 14, .iaddr 1 (.t 13) (.c (.s (.int .i64 0))), none⟩,
        ⟨some 15, .load 1 false (.t 14), none⟩,
        ⟨some 16, .cp (.t 0), none⟩,
        ⟨some 17, .iaddr 1 (.t 16) (.c (.s (.int .i64 0))), none⟩,
        ⟨some 18, .load 1 false (.t 17), none⟩,
        ⟨some 2, .cp (.t 15), none⟩,
        ⟨some 3, .cp (.t 18), none⟩] (some []))
      .skip))
    (.region [
      ⟨some 19, .cp (.t 2), none⟩,
      ⟨some 20, .cp (.t 0), none⟩,
      ⟨some 21, .cp (.t 4), none⟩,
      ⟨some 22, .iaddr 1 (.t 20) (.t 21), none⟩,
      ⟨some 23, .load 1 false (.t 22), none⟩,
      ⟨some 24, .minmax false [(.t 19), (.t 23)], none⟩,
      ⟨some 25, .cp (.t 3), none⟩,
      ⟨some 26, .cp (.t 0), none⟩,
      ⟨some 27, .cp (.t 4), none⟩,
      ⟨some 28, .iaddr 1 (.t 26) (.t 27), none⟩,
      ⟨some 29, .load 1 false (.t 28), none⟩,
      ⟨some 30, .minmax true [(.t 25), (.t 29)], none⟩,
      ⟨some 2, .cp (.t 24), none⟩,
      ⟨some 3, .cp (.t 30), none⟩] (some []))))
  (.region [
    ⟨some 9, .cp (.t 4), none⟩,
    ⟨some 10, .bin .add (.t 9) (.c (.s (.int .i64 1))), none⟩,
    ⟨some 4, .cp (.t 10), none⟩] (none))))
def x_sleuthref07_Zone : XF := { np := 1, results := [(.inl 2, .v), (.inl 3, .v)], body :=
  (.seq (.region [
    ⟨some 2, .cp (.c (.s (.int .i64 0))), none⟩,
    ⟨some 3, .cp (.c (.s (.int .i64 0))), none⟩] (none))
  (.seq (.seq (.region [
    ⟨some 4, .cp (.c (.s (.int .i64 0))), none⟩] (none))
  (.block 0
    (.loop x_sleuthref07_Zone_l0)))
  (.seq (.region [
    ⟨some 31, .cp (.t 2), none⟩,
    ⟨some 32, .cp (.t 3), none⟩,
    ⟨some 2, .cp (.t 31), none⟩,
    ⟨some 3, .cp (.t 32), none⟩] (none))
  .ret))) }
def x_sleuthref07_Bits_l0 : XC :=
  (.seq (.seq (.region [
    ⟨some 16, .cp (.t 5), none⟩,
    ⟨some 17, .cp (.t 4), none⟩,
    ⟨some 18, .bin .sub (.t 16) (.t 17), none⟩,
    ⟨some 19, .cp (.t 6), none⟩,
    ⟨some 20, .conv .u64 (.t 19), none⟩,
    ⟨some 21, .bin .shl (.c (.s (.int .i64 1))) (.t 20), none⟩,
    ⟨some 22, .bin .geq (.t 18) (.t 21), none⟩] (none))
  (.cond (.t 22)
    .skip
    (.exit 0)))
  (.block 1
    (.region [
      ⟨some 23, .cp (.t 6), none⟩,
      ⟨some 24, .bin .add (.t 23) (.c (.s (.int .i64 1))), none⟩,
      ⟨some 6, .cp (.t 24), none⟩] (none))))
def x_sleuthref07_Bits_l1 : XC :=
  (.seq (.seq (.region [
    ⟨some 38, .cp (.t 9), none⟩,
    ⟨some 39, .cp (.t 6), none⟩,
    ⟨some 40, .bin .lss (.t 38) (.t 39), none⟩] (none))
  (.cond (.t 40)
    .skip
    (.exit 4)))
  (.seq (.block 5
    (.seq (.region [
      ⟨some 43, .cp (.t 0), none⟩,
      ⟨some 44, .cp (.t 8), none⟩,
      ⟨some 45, .iaddr 1 (.t 43) (.t 44), none⟩,
      ⟨some 46, .load 1 false (.t 45), none⟩,
      ⟨some 47, .cp (.t 4), none⟩,
      ⟨some 48, .bin .sub (.t 46) (.t 47), none⟩,
      ⟨some 49, .cp (.t 9), none⟩,
      ⟨some 50, .conv .u64 (.t 49), none⟩,
      ⟨some 51, .bin .shr (.t 48) (.t 50), none⟩,
      ⟨some 52, .bin .and (.t 51) (.c (.s (.int .i64 1))), none⟩,
      ⟨some 53, .bin .eql (.t 52) (.c (.s (.int .i64 1))), none⟩] (none))
    (.cond (.t 53)
      (.seq (.region [
        ⟨some 54, .cp (.t 8), none⟩,
        ⟨some 55, .cp (.t 6), none⟩,
        ⟨some 56, .bin .mul (.t 54) (.t 55), none⟩,
        ⟨some 57, .cp (.t 9), none⟩,
        ⟨some 58, .bin .add (.t 56) (.t 57), none⟩,
        ⟨some 10, .cp (.t 58), none⟩] (none))
      (.region [
        ⟨some 59, .cp (.t 7), none⟩,
        ⟨some 60, .cp (.t 10), none⟩,
        ⟨some 61, .bin .quo (.t 60) (.c (.s (.int .i64 8))), none⟩,
        ⟨some 62, .cp (.t 7), none⟩,
        ⟨some 63, .cp (.t 10), none⟩,
        ⟨some 64, .bin .quo (.t 63) (.c (.s (.int .i64 8))), none⟩,
        ⟨some 65, .iaddr 1 (.t 62) (.t 64), none⟩,
        ⟨some 66, .load 1 false (.t 65), none⟩,
        ⟨some 67, .cp (.t 10), none⟩,
        ⟨some 68, .bin .rem (.t 67) (.c (.s (.int .i64 8))), none⟩,
        ⟨some 69, .conv .u64 (.t 68), none⟩,
        ⟨some 70, .bin .shl (.c (.s (.int .u8 1))) (.t 69), none⟩,
        ⟨some 71, .bin .add (.t 66) (.t 70), none⟩,
        ⟨some 72, .iaddr 1 (.t 59) (.t 61), none⟩,
        ⟨none, .store 1 (.t 72) (.t 71), none⟩] (none)))
      .skip)))
  (.region [
    ⟨some 41, .cp (.t 9), none⟩,
    ⟨some 42, .bin .add (.t 41) (.c (.s (.int .i64 1))), none⟩,
    ⟨some 9, .cp (.t 42), none⟩] (none))))
def x_sleuthref07_Bits_l2 : XC :=
  (.seq (.seq (.region [
    ⟨some 32, .cp (.t 8), none⟩,
    ⟨some 33, .cp (.t 0), none⟩,
    ⟨some 34, .len false (.t 33), none⟩,
    ⟨some 35, .bin .lss (.t 32) (.t 34), none⟩] (none))
  (.cond (.t 35)
    .skip
    (.exit 2)))
  (.seq (.block 3
    (.seq (.region [
      ⟨some 9, .cp (.c (.s (.int .i64 0))), none⟩] (none))
    (.block 4
      (.loop x_sleuthref07_Bits_l1))))
  (.region [
    ⟨some 36, .cp (.t 8), none⟩,
    ⟨some 37, .bin .add (.t 36) (.c (.s (.int .i64 1))), none⟩,
    ⟨some 8, .cp (.t 37), none⟩] (none))))
def x_sleuthref07_Bits : XF := { np := 1, results := [(.inl 2, .v), (.inl 3, .v)], body :=
  (.seq (.region [
    ⟨some 2, .cp (.c (.s (.int .i64 0))), none⟩,
    ⟨some 3, .cp (.c (.s (.string ⟨#[]⟩))), none⟩] (none))
  (.seq (.region [
    ⟨some 12, .cp (.t 0), none⟩,
    ⟨some 13, .call false i_sleuthref07_Zone [(.t 12)], none⟩,
    ⟨some 11, .cp (.t 13), none⟩,
    ⟨some 14, .extract (.t 11) 0, none⟩,
    ⟨some 15, .extract (.t 11) 1, none⟩,
    ⟨some 4, .cp (.t 14), none⟩,
    ⟨some 5, .cp (.t 15), none⟩] (none))
  (.seq (.region [
    ⟨some 6, .cp (.c (.s (.int .i64 0))), none⟩] (none))
  (.seq (.block 0
    (.loop x_sleuthref07_Bits_l0))
  (.seq (.region [
    ⟨some 25, .cp (.t 0), none⟩,
    ⟨some 26, .len false (.t 25), none⟩,
    ⟨some 27, .cp (.t 6), none⟩,
    ⟨some 28, .bin .mul (.t 26) (.t 27), none⟩,
    ⟨some 29, .bin .add (.t 28) (.c (.s (.int .i64 7))), none⟩,
    ⟨some 30, .bin .quo (.t 29) (.c (.s (.int .i64 8))), none⟩,
    ⟨some 31, .mkslice 1 (.s (.int .u8 0)) 140737488355328 (.t 30) (.t 30), none⟩,
    ⟨some 7, .cp (.t 31), none⟩] (none))
  (.seq (.seq (.region [
    ⟨some 8, .cp (.c (.s (.int .i64 0))), none⟩] (none))
  (.block 2
    (.loop x_sleuthref07_Bits_l2)))
  (.seq (.region [
    ⟨some 73, .cp (.t 6), none⟩,
    ⟨some 74, .cp (.t 7), none⟩,
    ⟨some 75, .toStr (.t 74), none⟩,
    ⟨some 2, .cp (.t 73), none⟩,
    ⟨some 3, .cp (.t 75), none⟩] (some []))
  .ret))))))) }
def x_column_zone : XF := { np := 1, results := [(.inr (2, 2, true), .v)], body :=
  (.seq (.region [
    ⟨some 2, .alloc [.s (.int .i64 0), .s (.int .i64 0)], none⟩] (none))
  (.seq (.seq (.region [
    ⟨some 3, .cp (.t 0), none⟩,
    ⟨some 4, .len false (.t 3), none⟩,
    ⟨some 5, .bin .eql (.t 4) (.c (.s (.int .i64 0))), none⟩] (none))
  (.cond (.t 5)
    (.seq (.region [
      ⟨some 6, .build false [.s (.int .i64 0), .s (.int .i64 0)] [], none⟩,
      ⟨none, .store 2 (.t 2) (.t 6), none⟩] (none))
    .ret)
    .skip))
  (.seq (.region [
    ⟨some 7, .cp (.t 0), none⟩,
    ⟨some 8, .call false i_slices_Min_int_int [(.t 7)], none⟩,
    ⟨some 9, .cp (.t 0), none⟩,
    ⟨some 10, .call false i_slices_Max_int_int [(.t 9)], none⟩,
    ⟨some 11, .build false [.s (.int .i64 0), .s (.int .i64 0)] [(0, 1, (.t 8)), (1, 1, (.t 10))], none⟩,
    ⟨none, .store 2 (.t 2) (.t 11), none⟩] (none))
  .ret))) }
def x_slices_ContainsFunc_int_int : XF := { np := 2, results := [(.inl 4, .v)], body :=
  (.seq (.region [
    ⟨some 4, .cp (.c (.s (.bool false))), none⟩] (none))
  (.seq (.region [
    ⟨some 5, .cp (.t 0), none⟩,
    ⟨some 6, .cp (.t 1), none⟩,
    ⟨some 7, .call false i_slices_IndexFunc_int_int [(.t 5), (.t 6)], none⟩,
    ⟨some 8, .bin .geq (.t 7) (.c (.s (.int .i64 0))), none⟩,
    ⟨some 4, .cp (.t 8), none⟩] (none))
  .ret)) }
def x_column_wrong : XF := { np := 1, results := [(.inl 2, .v)], body :=
  (.seq (.region [
    ⟨some 2, .cp (.c (.s (.bool false))), none⟩] (none))
  (.seq (.region [
    ⟨some 3, .cp (.t 0), none⟩,
    ⟨some 4, .bin .lss (.t 3) (.c (.s (.int .i64 (-1152921504606846976)))), none⟩,
    ⟨some 5, .cp (.t 4), none⟩,
    ⟨some 6, .cp (.t 0), some (5, false)⟩,
    ⟨some 7, .bin .gtr (.t 6) (.c (.s (.int .i64 1152921504606846976))), some (5, false)⟩,
    ⟨some 8, .pick (.t 5) (.c (.s (.bool true))) (.t 7), none⟩,
    ⟨some 2, .cp (.t 8), none⟩] (none))
  .ret)) }
def x_column_plain_l0 : XC :=
  (.seq (.region [
    ⟨some 13, .bin .lss (.t 12) (.t 11), none⟩] (none))
  (.seq (.cond (.t 13)
    .skip
    (.exit 0))
  (.seq (.block 1
    (.seq (.region [
      ⟨some 14, .iaddr 1 (.t 10) (.t 12), none⟩,
      ⟨some 15, .load 1 false (.t 14), none⟩,
      ⟨some 5, .cp (.t 15), none⟩] (none))
    (.region [
      ⟨some 16, .cp (.t 0), none⟩,
      ⟨some 17, .cp (.t 5), none⟩,
      ⟨some 18, .call false i_encoding_Writer_Number [(.t 16), (.t 17)], none⟩] (none))))
  (.region [
    ⟨some 19, .bin .add (.t 12) (.c (.s (.int .i64 1))), none⟩,
    ⟨some 12, .cp (.t 19), none⟩] (none)))))
def x_column_plain : XF := { np := 2, results := [], body :=
  (.seq (.region [
    ⟨some 6, .cp (.t 0), none⟩,
    ⟨some 7, .cp (.t 1), none⟩,
    ⟨some 8, .len false (.t 7), none⟩,
    ⟨some 9, .call false i_encoding_Writer_Number [(.t 6), (.t 8)], none⟩] (none))
  (.seq (.region [
    ⟨some 10, .cp (.t 1), none⟩,
    ⟨some 11, .len false (.t 10), none⟩,
    ⟨some 12, .cp (.c (.s (.int .i64 0))), none⟩] (none))
  (.block 0
    (.loop x_column_plain_l0)))) }
def x_column_delta_l0 : XC :=
  (.seq (.region [
    ⟨some 14, .bin .lss (.t 13) (.t 12), none⟩] (none))
  (.seq (.cond (.t 14)
    .skip
    (.exit 0))
  (.seq (.block 1
    (.seq (.region [
      ⟨some 15, .iaddr 1 (.t 11) (.t 13), none⟩,
      ⟨some 16, .load 1 false (.t 15), none⟩,
      ⟨some 6, .cp (.t 16), none⟩] (none))
    (.seq (.region [
      ⟨some 17, .cp (.t 0), none⟩,
      ⟨some 18, .cp (.t 6), none⟩,
      ⟨some 19, .cp (.t 4), none⟩,
      ⟨some 20, .bin .sub (.t 18) (.t 19), none⟩,
      ⟨some 21, .call false i_encoding_Writer_Number [(.t 17), (.t 20)], none⟩] (none))
    (.region [
      ⟨some 22, .cp (.t 6), none⟩,
      ⟨some 4, .cp (.t 22), none⟩] (none)))))
  (.region [
    ⟨some 23, .bin .add (.t 13) (.c (.s (.int .i64 1))), none⟩,
    ⟨some 13, .cp (.t 23), none⟩] (none)))))
def x_column_delta : XF := { np := 2, results := [], body :=
  (.seq (.region [
    ⟨some 7, .cp (.t 0), none⟩,
    ⟨some 8, .cp (.t 1), none⟩,
    ⟨some 9, .len false (.t 8), none⟩,
    ⟨some 10, .call false i_encoding_Writer_Number [(.t 7), (.t 9)], none⟩] (none))
  (.seq (.region [
    ⟨some 4, .cp (.c (.s (.int .i64 0))), none⟩] (none))
  (.seq (.region [
    ⟨some 11, .cp (.t 1), none⟩,
    ⟨some 12, .len false (.t 11), none⟩,
    ⟨some 13, .cp (.c (.s (.int .i64 0))), none⟩] (none))
  (.block 0
    (.loop x_column_delta_l0))))) }
def x_column_runs_l0 : XC :=
  (.seq (.region [
    ⟨some 13, .bin .lss (.t 12) (.t 11), none⟩] (none))
  (.seq (.cond (.t 13)
    .skip
    (.exit 0))
  (.seq (.block 1
    (.seq (.region [
      ⟨some 14, .cp (.t 12), none⟩,
      ⟨some 15, .iaddr 1 (.t 10) (.t 12), none⟩,
      ⟨some 16, .load 1 false (.t 15), none⟩,
      ⟨some 5, .cp (.t 14), none⟩,
      ⟨some 6, .cp (.t 16), none⟩] (none))
    (.seq (.region [
      ⟨some 17, .cp (.t 5), none⟩,
      ⟨some 18, .bin .eql (.t 17) (.c (.s (.int .i64 0))), none⟩,
      ⟨some 19, .cp (.t 18), none⟩,
      ⟨some 20, .cp (.t 6), some (19, false)⟩,
      ⟨some 21, .cp (.t 1), some (19, false)⟩,
      ⟨some 22, .cp (.t 5), some (19, false)⟩,
      ⟨some 23, .bin .sub (.t 22) (.c (.s (.int .i64 1))), some (19, false)⟩,
      ⟨some 24, .iaddr 1 (.t 21) (.t 23), some (19, false)⟩,
      ⟨some 25, .load 1 false (.t 24), some (19, false)⟩,
      ⟨some 26, .bin .neq (.t 20) (.t 25), some (19, false)⟩,
      ⟨some 27, .pick (.t 19) (.c (.s (.bool true))) (.t 26), none⟩] (none))
    (.cond (.t 27)
      (.region [
        ⟨some 28, .cp (.t 4), none⟩,
        ⟨some 29, .cp (.t 5), none⟩,
        ⟨some 30, .bslice false 1 [(.t 29)], none⟩,
        ⟨some 31, .append 1 17592186044416 (.t 28) (.t 30), none⟩,
        ⟨some 4, .cp (.t 31), none⟩] (none))
      .skip))))
  (.region [
    ⟨some 32, .bin .add (.t 12) (.c (.s (.int .i64 1))), none⟩,
    ⟨some 12, .cp (.t 32), none⟩] (none)))))
def x_column_runs_l1 : XC :=
  (.seq (.region [
    ⟨some 40, .bin .lss (.t 39) (.t 38), none⟩] (none))
  (.seq (.cond (.t 40)
    .skip
    (.exit 2))
  (.seq (.block 3
    (.seq (.region [
      ⟨some 41, .cp (.t 39), none⟩,
      ⟨some 42, .iaddr 1 (.t 37) (.t 39), none⟩,
      ⟨some 43, .load 1 false (.t 42), none⟩,
      ⟨some 7, .cp (.t 41), none⟩,
      ⟨some 8, .cp (.t 43), none⟩] (none))
    (.seq (.region [
      ⟨some 44, .cp (.t 1), none⟩,
      ⟨some 45, .len false (.t 44), none⟩,
      ⟨some 9, .cp (.t 45), none⟩] (none))
    (.seq (.seq (.region [
      ⟨some 46, .cp (.t 7), none⟩,
      ⟨some 47, .bin .add (.t 46) (.c (.s (.int .i64 1))), none⟩,
      ⟨some 48, .cp (.t 4), none⟩,
      ⟨some 49, .len false (.t 48), none⟩,
      ⟨some 50, .bin .lss (.t 47) (.t 49), none⟩] (none))
    (.cond (.t 50)
      (.region [
        ⟨some 51, .cp (.t 4), none⟩,
        ⟨some 52, .cp (.t 7), none⟩,
        ⟨some 53, .bin .add (.t 52) (.c (.s (.int .i64 1))), none⟩,
        ⟨some 54, .iaddr 1 (.t 51) (.t 53), none⟩,
        ⟨some 55, .load 1 false (.t 54), none⟩,
        ⟨some 9, .cp (.t 55), none⟩] (none))
      .skip))
    (.seq (.region [
      ⟨some 56, .cp (.t 0), none⟩,
      ⟨some 57, .cp (.t 1), none⟩,
      ⟨some 58, .cp (.t 8), none⟩,
      ⟨some 59, .iaddr 1 (.t 57) (.t 58), none⟩,
      ⟨some 60, .load 1 false (.t 59), none⟩,
      ⟨some 61, .call false i_encoding_Writer_Number [(.t 56), (.t 60)], none⟩] (none))
    (.region [
      ⟨some 62, .cp (.t 0), none⟩,
      ⟨some 63, .cp (.t 9), none⟩,
      ⟨some 64, .cp (.t 8), none⟩,
      ⟨some 65, .bin .sub (.t 63) (.t 64), none⟩,
      ⟨some 66, .call false i_encoding_Writer_Number [(.t 62), (.t 65)], none⟩] (none)))))))
  (.region [
    ⟨some 67, .bin .add (.t 39) (.c (.s (.int .i64 1))), none⟩,
    ⟨some 39, .cp (.t 67), none⟩] (none)))))
def x_column_runs : XF := { np := 2, results := [], body :=
  (.seq (.region [
    ⟨some 4, .cp (.c (.s (.slice none 0 0))), none⟩] (none))
  (.seq (.seq (.region [
    ⟨some 10, .cp (.t 1), none⟩,
    ⟨some 11, .len false (.t 10), none⟩,
    ⟨some 12, .cp (.c (.s (.int .i64 0))), none⟩] (none))
  (.block 0
    (.loop x_column_runs_l0)))
  (.seq (.region [
    ⟨some 33, .cp (.t 0), none⟩,
    ⟨some 34, .cp (.t 4), none⟩,
    ⟨some 35, .len false (.t 34), none⟩,
    ⟨some 36, .call false i_encoding_Writer_Number [(.t 33), (.t 35)], none⟩] (none))
  (.seq (.region [
    ⟨some 37, .cp (.t 4), none⟩,
    ⟨some 38, .len false (.t 37), none⟩,
    ⟨some 39, .cp (.c (.s (.int .i64 0))), none⟩] (none))
  (.block 2
    (.loop x_column_runs_l1)))))) }
def x_column_packed_l0 : XC :=
  (.seq (.region [
    ⟨some 36, .bin .lss (.t 35) (.t 34), none⟩] (none))
  (.seq (.cond (.t 36)
    .skip
    (.exit 2))
  (.seq (.block 3
    (.seq (.region [
      ⟨some 37, .cp (.t 35), none⟩,
      ⟨some 9, .cp (.t 37), none⟩] (none))
    (.seq (.region [
      ⟨some 38, .cp (.t 7), none⟩,
      ⟨some 39, .cp (.t 5), none⟩,
      ⟨some 40, .bin .mul (.t 38) (.t 39), none⟩,
      ⟨some 41, .cp (.t 9), none⟩,
      ⟨some 42, .bin .add (.t 40) (.t 41), none⟩,
      ⟨some 10, .cp (.t 42), none⟩] (none))
    (.region [
      ⟨some 43, .cp (.t 6), none⟩,
      ⟨some 44, .cp (.t 10), none⟩,
      ⟨some 45, .bin .quo (.t 44) (.c (.s (.int .i64 8))), none⟩,
      ⟨some 46, .iaddr 1 (.t 43) (.t 45), none⟩,
      ⟨some 47, .load 1 false (.t 46), none⟩,
      ⟨some 48, .cp (.t 8), none⟩,
      ⟨some 49, .faddr (.t 4) 0, none⟩,
      ⟨some 50, .load 1 false (.t 49), none⟩,
      ⟨some 51, .bin .sub (.t 48) (.t 50), none⟩,
      ⟨some 52, .cp (.t 9), none⟩,
      ⟨some 53, .bin .shr (.t 51) (.t 52), none⟩,
      ⟨some 54, .bin .and (.t 53) (.c (.s (.int .i64 1))), none⟩,
      ⟨some 55, .conv .u8 (.t 54), none⟩,
      ⟨some 56, .cp (.t 10), none⟩,
      ⟨some 57, .bin .rem (.t 56) (.c (.s (.int .i64 8))), none⟩,
      ⟨some 58, .bin .shl (.t 55) (.t 57), none⟩,
      ⟨some 59, .bin .or (.t 47) (.t 58), none⟩,
      ⟨some 60, .iaddr 1 (.t 43) (.t 45), none⟩,
      ⟨none, .store 1 (.t 60) (.t 59), none⟩] (some [])))))
  (.region [
    ⟨some 61, .bin .add (.t 35) (.c (.s (.int .i64 1))), none⟩,
    ⟨some 35, .cp (.t 61), none⟩] (none)))))
def x_column_packed_l1 : XC :=
  (.seq (.region [
    ⟨some 30, .bin .lss (.t 29) (.t 28), none⟩] (none))
  (.seq (.cond (.t 30)
    .skip
    (.exit 0))
  (.seq (.block 1
    (.seq (.region [
      ⟨some 31, .cp (.t 29), none⟩,
      ⟨some 32, .iaddr 1 (.t 27) (.t 29), none⟩,
      ⟨some 33, .load 1 false (.t 32), none⟩,
      ⟨some 7, .cp (.t 31), none⟩,
      ⟨some 8, .cp (.t 33), none⟩] (none))
    (.seq (.region [
      ⟨some 34, .cp (.t 5), none⟩,
      ⟨some 35, .cp (.c (.s (.int .i64 0))), none⟩] (none))
    (.block 2
      (.loop x_column_packed_l0)))))
  (.region [
    ⟨some 62, .bin .add (.t 29) (.c (.s (.int .i64 1))), none⟩,
    ⟨some 29, .cp (.t 62), none⟩] (none)))))
def x_column_packed : XF := { np := 2, results := [], body :=
  (.seq (.region [
    ⟨some 11, .cp (.t 1), none⟩,
    ⟨some 12, .call false i_column_zone [(.t 11)], none⟩,
    ⟨some 4, .alloc [.s (.int .i64 0), .s (.int .i64 0)], none⟩,
    ⟨none, .store 2 (.t 4) (.t 12), none⟩] (none))
  (.seq (.region [
    ⟨some 13, .faddr (.t 4) 1, none⟩,
    ⟨some 14, .load 1 false (.t 13), none⟩,
    ⟨some 15, .faddr (.t 4) 0, none⟩,
    ⟨some 16, .load 1 false (.t 15), none⟩,
    ⟨some 17, .bin .sub (.t 14) (.t 16), none⟩,
    ⟨some 18, .conv .u64 (.t 17), none⟩,
    ⟨some 19, .call false i_math_bits_Len [(.t 18)], none⟩,
    ⟨some 5, .cp (.t 19), none⟩] (none))
  (.seq (.region [
    ⟨some 20, .cp (.t 1), none⟩,
    ⟨some 21, .len false (.t 20), none⟩,
    ⟨some 22, .cp (.t 5), none⟩,
    ⟨some 23, .bin .mul (.t 21) (.t 22), none⟩,
    ⟨some 24, .bin .add (.t 23) (.c (.s (.int .i64 7))), none⟩,
    ⟨some 25, .bin .quo (.t 24) (.c (.s (.int .i64 8))), none⟩,
    ⟨some 26, .mkslice 1 (.s (.int .u8 0)) 140737488355328 (.t 25) (.t 25), none⟩,
    ⟨some 6, .cp (.t 26), none⟩] (none))
  (.seq (.seq (.region [
    ⟨some 27, .cp (.t 1), none⟩,
    ⟨some 28, .len false (.t 27), none⟩,
    ⟨some 29, .cp (.c (.s (.int .i64 0))), none⟩] (none))
  (.block 0
    (.loop x_column_packed_l1)))
  (.seq (.region [
    ⟨some 63, .cp (.t 0), none⟩,
    ⟨some 64, .cp (.t 1), none⟩,
    ⟨some 65, .len false (.t 64), none⟩,
    ⟨some 66, .call false i_encoding_Writer_Number [(.t 63), (.t 65)], none⟩] (none))
  (.seq (.region [
    ⟨some 67, .cp (.t 0), none⟩,
    ⟨some 68, .faddr (.t 4) 0, none⟩,
    ⟨some 69, .load 1 false (.t 68), none⟩,
    ⟨some 70, .call false i_encoding_Writer_Number [(.t 67), (.t 69)], none⟩] (none))
  (.seq (.region [
    ⟨some 71, .cp (.t 0), none⟩,
    ⟨some 72, .cp (.t 5), none⟩,
    ⟨some 73, .call false i_encoding_Writer_Number [(.t 71), (.t 72)], none⟩] (none))
  (.region [
    ⟨some 74, .cp (.t 0), none⟩,
    ⟨some 75, .cp (.t 6), none⟩,
    ⟨some 76, .toStr (.t 75), none⟩,
    ⟨some 77, .call false i_encoding_Writer_Text [(.t 74), (.t 76)], none⟩] (none))))))))) }
def x_slices_Min_int_int_l0 : XC :=
  (.seq (.seq (.region [
    ⟨some 12, .cp (.t 4), none⟩,
    ⟨some 13, .cp (.t 0), none⟩,
    ⟨some 14, .len false (.t 13), none⟩,
    ⟨some 15, .bin .lss (.t 12) (.t 14), none⟩] (none))
  (.cond (.t 15)
    .skip
    (.exit 0)))
  (.seq (.block 1
    (.region [
      ⟨some 18, .cp (.t 3), none⟩,
      ⟨some 19, .cp (.t 0), none⟩,
      ⟨some 20, .cp (.t 4), none⟩,
      ⟨some 21, .iaddr 1 (.t 19) (.t 20), none⟩,
      ⟨some 22, .load 1 false (.t 21), none⟩,
      ⟨some 23, .minmax false [(.t 18), (.t 22)], none⟩,
      ⟨some 3, .cp (.t 23), none⟩] (none)))
  (.region [
    ⟨some 16, .cp (.t 4), none⟩,
    ⟨some 17, .bin .add (.t 16) (.c (.s (.int .i64 1))), none⟩,
    ⟨some 4, .cp (.t 17), none⟩] (none))))
def x_slices_Min_int_int : XF := { np := 1, results := [(.inl 2, .v)], body :=
  (.seq (.region [
    ⟨some 2, .cp (.c (.s (.int .i64 0))), none⟩] (none))
  (.seq (.seq (.region [
    ⟨some 5, .cp (.t 0), none⟩,
    ⟨some 6, .len false (.t 5), none⟩,
    ⟨some 7, .bin .lss (.t 6) (.c (.s (.int .i64 1))), none⟩] (none))
  (.cond (.t 7)
    (.region [
      ⟨some 8, .slArr 0 (.c (.s (.slice none 0 0))), none⟩,
      ⟨none, .slArr 0 (.c (.s (.slice none 0 0))), none⟩] (none))
    .skip))
  (.seq (.region [
    ⟨some 9, .cp (.t 0), none⟩,
    ⟨some 10, .iaddr 1 (.t 9) (.c (.s (.int .i64 0))), none⟩,
    ⟨some 11, .load 1 false (.t 10), none⟩,
    ⟨some 3, .cp (.t 11), none⟩] (none))
  (.seq (.seq (.region [
    ⟨some 4, .cp (.c (.s (.int .i64 1))), none⟩] (none))
  (.block 0
    (.loop x_slices_Min_int_int_l0)))
  (.seq (.region [
    ⟨some 24, .cp (.t 3), none⟩,
    ⟨some 2, .cp (.t 24), none⟩] (none))
  .ret))))) }
def x_slices_Max_int_int_l0 : XC :=
  (.seq (.seq (.region [
    ⟨some 12, .cp (.t 4), none⟩,
    ⟨some 13, .cp (.t 0), none⟩,
    ⟨some 14, .len false (.t 13), none⟩,
    ⟨some 15, .bin .lss (.t 12) (.t 14), none⟩] (none))
  (.cond (.t 15)
    .skip
    (.exit 0)))
  (.seq (.block 1
    (.region [
      ⟨some 18, .cp (.t 3), none⟩,
      ⟨some 19, .cp (.t 0), none⟩,
      ⟨some 20, .cp (.t 4), none⟩,
      ⟨some 21, .iaddr 1 (.t 19) (.t 20), none⟩,
      ⟨some 22, .load 1 false (.t 21), none⟩,
      ⟨some 23, .minmax true [(.t 18), (.t 22)], none⟩,
      ⟨some 3, .cp (.t 23), none⟩] (none)))
  (.region [
    ⟨some 16, .cp (.t 4), none⟩,
    ⟨some 17, .bin .add (.t 16) (.c (.s (.int .i64 1))), none⟩,
    ⟨some 4, .cp (.t 17), none⟩] (none))))
def x_slices_Max_int_int : XF := { np := 1, results := [(.inl 2, .v)], body :=
  (.seq (.region [
    ⟨some 2, .cp (.c (.s (.int .i64 0))), none⟩] (none))
  (.seq (.seq (.region [
    ⟨some 5, .cp (.t 0), none⟩,
    ⟨some 6, .len false (.t 5), none⟩,
    ⟨some 7, .bin .lss (.t 6) (.c (.s (.int .i64 1))), none⟩] (none))
  (.cond (.t 7)
    (.region [
      ⟨some 8, .slArr 0 (.c (.s (.slice none 0 0))), none⟩,
      ⟨none, .slArr 0 (.c (.s (.slice none 0 0))), none⟩] (none))
    .skip))
  (.seq (.region [
    ⟨some 9, .cp (.t 0), none⟩,
    ⟨some 10, .iaddr 1 (.t 9) (.c (.s (.int .i64 0))), none⟩,
    ⟨some 11, .load 1 false (.t 10), none⟩,
    ⟨some 3, .cp (.t 11), none⟩] (none))
  (.seq (.seq (.region [
    ⟨some 4, .cp (.c (.s (.int .i64 1))), none⟩] (none))
  (.block 0
    (.loop x_slices_Max_int_int_l0)))
  (.seq (.region [
    ⟨some 24, .cp (.t 3), none⟩,
    ⟨some 2, .cp (.t 24), none⟩] (none))
  .ret))))) }
def x_slices_IndexFunc_int_int_l0 : XC :=
  (.seq (.region [
    ⟨some 9, .bin .lss (.t 8) (.t 7), none⟩] (none))
  (.seq (.cond (.t 9)
    .skip
    (.exit 0))
  (.seq (.block 1
    (.seq (.region [
      ⟨some 10, .cp (.t 8), none⟩,
      ⟨some 5, .cp (.t 10), none⟩] (none))
    (.seq (.region [
      ⟨some 11, .cp (.t 1), none⟩,
      ⟨some 12, .cp (.t 0), none⟩,
      ⟨some 13, .cp (.t 5), none⟩,
      ⟨some 14, .iaddr 1 (.t 12) (.t 13), none⟩,
      ⟨some 15, .load 1 false (.t 14), none⟩,
      ⟨some 16, .callv false (.t 11) [(.t 15)], none⟩] (none))
    (.cond (.t 16)
      (.seq (.region [
        ⟨some 17, .cp (.t 5), none⟩,
        ⟨some 4, .cp (.t 17), none⟩] (none))
      .ret)
      .skip))))
  (.region [
    ⟨some 18, .bin .add (.t 8) (.c (.s (.int .i64 1))), none⟩,
    ⟨some 8, .cp (.t 18), none⟩] (none)))))
def x_slices_IndexFunc_int_int : XF := { np := 2, results := [(.inl 4, .v)], body :=
  (.seq (.region [
    ⟨some 4, .cp (.c (.s (.int .i64 0))), none⟩] (none))
  (.seq (.seq (.region [
    ⟨some 6, .cp (.t 0), none⟩,
    ⟨some 7, .len false (.t 6), none⟩,
    ⟨some 8, .cp (.c (.s (.int .i64 0))), none⟩] (none))
  (.block 0
    (.loop x_slices_IndexFunc_int_int_l0)))
  (.seq (.region [
    ⟨some 4, .cp (.c (.s (.int .i64 (-1)))), none⟩] (none))
  .ret))) }
def x_math_bits_Len : XF := { np := 1, results := [(.inl 2, .v)], body :=
  (.seq (.region [
    ⟨some 2, .cp (.c (.s (.int .i64 0))), none⟩] (none))
  (.seq (.cond (.c (.s (.bool false)))
    (.seq (.region [
      ⟨some 3, .cp (.t 0), none⟩,
      ⟨some 4, .conv .u32 (.t 3), none⟩,
      ⟨some 5, .call false i_math_bits_Len32 [(.t 4)], none⟩,
      ⟨some 2, .cp (.t 5), none⟩] (none))
    .ret)
    .skip)
  (.seq (.region [
    ⟨some 6, .cp (.t 0), none⟩,
    ⟨some 7, .call false i_math_bits_Len64 [(.t 6)], none⟩,
    ⟨some 2, .cp (.t 7), none⟩] (none))
  .ret))) }
def x_math_bits_Len32_s0 : ByteArray :=
  ⟨#[0, 1, 2, 2, 3, 3, 3, 3, 4, 4, 4, 4, 4, 4, 4, 4, 5, 5, 5, 5, 5, 5, 5, 5, 5, 5, 5, 5, 5, 5, 5, 5, 6, 6, 6, 6, 6, 6, 6, 6, 6, 6, 6, 6, 6, 6, 6, 6, 6, 6, 6, 6, 6, 6, 6, 6, 6, 6, 6, 6, 6, 6, 6, 6, 7, 7, 7, 7, 7, 7, 7, 7, 7, 7, 7, 7, 7, 7, 7, 7, 7, 7, 7, 7, 7, 7, 7, 7, 7, 7, 7, 7, 7, 7, 7, 7, 7, 7, 7, 7, 7, 7, 7, 7, 7, 7, 7, 7, 7, 7, 7, 7, 7, 7, 7, 7, 7, 7, 7, 7, 7, 7, 7, 7, 7, 7, 7, 7, 8, 8, 8, 8, 8, 8, 8, 8, 8, 8, 8, 8, 8, 8, 8, 8, 8, 8, 8, 8, 8, 8, 8, 8, 8, 8, 8, 8, 8, 8, 8, 8, 8, 8, 8, 8, 8, 8, 8, 8, 8, 8, 8, 8, 8, 8, 8, 8, 8, 8, 8, 8, 8, 8, 8, 8, 8, 8, 8, 8, 8, 8, 8, 8, 8, 8, 8, 8, 8, 8, 8, 8, 8, 8, 8, 8, 8, 8, 8, 8, 8, 8, 8, 8, 8, 8, 8, 8, 8, 8, 8, 8, 8, 8, 8, 8, 8, 8, 8, 8, 8, 8, 8, 8, 8, 8, 8, 8, 8, 8, 8, 8, 8, 8, 8, 8, 8, 8, 8, 8, 8, 8, 8, 8, 8, 8, 8, 8]⟩
def x_math_bits_Len32 : XF := { np := 1, results := [(.inl 2, .v)], body :=
  (.seq (.region [
    ⟨some 2, .cp (.c (.s (.int .i64 0))), none⟩] (none))
  (.seq (.seq (.region [
    ⟨some 3, .cp (.t 0), none⟩,
    ⟨some 4, .bin .geq (.t 3) (.c (.s (.int .u32 65536))), none⟩] (none))
  (.cond (.t 4)
    (.seq (.region [
      ⟨some 5, .cp (.t 0), none⟩,
      ⟨some 6, .bin .shr (.t 5) (.c (.s (.int .u64 16))), none⟩,
      ⟨some 0, .cp (.t 6), none⟩] (none))
    (.region [
      ⟨some 2, .cp (.c (.s (.int .i64 16))), none⟩] (none)))
    .skip))
  (.seq (.seq (.region [
    ⟨some 7, .cp (.t 0), none⟩,
    ⟨some 8, .bin .geq (.t 7) (.c (.s (.int .u32 256))), none⟩] (none))
  (.cond (.t 8)
    (.seq (.region [
      ⟨some 9, .cp (.t 0), none⟩,
      ⟨some 10, .bin .shr (.t 9) (.c (.s (.int .u64 8))), none⟩,
      ⟨some 0, .cp (.t 10), none⟩] (none))
    (.region [
      ⟨some 11, .cp (.t 2), none⟩,
      ⟨some 12, .bin .add (.t 11) (.c (.s (.int .i64 8))), none⟩,
      ⟨some 2, .cp (.t 12), none⟩] (none)))
    .skip))
  (.seq (.region [
    ⟨some 13, .cp (.t 2), none⟩,
    ⟨some 14, .cp (.t 0), none⟩,
    ⟨some 15, .conv .u8 (.t 14), none⟩,
    ⟨some 16, .idxS (.c (.s (.string x_math_bits_Len32_s0))) (.t 15), none⟩,
    ⟨some 17, .conv .i64 (.t 16), none⟩,
    ⟨some 18, .bin .add (.t 13) (.t 17), none⟩,
    ⟨some 2, .cp (.t 18), none⟩] (none))
  .ret)))) }
def x_math_bits_Len64_s0 : ByteArray :=
  ⟨#[0, 1, 2, 2, 3, 3, 3, 3, 4, 4, 4, 4, 4, 4, 4, 4, 5, 5, 5, 5, 5, 5, 5, 5, 5, 5, 5, 5, 5, 5, 5, 5, 6, 6, 6, 6, 6, 6, 6, 6, 6, 6, 6, 6, 6, 6, 6, 6, 6, 6, 6, 6, 6, 6, 6, 6, 6, 6, 6, 6, 6, 6, 6, 6, 7, 7, 7, 7, 7, 7, 7, 7, 7, 7, 7, 7, 7, 7, 7, 7, 7, 7, 7, 7, 7, 7, 7, 7, 7, 7, 7, 7, 7, 7, 7, 7, 7, 7, 7, 7, 7, 7, 7, 7, 7, 7, 7, 7, 7, 7, 7, 7, 7, 7, 7, 7, 7, 7, 7, 7, 7, 7, 7, 7, 7, 7, 7, 7, 8, 8, 8, 8, 8, 8, 8, 8, 8, 8, 8, 8, 8, 8, 8, 8, 8, 8, 8, 8, 8, 8, 8, 8, 8, 8, 8, 8, 8, 8, 8, 8, 8, 8, 8, 8, 8, 8, 8, 8, 8, 8, 8, 8, 8, 8, 8, 8, 8, 8, 8, 8, 8, 8, 8, 8, 8, 8, 8, 8, 8, 8, 8, 8, 8, 8, 8, 8, 8, 8, 8, 8, 8, 8, 8, 8, 8, 8, 8, 8, 8, 8, 8, 8, 8, 8, 8, 8, 8, 8, 8, 8, 8, 8, 8, 8, 8, 8, 8, 8, 8, 8, 8, 8, 8, 8, 8, 8, 8, 8, 8, 8, 8, 8, 8, 8, 8, 8, 8, 8, 8, 8, 8, 8, 8, 8, 8, 8]⟩
def x_math_bits_Len64 : XF := { np := 1, results := [(.inl 2, .v)], body :=
  (.seq (.region [
    ⟨some 2, .cp (.c (.s (.int .i64 0))), none⟩] (none))
  (.seq (.seq (.region [
    ⟨some 3, .cp (.t 0), none⟩,
    ⟨some 4, .bin .geq (.t 3) (.c (.s (.int .u64 4294967296))), none⟩] (none))
  (.cond (.t 4)
    (.seq (.region [
      ⟨some 5, .cp (.t 0), none⟩,
      ⟨some 6, .bin .shr (.t 5) (.c (.s (.int .u64 32))), none⟩,
      ⟨some 0, .cp (.t 6), none⟩] (none))
    (.region [
      ⟨some 2, .cp (.c (.s (.int .i64 32))), none⟩] (none)))
    .skip))
  (.seq (.seq (.region [
    ⟨some 7, .cp (.t 0), none⟩,
    ⟨some 8, .bin .geq (.t 7) (.c (.s (.int .u64 65536))), none⟩] (none))
  (.cond (.t 8)
    (.seq (.region [
      ⟨some 9, .cp (.t 0), none⟩,
      ⟨some 10, .bin .shr (.t 9) (.c (.s (.int .u64 16))), none⟩,
      ⟨some 0, .cp (.t 10), none⟩] (none))
    (.region [
      ⟨some 11, .cp (.t 2), none⟩,
      ⟨some 12, .bin .add (.t 11) (.c (.s (.int .i64 16))), none⟩,
      ⟨some 2, .cp (.t 12), none⟩] (none)))
    .skip))
  (.seq (.seq (.region [
    ⟨some 13, .cp (.t 0), none⟩,
    ⟨some 14, .bin .geq (.t 13) (.c (.s (.int .u64 256))), none⟩] (none))
  (.cond (.t 14)
    (.seq (.region [
      ⟨some 15, .cp (.t 0), none⟩,
      ⟨some 16, .bin .shr (.t 15) (.c (.s (.int .u64 8))), none⟩,
      ⟨some 0, .cp (.t 16), none⟩] (none))
    (.region [
      ⟨some 17, .cp (.t 2), none⟩,
      ⟨some 18, .bin .add (.t 17) (.c (.s (.int .i64 8))), none⟩,
      ⟨some 2, .cp (.t 18), none⟩] (none)))
    .skip))
  (.seq (.region [
    ⟨some 19, .cp (.t 2), none⟩,
    ⟨some 20, .cp (.t 0), none⟩,
    ⟨some 21, .conv .u8 (.t 20), none⟩,
    ⟨some 22, .idxS (.c (.s (.string x_math_bits_Len64_s0))) (.t 21), none⟩,
    ⟨some 23, .conv .i64 (.t 22), none⟩,
    ⟨some 24, .bin .add (.t 19) (.t 23), none⟩,
    ⟨some 2, .cp (.t 24), none⟩] (none))
  .ret))))) }
def XP : Nat → Option XF := fun n => ([none, none, none, none, none, none, none, none, none, some x_encoding_Writer_Number, some x_encoding_Writer_Bytes, none, none, none, none, none, none, none, none, none, none, none, none, none, none, none, none, none, none, none, none, none, none, none, some x_encoding_Writer_Text, none, none, none, none, none, none, none, none, none, none, none, none, some x_encoding_magnitude, none, none, none, none, none, none, none, none, none, none, none, none, none, none, none, none, none, none, none, none, none, none, none, none, none, none, none, none, none, none, none, none, none, none, none, none, none, none, none, none, none, none, none, none, some x_sleuthlaw07_ColumnErrors, none, none, none, some x_sleuthlaw07_known, some x_sleuthref07_Check, some x_column_New, some x_column_EncodeAs, some x_sleuthref07_Form, some x_column_Column_Encode, none, none, none, none, none, none, none, none, none, none, none, none, none, some x_column_check, some x_column_made, some x_slices_Clone_int_int, some x_column_encode, some x_sleuthref07_Number, some x_sleuthref07_Zone, some x_sleuthref07_Bits, none, some x_column_zone, none, none, none, none, none, none, none, none, none, none, some x_slices_ContainsFunc_int_int, some x_column_wrong, some x_column_plain, some x_column_delta, some x_column_runs, some x_column_packed, none, some x_slices_Min_int_int, some x_slices_Max_int_int, none, some x_slices_IndexFunc_int_int, some x_math_bits_Len, some x_math_bits_Len32, some x_math_bits_Len64] : List (Option XF)).getD n none
theorem xp_encoding_Writer_Number : XP i_encoding_Writer_Number = some x_encoding_Writer_Number := rfl
theorem xp_encoding_Writer_Bytes : XP i_encoding_Writer_Bytes = some x_encoding_Writer_Bytes := rfl
theorem xp_encoding_Writer_Text : XP i_encoding_Writer_Text = some x_encoding_Writer_Text := rfl
theorem xp_encoding_magnitude : XP i_encoding_magnitude = some x_encoding_magnitude := rfl
theorem xp_sleuthlaw07_ColumnErrors : XP i_sleuthlaw07_ColumnErrors = some x_sleuthlaw07_ColumnErrors := rfl
theorem xp_sleuthlaw07_known : XP i_sleuthlaw07_known = some x_sleuthlaw07_known := rfl
theorem xp_sleuthref07_Check : XP i_sleuthref07_Check = some x_sleuthref07_Check := rfl
theorem xp_column_New : XP i_column_New = some x_column_New := rfl
theorem xp_column_EncodeAs : XP i_column_EncodeAs = some x_column_EncodeAs := rfl
theorem xp_sleuthref07_Form : XP i_sleuthref07_Form = some x_sleuthref07_Form := rfl
theorem xp_column_Column_Encode : XP i_column_Column_Encode = some x_column_Column_Encode := rfl
theorem xp_column_check : XP i_column_check = some x_column_check := rfl
theorem xp_column_made : XP i_column_made = some x_column_made := rfl
theorem xp_slices_Clone_int_int : XP i_slices_Clone_int_int = some x_slices_Clone_int_int := rfl
theorem xp_column_encode : XP i_column_encode = some x_column_encode := rfl
theorem xp_sleuthref07_Number : XP i_sleuthref07_Number = some x_sleuthref07_Number := rfl
theorem xp_sleuthref07_Zone : XP i_sleuthref07_Zone = some x_sleuthref07_Zone := rfl
theorem xp_sleuthref07_Bits : XP i_sleuthref07_Bits = some x_sleuthref07_Bits := rfl
theorem xp_column_zone : XP i_column_zone = some x_column_zone := rfl
theorem xp_slices_ContainsFunc_int_int : XP i_slices_ContainsFunc_int_int = some x_slices_ContainsFunc_int_int := rfl
theorem xp_column_wrong : XP i_column_wrong = some x_column_wrong := rfl
theorem xp_column_plain : XP i_column_plain = some x_column_plain := rfl
theorem xp_column_delta : XP i_column_delta = some x_column_delta := rfl
theorem xp_column_runs : XP i_column_runs = some x_column_runs := rfl
theorem xp_column_packed : XP i_column_packed = some x_column_packed := rfl
theorem xp_slices_Min_int_int : XP i_slices_Min_int_int = some x_slices_Min_int_int := rfl
theorem xp_slices_Max_int_int : XP i_slices_Max_int_int = some x_slices_Max_int_int := rfl
theorem xp_slices_IndexFunc_int_int : XP i_slices_IndexFunc_int_int = some x_slices_IndexFunc_int_int := rfl
theorem xp_math_bits_Len : XP i_math_bits_Len = some x_math_bits_Len := rfl
theorem xp_math_bits_Len32 : XP i_math_bits_Len32 = some x_math_bits_Len32 := rfl
theorem xp_math_bits_Len64 : XP i_math_bits_Len64 = some x_math_bits_Len64 := rfl
end Go.Proofs.Sl
