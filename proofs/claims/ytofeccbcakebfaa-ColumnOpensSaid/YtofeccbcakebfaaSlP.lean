/- A part of the proof. -/
import Derived.Test.YtofeccbcakebfaaSlA
set_option linter.unusedVariables false
set_option linter.unusedSimpArgs false
set_option linter.unnecessarySimpa false
namespace Go.Proofs.Sl
def i_encoding_Writer_Number : Nat := 9
def i_encoding_Writer_Bytes : Nat := 10
def i_encoding_NewReader : Nat := 12
def i_encoding_Reader_Number : Nat := 15
def i_encoding_Reader_Left : Nat := 17
def i_encoding_Reader_Err : Nat := 20
def i_encoding_Writer_Text : Nat := 34
def i_encoding_Reader_Text : Nat := 38
def i_encoding_Reader_Count : Nat := 39
def i_encoding_magnitude : Nat := 47
def i_encoding_Reader_ok : Nat := 50
def i_encoding_Reader_number : Nat := 51
def i_encoding_Reader_fail : Nat := 52
def i_encoding_Reader_size : Nat := 81
def i_sleuthlaw07_ColumnOpens : Nat := 95
def i_sleuthlaw07_known : Nat := 96
def i_column_New : Nat := 98
def i_column_EncodeAs : Nat := 99
def i_sleuthref07_Form : Nat := 100
def i_column_Column_Encode : Nat := 101
def i_column_Column_Values : Nat := 109
def i_column_Open : Nat := 112
def i_sleuthref07_Open : Nat := 113
def i_sleuthref07_Same : Nat := 114
def i_column_check : Nat := 115
def i_column_made : Nat := 116
def i_slices_Clone_int_int : Nat := 117
def i_column_encode : Nat := 118
def i_sleuthref07_Number : Nat := 119
def i_sleuthref07_Zone : Nat := 120
def i_sleuthref07_Bits : Nat := 121
def i_column_zone : Nat := 123
def i_column_reader_failed : Nat := 125
def i_column_reader_list : Nat := 126
def i_column_reader_runs : Nat := 127
def i_column_reader_packed : Nat := 128
def i_sleuthref07_reader_number : Nat := 129
def i_sleuthref07_packed : Nat := 130
def i_sleuthref07_reader_count : Nat := 131
def i_sleuthref07_reader_ranged : Nat := 132
def i_sleuthref07_Shortest : Nat := 133
def i_slices_ContainsFunc_int_int : Nat := 134
def i_column_wrong : Nat := 135
def i_column_plain : Nat := 136
def i_column_delta : Nat := 137
def i_column_runs : Nat := 138
def i_column_packed : Nat := 139
def i_slices_Min_int_int : Nat := 141
def i_slices_Max_int_int : Nat := 142
def i_column_reader_value : Nat := 143
def i_slices_IndexFunc_int_int : Nat := 144
def i_math_bits_Len : Nat := 145
def i_math_bits_Len32 : Nat := 146
def i_math_bits_Len64 : Nat := 147
def x_encoding_Writer_Number_l0 : XC :=
  (.seq (.seq (.region [
    ⟨some 14, .cp (.t 6), none⟩,
    ⟨some 15, .bin .gtr (.t 14) (.c (.s (.int .u64 0))), none⟩] (none))
  (.cond (.t 15)
    .skip
    (.exit 0)))
  (.seq (.block 1
    (.region [
      ⟨some 18, .cp (.t 5), none⟩,
      ⟨some 19, .bin .add (.t 18) (.c (.s (.int .i64 1))), none⟩,
      ⟨some 5, .cp (.t 19), none⟩] (none)))
  (.region [
    ⟨some 16, .cp (.t 6), none⟩,
    ⟨some 17, .bin .shr (.t 16) (.c (.s (.int .u64 8))), none⟩,
    ⟨some 6, .cp (.t 17), none⟩] (none))))
def x_encoding_Writer_Number_l1 : XC :=
  (.seq (.seq (.region [
    ⟨some 48, .cp (.t 8), none⟩,
    ⟨some 49, .bin .geq (.t 48) (.c (.s (.int .i64 0))), none⟩] (none))
  (.cond (.t 49)
    .skip
    (.exit 2)))
  (.seq (.block 3
    (.region [
      ⟨some 52, .cp (.t 0), none⟩,
      ⟨some 53, .cp (.t 0), none⟩,
      ⟨some 54, .nilchk (.t 53), none⟩,
      ⟨some 55, .faddr (.t 54) 0, none⟩,
      ⟨some 56, .load 1 false (.t 55), none⟩,
      ⟨some 57, .cp (.t 4), none⟩,
      ⟨some 58, .cp (.t 8), none⟩,
      ⟨some 59, .bin .mul (.c (.s (.int .i64 8))) (.t 58), none⟩,
      ⟨some 60, .bin .shr (.t 57) (.t 59), none⟩,
      ⟨some 61, .conv .u8 (.t 60), none⟩,
      ⟨some 62, .cp (.t 7), none⟩,
      ⟨some 63, .bin .xor (.t 61) (.t 62), none⟩,
      ⟨some 64, .bslice false 1 [(.t 63)], none⟩,
      ⟨some 65, .append 1 140737488355328 (.t 56) (.t 64), none⟩,
      ⟨some 66, .nilchk (.t 52), none⟩,
      ⟨some 67, .faddr (.t 66) 0, none⟩,
      ⟨none, .store 1 (.t 67) (.t 65), none⟩] (some [])))
  (.region [
    ⟨some 50, .cp (.t 8), none⟩,
    ⟨some 51, .bin .sub (.t 50) (.c (.s (.int .i64 1))), none⟩,
    ⟨some 8, .cp (.t 51), none⟩] (none))))
def x_encoding_Writer_Number : XF := { np := 2, results := [], body :=
  (.seq (.seq (.region [
    ⟨some 9, .cp (.t 0), none⟩,
    ⟨some 10, .eqv .p false (.t 9) (.c (.s (.pointer none))), none⟩] (none))
  (.cond (.t 10)
    .ret
    .skip))
  (.seq (.region [
    ⟨some 11, .cp (.t 1), none⟩,
    ⟨some 12, .call false i_encoding_magnitude [(.t 11)], none⟩,
    ⟨some 4, .cp (.t 12), none⟩,
    ⟨some 5, .cp (.c (.s (.int .i64 0))), none⟩] (none))
  (.seq (.seq (.region [
    ⟨some 13, .cp (.t 4), none⟩,
    ⟨some 6, .cp (.t 13), none⟩] (none))
  (.block 0
    (.loop x_encoding_Writer_Number_l0)))
  (.seq (.region [
    ⟨some 7, .cp (.c (.s (.int .u8 0))), none⟩] (none))
  (.seq (.seq (.region [
    ⟨some 20, .cp (.t 1), none⟩,
    ⟨some 21, .bin .lss (.t 20) (.c (.s (.int .i64 0))), none⟩] (none))
  (.cond (.t 21)
    (.seq (.region [
      ⟨some 7, .cp (.c (.s (.int .u8 255))), none⟩] (none))
    (.region [
      ⟨some 22, .cp (.t 0), none⟩,
      ⟨some 23, .cp (.t 0), none⟩,
      ⟨some 24, .nilchk (.t 23), none⟩,
      ⟨some 25, .faddr (.t 24) 0, none⟩,
      ⟨some 26, .load 1 false (.t 25), none⟩,
      ⟨some 27, .cp (.t 5), none⟩,
      ⟨some 28, .bin .sub (.c (.s (.int .i64 128))) (.t 27), none⟩,
      ⟨some 29, .conv .u8 (.t 28), none⟩,
      ⟨some 30, .bslice false 1 [(.t 29)], none⟩,
      ⟨some 31, .append 1 140737488355328 (.t 26) (.t 30), none⟩,
      ⟨some 32, .nilchk (.t 22), none⟩,
      ⟨some 33, .faddr (.t 32) 0, none⟩,
      ⟨none, .store 1 (.t 33) (.t 31), none⟩] (none)))
    (.region [
      ⟨some 34, .cp (.t 0), none⟩,
      ⟨some 35, .cp (.t 0), none⟩,
      ⟨some 36, .nilchk (.t 35), none⟩,
      ⟨some 37, .faddr (.t 36) 0, none⟩,
      ⟨some 38, .load 1 false (.t 37), none⟩,
      ⟨some 39, .cp (.t 5), none⟩,
      ⟨some 40, .bin .add (.c (.s (.int .i64 128))) (.t 39), none⟩,
      ⟨some 41, .conv .u8 (.t 40), none⟩,
      ⟨some 42, .bslice false 1 [(.t 41)], none⟩,
      ⟨some 43, .append 1 140737488355328 (.t 38) (.t 42), none⟩,
      ⟨some 44, .nilchk (.t 34), none⟩,
      ⟨some 45, .faddr (.t 44) 0, none⟩,
      ⟨none, .store 1 (.t 45) (.t 43), none⟩] (none))))
  (.seq (.region [
    ⟨some 46, .cp (.t 5), none⟩,
    ⟨some 47, .bin .sub (.t 46) (.c (.s (.int .i64 1))), none⟩,
    ⟨some 8, .cp (.t 47), none⟩] (none))
  (.block 2
    (.loop x_encoding_Writer_Number_l1)))))))) }
def x_encoding_Writer_Bytes : XF := { np := 1, results := [(.inl 2, .v)], body :=
  (.seq (.region [
    ⟨some 2, .cp (.c (.s (.string ⟨#[]⟩))), none⟩] (none))
  (.seq (.seq (.region [
    ⟨some 3, .cp (.t 0), none⟩,
    ⟨some 4, .eqv .p false (.t 3) (.c (.s (.pointer none))), none⟩] (none))
  (.cond (.t 4)
    (.seq (.region [
      ⟨some 2, .cp (.c (.s (.string ⟨#[]⟩))), none⟩] (none))
    .ret)
    .skip))
  (.seq (.region [
    ⟨some 5, .cp (.t 0), none⟩,
    ⟨some 6, .nilchk (.t 5), none⟩,
    ⟨some 7, .faddr (.t 6) 0, none⟩,
    ⟨some 8, .load 1 false (.t 7), none⟩,
    ⟨some 9, .toStr (.t 8), none⟩,
    ⟨some 2, .cp (.t 9), none⟩] (none))
  .ret))) }
def x_encoding_NewReader : XF := { np := 1, results := [(.inl 2, .o)], body :=
  (.seq (.region [
    ⟨some 2, .cp (.c (.s (.pointer none))), none⟩] (none))
  (.seq (.region [
    ⟨some 3, .cp (.t 0), none⟩,
    ⟨some 4, .build false [.s (.string ⟨#[]⟩), .s (.int .i64 0), .s (.int .i64 0)] [(0, 1, (.t 3))], none⟩,
    ⟨some 5, .box false (.t 4), none⟩,
    ⟨some 2, .cp (.t 5), none⟩] (none))
  .ret)) }
def x_encoding_Reader_Number : XF := { np := 1, results := [(.inl 2, .v)], body :=
  (.seq (.region [
    ⟨some 2, .cp (.c (.s (.int .i64 0))), none⟩] (none))
  (.seq (.seq (.region [
    ⟨some 6, .cp (.t 0), none⟩,
    ⟨some 7, .call false i_encoding_Reader_ok [(.t 6)], none⟩,
    ⟨some 8, .un .not (.t 7), none⟩] (none))
  (.cond (.t 8)
    (.seq (.region [
      ⟨some 2, .cp (.c (.s (.int .i64 0))), none⟩] (none))
    .ret)
    .skip))
  (.seq (.region [
    ⟨some 10, .cp (.t 0), none⟩,
    ⟨some 11, .cp (.t 0), none⟩,
    ⟨some 12, .nilchk (.t 11), none⟩,
    ⟨some 13, .faddr (.t 12) 1, none⟩,
    ⟨some 14, .load 1 false (.t 13), none⟩,
    ⟨some 15, .call false i_encoding_Reader_number [(.t 10), (.t 14)], none⟩,
    ⟨some 9, .cp (.t 15), none⟩,
    ⟨some 16, .extract (.t 9) 0, none⟩,
    ⟨some 17, .extract (.t 9) 1, none⟩,
    ⟨some 18, .extract (.t 9) 2, none⟩,
    ⟨some 3, .cp (.t 16), none⟩,
    ⟨some 4, .cp (.t 17), none⟩,
    ⟨some 5, .cp (.t 18), none⟩] (none))
  (.seq (.seq (.region [
    ⟨some 19, .cp (.t 5), none⟩,
    ⟨some 20, .bin .neq (.t 19) (.c (.s (.int .i64 0))), none⟩] (none))
  (.cond (.t 20)
    (.seq (.region [
      ⟨some 21, .cp (.t 0), none⟩,
      ⟨some 22, .cp (.t 5), none⟩,
      ⟨some 23, .call false i_encoding_Reader_fail [(.t 21), (.t 22)], none⟩] (none))
    (.seq (.region [
      ⟨some 2, .cp (.c (.s (.int .i64 0))), none⟩] (none))
    .ret))
    .skip))
  (.seq (.region [
    ⟨some 24, .cp (.t 0), none⟩,
    ⟨some 25, .cp (.t 4), none⟩,
    ⟨some 26, .nilchk (.t 24), none⟩,
    ⟨some 27, .faddr (.t 26) 1, none⟩,
    ⟨none, .store 1 (.t 27) (.t 25), none⟩] (none))
  (.seq (.region [
    ⟨some 28, .cp (.t 3), none⟩,
    ⟨some 2, .cp (.t 28), none⟩] (none))
  .ret)))))) }
def x_encoding_Reader_Left : XF := { np := 1, results := [(.inl 2, .v)], body :=
  (.seq (.region [
    ⟨some 2, .cp (.c (.s (.int .i64 0))), none⟩] (none))
  (.seq (.seq (.region [
    ⟨some 3, .cp (.t 0), none⟩,
    ⟨some 4, .eqv .p false (.t 3) (.c (.s (.pointer none))), none⟩] (none))
  (.cond (.t 4)
    (.seq (.region [
      ⟨some 2, .cp (.c (.s (.int .i64 0))), none⟩] (none))
    .ret)
    .skip))
  (.seq (.region [
    ⟨some 5, .cp (.t 0), none⟩,
    ⟨some 6, .nilchk (.t 5), none⟩,
    ⟨some 7, .faddr (.t 6) 0, none⟩,
    ⟨some 8, .load 1 false (.t 7), none⟩,
    ⟨some 9, .len true (.t 8), none⟩,
    ⟨some 10, .cp (.t 0), none⟩,
    ⟨some 11, .nilchk (.t 10), none⟩,
    ⟨some 12, .faddr (.t 11) 1, none⟩,
    ⟨some 13, .load 1 false (.t 12), none⟩,
    ⟨some 14, .bin .sub (.t 9) (.t 13), none⟩,
    ⟨some 2, .cp (.t 14), none⟩] (some []))
  .ret))) }
def x_encoding_Reader_Err : XF := { np := 1, results := [(.inl 2, .v)], body :=
  (.seq (.region [
    ⟨some 2, .cp (.c (.s (.int .i64 0))), none⟩] (none))
  (.seq (.seq (.region [
    ⟨some 3, .cp (.t 0), none⟩,
    ⟨some 4, .eqv .p false (.t 3) (.c (.s (.pointer none))), none⟩] (none))
  (.cond (.t 4)
    (.seq (.region [
      ⟨some 2, .cp (.c (.s (.int .i64 1))), none⟩] (none))
    .ret)
    .skip))
  (.seq (.region [
    ⟨some 5, .cp (.t 0), none⟩,
    ⟨some 6, .nilchk (.t 5), none⟩,
    ⟨some 7, .faddr (.t 6) 2, none⟩,
    ⟨some 8, .load 1 false (.t 7), none⟩,
    ⟨some 2, .cp (.t 8), none⟩] (none))
  .ret))) }
def x_encoding_Writer_Text : XF := { np := 2, results := [], body :=
  (.seq (.seq (.region [
    ⟨some 4, .cp (.t 0), none⟩,
    ⟨some 5, .eqv .p false (.t 4) (.c (.s (.pointer none))), none⟩] (none))
  (.cond (.t 5)
    .ret
    .skip))
  (.seq (.region [
    ⟨some 6, .cp (.t 0), none⟩,
    ⟨some 7, .cp (.t 1), none⟩,
    ⟨some 8, .len true (.t 7), none⟩,
    ⟨some 9, .call false i_encoding_Writer_Number [(.t 6), (.t 8)], none⟩] (none))
  (.region [
    ⟨some 10, .cp (.t 0), none⟩,
    ⟨some 11, .cp (.t 0), none⟩,
    ⟨some 12, .nilchk (.t 11), none⟩,
    ⟨some 13, .faddr (.t 12) 0, none⟩,
    ⟨some 14, .load 1 false (.t 13), none⟩,
    ⟨some 15, .cp (.t 1), none⟩,
    ⟨some 16, .append 1 140737488355328 (.t 14) (.t 15), none⟩,
    ⟨some 17, .nilchk (.t 10), none⟩,
    ⟨some 18, .faddr (.t 17) 0, none⟩,
    ⟨none, .store 1 (.t 18) (.t 16), none⟩] (none)))) }
def x_encoding_Reader_Text : XF := { np := 2, results := [(.inl 4, .v)], body :=
  (.seq (.region [
    ⟨some 4, .cp (.c (.s (.string ⟨#[]⟩))), none⟩] (none))
  (.seq (.seq (.region [
    ⟨some 8, .cp (.t 0), none⟩,
    ⟨some 9, .call false i_encoding_Reader_ok [(.t 8)], none⟩,
    ⟨some 10, .un .not (.t 9), none⟩] (none))
  (.cond (.t 10)
    (.seq (.region [
      ⟨some 4, .cp (.c (.s (.string ⟨#[]⟩))), none⟩] (none))
    .ret)
    .skip))
  (.seq (.region [
    ⟨some 12, .cp (.t 0), none⟩,
    ⟨some 13, .cp (.t 1), none⟩,
    ⟨some 14, .call false i_encoding_Reader_size [(.t 12), (.t 13), (.c (.s (.int .i64 5)))], none⟩,
    ⟨some 11, .cp (.t 14), none⟩,
    ⟨some 15, .extract (.t 11) 0, none⟩,
    ⟨some 16, .extract (.t 11) 1, none⟩,
    ⟨some 17, .extract (.t 11) 2, none⟩,
    ⟨some 5, .cp (.t 15), none⟩,
    ⟨some 6, .cp (.t 16), none⟩,
    ⟨some 7, .cp (.t 17), none⟩] (none))
  (.seq (.seq (.region [
    ⟨some 18, .cp (.t 7), none⟩,
    ⟨some 19, .un .not (.t 18), none⟩] (none))
  (.cond (.t 19)
    (.seq (.region [
      ⟨some 4, .cp (.c (.s (.string ⟨#[]⟩))), none⟩] (none))
    .ret)
    .skip))
  (.seq (.region [
    ⟨some 20, .cp (.t 0), none⟩,
    ⟨some 21, .cp (.t 6), none⟩,
    ⟨some 22, .cp (.t 5), none⟩,
    ⟨some 23, .bin .add (.t 21) (.t 22), none⟩,
    ⟨some 24, .nilchk (.t 20), none⟩,
    ⟨some 25, .faddr (.t 24) 1, none⟩,
    ⟨none, .store 1 (.t 25) (.t 23), none⟩] (none))
  (.seq (.region [
    ⟨some 26, .cp (.t 0), none⟩,
    ⟨some 27, .nilchk (.t 26), none⟩,
    ⟨some 28, .faddr (.t 27) 0, none⟩,
    ⟨some 29, .load 1 false (.t 28), none⟩,
    ⟨some 30, .cp (.t 6), none⟩,
    ⟨some 31, .cp (.t 0), none⟩,
    ⟨some 32, .nilchk (.t 31), none⟩,
    ⟨some 33, .faddr (.t 32) 1, none⟩,
    ⟨some 34, .load 1 false (.t 33), none⟩,
    ⟨some 35, .slStr (.t 29) (some (.t 30)) (some (.t 34)), none⟩,
    ⟨some 4, .cp (.t 35), none⟩] (some []))
  .ret)))))) }
def x_encoding_Reader_Count : XF := { np := 2, results := [(.inl 4, .v)], body :=
  (.seq (.region [
    ⟨some 4, .cp (.c (.s (.int .i64 0))), none⟩] (none))
  (.seq (.seq (.region [
    ⟨some 8, .cp (.t 0), none⟩,
    ⟨some 9, .call false i_encoding_Reader_ok [(.t 8)], none⟩,
    ⟨some 10, .un .not (.t 9), none⟩] (none))
  (.cond (.t 10)
    (.seq (.region [
      ⟨some 4, .cp (.c (.s (.int .i64 0))), none⟩] (none))
    .ret)
    .skip))
  (.seq (.region [
    ⟨some 12, .cp (.t 0), none⟩,
    ⟨some 13, .cp (.t 1), none⟩,
    ⟨some 14, .call false i_encoding_Reader_size [(.t 12), (.t 13), (.c (.s (.int .i64 6)))], none⟩,
    ⟨some 11, .cp (.t 14), none⟩,
    ⟨some 15, .extract (.t 11) 0, none⟩,
    ⟨some 16, .extract (.t 11) 1, none⟩,
    ⟨some 17, .extract (.t 11) 2, none⟩,
    ⟨some 5, .cp (.t 15), none⟩,
    ⟨some 6, .cp (.t 16), none⟩,
    ⟨some 7, .cp (.t 17), none⟩] (none))
  (.seq (.seq (.region [
    ⟨some 18, .cp (.t 7), none⟩] (none))
  (.cond (.t 18)
    (.region [
      ⟨some 19, .cp (.t 0), none⟩,
      ⟨some 20, .cp (.t 6), none⟩,
      ⟨some 21, .nilchk (.t 19), none⟩,
      ⟨some 22, .faddr (.t 21) 1, none⟩,
      ⟨none, .store 1 (.t 22) (.t 20), none⟩] (none))
    .skip))
  (.seq (.region [
    ⟨some 23, .cp (.t 5), none⟩,
    ⟨some 4, .cp (.t 23), none⟩] (none))
  .ret))))) }
def x_encoding_magnitude : XF := { np := 1, results := [(.inl 2, .v)], body :=
  (.seq (.region [
    ⟨some 2, .cp (.c (.s (.int .u64 0))), none⟩] (none))
  (.seq (.seq (.region [
    ⟨some 3, .cp (.t 0), none⟩,
    ⟨some 4, .bin .lss (.t 3) (.c (.s (.int .i64 0))), none⟩] (none))
  (.cond (.t 4)
    (.seq (.region [
      ⟨some 5, .cp (.t 0), none⟩,
      ⟨some 6, .conv .u64 (.t 5), none⟩,
      ⟨some 7, .un .neg (.t 6), none⟩,
      ⟨some 2, .cp (.t 7), none⟩] (none))
    .ret)
    .skip))
  (.seq (.region [
    ⟨some 8, .cp (.t 0), none⟩,
    ⟨some 9, .conv .u64 (.t 8), none⟩,
    ⟨some 2, .cp (.t 9), none⟩] (none))
  .ret))) }
def x_encoding_Reader_ok : XF := { np := 1, results := [(.inl 2, .v)], body :=
  (.seq (.region [
    ⟨some 2, .cp (.c (.s (.bool false))), none⟩] (none))
  (.seq (.region [
    ⟨some 3, .cp (.t 0), none⟩,
    ⟨some 4, .eqv .p true (.t 3) (.c (.s (.pointer none))), none⟩,
    ⟨some 5, .cp (.t 4), none⟩,
    ⟨some 6, .cp (.t 0), some (5, true)⟩,
    ⟨some 7, .nilchk (.t 6), some (5, true)⟩,
    ⟨some 8, .faddr (.t 7) 2, some (5, true)⟩,
    ⟨some 9, .load 1 false (.t 8), some (5, true)⟩,
    ⟨some 10, .bin .eql (.t 9) (.c (.s (.int .i64 0))), some (5, true)⟩,
    ⟨some 11, .pick (.t 5) (.t 10) (.c (.s (.bool false))), none⟩,
    ⟨some 2, .cp (.t 11), none⟩] (none))
  .ret)) }
def x_encoding_Reader_number_l0 : XC :=
  (.seq (.region [
    ⟨some 48, .bin .lss (.t 47) (.t 46), none⟩] (none))
  (.seq (.cond (.t 48)
    .skip
    (.exit 0))
  (.seq (.block 1
    (.seq (.region [
      ⟨some 49, .cp (.t 47), none⟩,
      ⟨some 11, .cp (.t 49), none⟩] (none))
    (.seq (.region [
      ⟨some 50, .cp (.t 0), none⟩,
      ⟨some 51, .nilchk (.t 50), none⟩,
      ⟨some 52, .faddr (.t 51) 0, none⟩,
      ⟨some 53, .load 1 false (.t 52), none⟩,
      ⟨some 54, .cp (.t 1), none⟩,
      ⟨some 55, .cp (.t 11), none⟩,
      ⟨some 56, .bin .add (.t 54) (.t 55), none⟩,
      ⟨some 57, .idxS (.t 53) (.t 56), none⟩,
      ⟨some 58, .cp (.t 9), none⟩,
      ⟨some 59, .bin .xor (.t 57) (.t 58), none⟩,
      ⟨some 12, .cp (.t 59), none⟩] (none))
    (.seq (.seq (.region [
      ⟨some 60, .cp (.t 11), none⟩,
      ⟨some 61, .bin .eql (.t 60) (.c (.s (.int .i64 0))), none⟩,
      ⟨some 62, .cp (.t 61), none⟩,
      ⟨some 63, .cp (.t 12), some (62, true)⟩,
      ⟨some 64, .bin .eql (.t 63) (.c (.s (.int .u8 0))), some (62, true)⟩,
      ⟨some 65, .pick (.t 62) (.t 64) (.c (.s (.bool false))), none⟩] (none))
    (.cond (.t 65)
      (.seq (.region [
        ⟨some 4, .cp (.c (.s (.int .i64 0))), none⟩,
        ⟨some 5, .cp (.c (.s (.int .i64 0))), none⟩,
        ⟨some 6, .cp (.c (.s (.int .i64 3))), none⟩] (none))
      .ret)
      .skip))
    (.region [
      ⟨some 66, .cp (.t 10), none⟩,
      ⟨some 67, .bin .shl (.t 66) (.c (.s (.int .u64 8))), none⟩,
      ⟨some 68, .cp (.t 12), none⟩,
      ⟨some 69, .conv .u64 (.t 68), none⟩,
      ⟨some 70, .bin .or (.t 67) (.t 69), none⟩,
      ⟨some 10, .cp (.t 70), none⟩] (none))))))
  (.region [
    ⟨some 71, .bin .add (.t 47) (.c (.s (.int .i64 1))), none⟩,
    ⟨some 47, .cp (.t 71), none⟩] (none)))))
def x_encoding_Reader_number : XF := { np := 2, results := [(.inl 4, .v), (.inl 5, .v), (.inl 6, .v)], body :=
  (.seq (.region [
    ⟨some 4, .cp (.c (.s (.int .i64 0))), none⟩,
    ⟨some 5, .cp (.c (.s (.int .i64 0))), none⟩,
    ⟨some 6, .cp (.c (.s (.int .i64 0))), none⟩] (none))
  (.seq (.seq (.region [
    ⟨some 13, .cp (.t 1), none⟩,
    ⟨some 14, .cp (.t 0), none⟩,
    ⟨some 15, .nilchk (.t 14), none⟩,
    ⟨some 16, .faddr (.t 15) 0, none⟩,
    ⟨some 17, .load 1 false (.t 16), none⟩,
    ⟨some 18, .len true (.t 17), none⟩,
    ⟨some 19, .bin .geq (.t 13) (.t 18), none⟩] (none))
  (.cond (.t 19)
    (.seq (.region [
      ⟨some 4, .cp (.c (.s (.int .i64 0))), none⟩,
      ⟨some 5, .cp (.c (.s (.int .i64 0))), none⟩,
      ⟨some 6, .cp (.c (.s (.int .i64 4))), none⟩] (none))
    .ret)
    .skip))
  (.seq (.region [
    ⟨some 20, .cp (.t 0), none⟩,
    ⟨some 21, .nilchk (.t 20), none⟩,
    ⟨some 22, .faddr (.t 21) 0, none⟩,
    ⟨some 23, .load 1 false (.t 22), none⟩,
    ⟨some 24, .cp (.t 1), none⟩,
    ⟨some 25, .idxS (.t 23) (.t 24), none⟩,
    ⟨some 26, .conv .i64 (.t 25), none⟩,
    ⟨some 27, .bin .sub (.t 26) (.c (.s (.int .i64 128))), none⟩,
    ⟨some 7, .cp (.t 27), none⟩,
    ⟨some 8, .cp (.c (.s (.bool false))), none⟩] (none))
  (.seq (.seq (.region [
    ⟨some 28, .cp (.t 7), none⟩,
    ⟨some 29, .bin .lss (.t 28) (.c (.s (.int .i64 0))), none⟩] (none))
  (.cond (.t 29)
    (.region [
      ⟨some 30, .cp (.t 7), none⟩,
      ⟨some 31, .un .neg (.t 30), none⟩,
      ⟨some 7, .cp (.t 31), none⟩,
      ⟨some 8, .cp (.c (.s (.bool true))), none⟩] (none))
    .skip))
  (.seq (.seq (.region [
    ⟨some 32, .cp (.t 7), none⟩,
    ⟨some 33, .bin .gtr (.t 32) (.c (.s (.int .i64 8))), none⟩] (none))
  (.cond (.t 33)
    (.seq (.region [
      ⟨some 4, .cp (.c (.s (.int .i64 0))), none⟩,
      ⟨some 5, .cp (.c (.s (.int .i64 0))), none⟩,
      ⟨some 6, .cp (.c (.s (.int .i64 3))), none⟩] (none))
    .ret)
    .skip))
  (.seq (.region [
    ⟨some 34, .cp (.t 1), none⟩,
    ⟨some 35, .bin .add (.t 34) (.c (.s (.int .i64 1))), none⟩,
    ⟨some 1, .cp (.t 35), none⟩] (none))
  (.seq (.seq (.region [
    ⟨some 36, .cp (.t 0), none⟩,
    ⟨some 37, .nilchk (.t 36), none⟩,
    ⟨some 38, .faddr (.t 37) 0, none⟩,
    ⟨some 39, .load 1 false (.t 38), none⟩,
    ⟨some 40, .len true (.t 39), none⟩,
    ⟨some 41, .cp (.t 1), none⟩,
    ⟨some 42, .bin .sub (.t 40) (.t 41), none⟩,
    ⟨some 43, .cp (.t 7), none⟩,
    ⟨some 44, .bin .lss (.t 42) (.t 43), none⟩] (none))
  (.cond (.t 44)
    (.seq (.region [
      ⟨some 4, .cp (.c (.s (.int .i64 0))), none⟩,
      ⟨some 5, .cp (.c (.s (.int .i64 0))), none⟩,
      ⟨some 6, .cp (.c (.s (.int .i64 4))), none⟩] (none))
    .ret)
    .skip))
  (.seq (.region [
    ⟨some 9, .cp (.c (.s (.int .u8 0))), none⟩] (none))
  (.seq (.seq (.region [
    ⟨some 45, .cp (.t 8), none⟩] (none))
  (.cond (.t 45)
    (.region [
      ⟨some 9, .cp (.c (.s (.int .u8 255))), none⟩] (none))
    .skip))
  (.seq (.region [
    ⟨some 10, .cp (.c (.s (.int .u64 0))), none⟩] (none))
  (.seq (.seq (.region [
    ⟨some 46, .cp (.t 7), none⟩,
    ⟨some 47, .cp (.c (.s (.int .i64 0))), none⟩] (none))
  (.block 0
    (.loop x_encoding_Reader_number_l0)))
  (.seq (.block 2
    (.seq (.seq (.region [
      ⟨some 73, .cp (.t 8), none⟩,
      ⟨some 74, .un .not (.t 73), none⟩,
      ⟨some 75, .cp (.t 74), none⟩,
      ⟨some 76, .cp (.t 10), some (75, true)⟩,
      ⟨some 77, .bin .gtr (.t 76) (.c (.s (.int .u64 9223372036854775807))), some (75, true)⟩,
      ⟨some 78, .pick (.t 75) (.t 77) (.c (.s (.bool false))), none⟩,
      ⟨some 72, .cp (.t 78), none⟩] (none))
    (.cond (.t 72)
      .skip
      (.region [
        ⟨some 79, .cp (.t 10), none⟩,
        ⟨some 80, .bin .gtr (.t 79) (.c (.s (.int .u64 9223372036854775808))), none⟩,
        ⟨some 72, .cp (.t 80), none⟩] (none))))
    (.cond (.t 72)
      (.seq (.region [
        ⟨some 4, .cp (.c (.s (.int .i64 0))), none⟩,
        ⟨some 5, .cp (.c (.s (.int .i64 0))), none⟩,
        ⟨some 6, .cp (.c (.s (.int .i64 3))), none⟩] (none))
      .ret)
      (.seq (.region [
        ⟨some 82, .cp (.t 8), none⟩,
        ⟨some 81, .cp (.t 82), none⟩] (none))
      (.cond (.t 81)
        (.seq (.region [
          ⟨some 83, .cp (.t 10), none⟩,
          ⟨some 84, .un .neg (.t 83), none⟩,
          ⟨some 85, .conv .i64 (.t 84), none⟩,
          ⟨some 86, .cp (.t 1), none⟩,
          ⟨some 87, .cp (.t 7), none⟩,
          ⟨some 88, .bin .add (.t 86) (.t 87), none⟩,
          ⟨some 4, .cp (.t 85), none⟩,
          ⟨some 5, .cp (.t 88), none⟩,
          ⟨some 6, .cp (.c (.s (.int .i64 0))), none⟩] (none))
        .ret)
        .skip)))))
  (.seq (.region [
    ⟨some 89, .cp (.t 10), none⟩,
    ⟨some 90, .conv .i64 (.t 89), none⟩,
    ⟨some 91, .cp (.t 1), none⟩,
    ⟨some 92, .cp (.t 7), none⟩,
    ⟨some 93, .bin .add (.t 91) (.t 92), none⟩,
    ⟨some 4, .cp (.t 90), none⟩,
    ⟨some 5, .cp (.t 93), none⟩,
    ⟨some 6, .cp (.c (.s (.int .i64 0))), none⟩] (none))
  .ret))))))))))))) }
def x_encoding_Reader_fail : XF := { np := 2, results := [], body :=
  (.seq (.region [
    ⟨some 4, .cp (.t 0), none⟩,
    ⟨some 5, .nilchk (.t 4), none⟩,
    ⟨some 6, .faddr (.t 5) 2, none⟩,
    ⟨some 7, .load 1 false (.t 6), none⟩,
    ⟨some 8, .bin .eql (.t 7) (.c (.s (.int .i64 0))), none⟩] (none))
  (.cond (.t 8)
    (.region [
      ⟨some 9, .cp (.t 0), none⟩,
      ⟨some 10, .cp (.t 1), none⟩,
      ⟨some 11, .nilchk (.t 9), none⟩,
      ⟨some 12, .faddr (.t 11) 2, none⟩,
      ⟨none, .store 1 (.t 12) (.t 10), none⟩] (none))
    .skip)) }
def x_encoding_Reader_size : XF := { np := 3, results := [(.inl 6, .v), (.inl 7, .v), (.inl 8, .v)], body :=
  (.seq (.region [
    ⟨some 6, .cp (.c (.s (.int .i64 0))), none⟩,
    ⟨some 7, .cp (.c (.s (.int .i64 0))), none⟩,
    ⟨some 8, .cp (.c (.s (.bool false))), none⟩] (none))
  (.seq (.region [
    ⟨some 11, .cp (.t 0), none⟩,
    ⟨some 12, .cp (.t 0), none⟩,
    ⟨some 13, .nilchk (.t 12), none⟩,
    ⟨some 14, .faddr (.t 13) 1, none⟩,
    ⟨some 15, .load 1 false (.t 14), none⟩,
    ⟨some 16, .call false i_encoding_Reader_number [(.t 11), (.t 15)], none⟩,
    ⟨some 10, .cp (.t 16), none⟩,
    ⟨some 17, .extract (.t 10) 0, none⟩,
    ⟨some 18, .extract (.t 10) 1, none⟩,
    ⟨some 19, .extract (.t 10) 2, none⟩,
    ⟨some 6, .cp (.t 17), none⟩,
    ⟨some 7, .cp (.t 18), none⟩,
    ⟨some 9, .cp (.t 19), none⟩] (none))
  (.seq (.block 0
    (.seq (.region [
      ⟨some 21, .cp (.t 9), none⟩,
      ⟨some 22, .bin .neq (.t 21) (.c (.s (.int .i64 0))), none⟩,
      ⟨some 20, .cp (.t 22), none⟩] (none))
    (.cond (.t 20)
      .skip
      (.seq (.region [
        ⟨some 24, .cp (.t 6), none⟩,
        ⟨some 25, .bin .lss (.t 24) (.c (.s (.int .i64 0))), none⟩,
        ⟨some 23, .cp (.t 25), none⟩] (none))
      (.cond (.t 23)
        (.region [
          ⟨some 9, .cp (.c (.s (.int .i64 3))), none⟩] (none))
        (.seq (.region [
          ⟨some 27, .cp (.t 6), none⟩,
          ⟨some 28, .cp (.t 1), none⟩,
          ⟨some 29, .bin .gtr (.t 27) (.t 28), none⟩,
          ⟨some 26, .cp (.t 29), none⟩] (none))
        (.cond (.t 26)
          (.region [
            ⟨some 30, .cp (.t 2), none⟩,
            ⟨some 9, .cp (.t 30), none⟩] (none))
          (.seq (.region [
            ⟨some 32, .cp (.t 0), none⟩,
            ⟨some 33, .nilchk (.t 32), none⟩,
            ⟨some 34, .faddr (.t 33) 0, none⟩,
            ⟨some 35, .load 1 false (.t 34), none⟩,
            ⟨some 36, .len true (.t 35), none⟩,
            ⟨some 37, .cp (.t 7), none⟩,
            ⟨some 38, .bin .sub (.t 36) (.t 37), none⟩,
            ⟨some 39, .cp (.t 6), none⟩,
            ⟨some 40, .bin .lss (.t 38) (.t 39), none⟩,
            ⟨some 31, .cp (.t 40), none⟩] (none))
          (.cond (.t 31)
            (.region [
              ⟨some 9, .cp (.c (.s (.int .i64 4))), none⟩] (none))
            .skip)))))))))
  (.seq (.seq (.region [
    ⟨some 41, .cp (.t 9), none⟩,
    ⟨some 42, .bin .neq (.t 41) (.c (.s (.int .i64 0))), none⟩] (none))
  (.cond (.t 42)
    (.seq (.region [
      ⟨some 43, .cp (.t 0), none⟩,
      ⟨some 44, .cp (.t 9), none⟩,
      ⟨some 45, .call false i_encoding_Reader_fail [(.t 43), (.t 44)], none⟩] (none))
    (.seq (.region [
      ⟨some 6, .cp (.c (.s (.int .i64 0))), none⟩,
      ⟨some 7, .cp (.c (.s (.int .i64 0))), none⟩,
      ⟨some 8, .cp (.c (.s (.bool false))), none⟩] (none))
    .ret))
    .skip))
  (.seq (.region [
    ⟨some 46, .cp (.t 6), none⟩,
    ⟨some 47, .cp (.t 7), none⟩,
    ⟨some 6, .cp (.t 46), none⟩,
    ⟨some 7, .cp (.t 47), none⟩,
    ⟨some 8, .cp (.c (.s (.bool true))), none⟩] (none))
  .ret))))) }
def x_sleuthlaw07_ColumnOpens : XF := { np := 1, results := [(.inl 2, .v)], body :=
  (.seq (.region [
    ⟨some 2, .cp (.c (.s (.bool false))), none⟩] (none))
  (.seq (.seq (.region [
    ⟨some 7, .call false i_sleuthlaw07_known [], none⟩,
    ⟨some 8, .un .not (.t 7), none⟩,
    ⟨some 9, .cp (.t 8), none⟩,
    ⟨some 10, .cp (.t 0), some (9, false)⟩,
    ⟨some 11, .len true (.t 10), some (9, false)⟩,
    ⟨some 12, .bin .gtr (.t 11) (.c (.s (.int .i64 200))), some (9, false)⟩,
    ⟨some 13, .pick (.t 9) (.c (.s (.bool true))) (.t 12), none⟩] (none))
  (.cond (.t 13)
    (.seq (.region [
      ⟨some 14, .call false i_sleuthlaw07_known [], none⟩,
      ⟨some 2, .cp (.t 14), none⟩] (none))
    .ret)
    .skip))
  (.seq (.region [
    ⟨some 16, .cp (.t 0), none⟩,
    ⟨some 17, .call false i_column_Open [(.t 16)], none⟩,
    ⟨some 15, .cp (.t 17), none⟩,
    ⟨some 18, .extract (.t 15) 0, none⟩,
    ⟨some 19, .extract (.t 15) 1, none⟩,
    ⟨some 3, .cp (.t 18), none⟩,
    ⟨some 4, .cp (.t 19), none⟩] (none))
  (.seq (.region [
    ⟨some 21, .cp (.t 0), none⟩,
    ⟨some 22, .call false i_sleuthref07_Open [(.t 21)], none⟩,
    ⟨some 20, .cp (.t 22), none⟩,
    ⟨some 23, .extract (.t 20) 0, none⟩,
    ⟨some 24, .extract (.t 20) 1, none⟩,
    ⟨some 5, .cp (.t 23), none⟩,
    ⟨some 6, .cp (.t 24), none⟩] (none))
  (.seq (.seq (.region [
    ⟨some 25, .cp (.t 4), none⟩,
    ⟨some 26, .cp (.t 6), none⟩,
    ⟨some 27, .bin .neq (.t 25) (.t 26), none⟩,
    ⟨some 28, .cp (.t 27), none⟩,
    ⟨some 29, .cp (.t 3), some (28, false)⟩,
    ⟨some 30, .eqv .p true (.t 29) (.c (.s (.pointer none))), some (28, false)⟩,
    ⟨some 31, .cp (.t 6), some (28, false)⟩,
    ⟨some 32, .bin .eql (.t 31) (.c (.s (.int .i64 0))), some (28, false)⟩,
    ⟨some 33, .eqv .b true (.t 30) (.t 32), some (28, false)⟩,
    ⟨some 34, .pick (.t 28) (.c (.s (.bool true))) (.t 33), none⟩] (none))
  (.cond (.t 34)
    (.seq (.region [
      ⟨some 2, .cp (.c (.s (.bool false))), none⟩] (none))
    .ret)
    .skip))
  (.seq (.region [
    ⟨some 35, .cp (.t 3), none⟩,
    ⟨some 36, .eqv .p false (.t 35) (.c (.s (.pointer none))), none⟩,
    ⟨some 37, .cp (.t 36), none⟩,
    ⟨some 38, .cp (.t 3), some (37, false)⟩,
    ⟨some 39, .call false i_column_Column_Values [(.t 38)], some (37, false)⟩,
    ⟨some 40, .cp (.t 5), some (37, false)⟩,
    ⟨some 41, .call false i_sleuthref07_Same [(.t 39), (.t 40)], some (37, false)⟩,
    ⟨some 42, .cp (.t 41), some (37, false)⟩,
    ⟨some 43, .cp (.t 3), some (42, true)⟩,
    ⟨some 44, .call false i_column_Column_Encode [(.t 43)], some (42, true)⟩,
    ⟨some 45, .cp (.t 0), some (42, true)⟩,
    ⟨some 46, .bin .eql (.t 44) (.t 45), some (42, true)⟩,
    ⟨some 47, .pick (.t 42) (.t 46) (.c (.s (.bool false))), some (37, false)⟩,
    ⟨some 48, .pick (.t 37) (.c (.s (.bool true))) (.t 47), none⟩,
    ⟨some 2, .cp (.t 48), none⟩] (none))
  .ret)))))) }
def x_sleuthlaw07_known : XF := { np := 0, results := [(.inl 0, .v)], body :=
  (.seq (.region [
    ⟨some 0, .cp (.c (.s (.bool false))), none⟩] (none))
  (.seq (.region [
    ⟨some 6, .bslice false 1 [(.c (.s (.int .i64 5))), (.c (.s (.int .i64 5))), (.c (.s (.int .i64 5)))], none⟩,
    ⟨some 7, .call false i_column_New [(.t 6)], none⟩,
    ⟨some 5, .cp (.t 7), none⟩,
    ⟨some 8, .extract (.t 5) 0, none⟩,
    ⟨some 9, .extract (.t 5) 1, none⟩,
    ⟨some 1, .cp (.t 8), none⟩,
    ⟨some 2, .cp (.t 9), none⟩] (none))
  (.seq (.region [
    ⟨some 11, .bslice false 1 [(.c (.s (.int .i64 3))), (.c (.s (.int .i64 0))), (.c (.s (.int .i64 2))), (.c (.s (.int .i64 1)))], none⟩,
    ⟨some 12, .call false i_column_EncodeAs [(.c (.s (.int .i64 4))), (.t 11)], none⟩,
    ⟨some 10, .cp (.t 12), none⟩,
    ⟨some 13, .extract (.t 10) 0, none⟩,
    ⟨some 14, .extract (.t 10) 1, none⟩,
    ⟨some 3, .cp (.t 13), none⟩,
    ⟨some 4, .cp (.t 14), none⟩] (none))
  (.seq (.region [
    ⟨some 15, .cp (.t 2), none⟩,
    ⟨some 16, .bin .eql (.t 15) (.c (.s (.int .i64 0))), none⟩,
    ⟨some 17, .cp (.t 16), none⟩,
    ⟨some 18, .cp (.t 4), some (17, true)⟩,
    ⟨some 19, .bin .eql (.t 18) (.c (.s (.int .i64 0))), some (17, true)⟩,
    ⟨some 20, .pick (.t 17) (.t 19) (.c (.s (.bool false))), none⟩,
    ⟨some 21, .cp (.t 20), none⟩,
    ⟨some 22, .cp (.t 1), some (21, true)⟩,
    ⟨some 23, .eqv .p true (.t 22) (.c (.s (.pointer none))), some (21, true)⟩,
    ⟨some 24, .pick (.t 21) (.t 23) (.c (.s (.bool false))), none⟩,
    ⟨some 25, .cp (.t 24), none⟩,
    ⟨some 26, .cp (.t 1), some (25, true)⟩,
    ⟨some 27, .call false i_column_Column_Encode [(.t 26)], some (25, true)⟩,
    ⟨some 28, .bin .eql (.t 27) (.c (.s (.string ⟨#[129, 2, 129, 3, 129, 5, 128, 128]⟩))), some (25, true)⟩,
    ⟨some 29, .pick (.t 25) (.t 28) (.c (.s (.bool false))), none⟩,
    ⟨some 30, .cp (.t 29), none⟩,
    ⟨some 31, .cp (.t 3), some (30, true)⟩,
    ⟨some 32, .bin .eql (.t 31) (.c (.s (.string ⟨#[129, 4, 129, 4, 128, 129, 2, 129, 1, 99]⟩))), some (30, true)⟩,
    ⟨some 33, .pick (.t 30) (.t 32) (.c (.s (.bool false))), none⟩,
    ⟨some 0, .cp (.t 33), none⟩] (none))
  .ret)))) }
def x_column_New : XF := { np := 1, results := [(.inl 2, .f), (.inl 3, .v)], body :=
  (.seq (.region [
    ⟨some 2, .cp (.c (.s (.pointer none))), none⟩,
    ⟨some 3, .cp (.c (.s (.int .i64 0))), none⟩] (none))
  (.seq (.seq (.region [
    ⟨some 5, .cp (.t 0), none⟩,
    ⟨some 6, .call false i_column_check [(.t 5)], none⟩,
    ⟨some 4, .cp (.t 6), none⟩] (none))
  (.seq (.region [
    ⟨some 7, .cp (.t 4), none⟩,
    ⟨some 8, .bin .neq (.t 7) (.c (.s (.int .i64 0))), none⟩] (none))
  (.cond (.t 8)
    (.seq (.region [
      ⟨some 9, .cp (.t 4), none⟩,
      ⟨some 2, .cp (.c (.s (.pointer none))), none⟩,
      ⟨some 3, .cp (.t 9), none⟩] (none))
    .ret)
    .skip)))
  (.seq (.region [
    ⟨some 10, .cp (.t 0), none⟩,
    ⟨some 11, .call false i_slices_Clone_int_int [(.t 10)], none⟩,
    ⟨some 12, .call false i_column_made [(.t 11)], none⟩,
    ⟨some 2, .cp (.t 12), none⟩,
    ⟨some 3, .cp (.c (.s (.int .i64 0))), none⟩] (none))
  .ret))) }
def x_column_EncodeAs : XF := { np := 2, results := [(.inl 4, .v), (.inl 5, .v)], body :=
  (.seq (.region [
    ⟨some 4, .cp (.c (.s (.string ⟨#[]⟩))), none⟩,
    ⟨some 5, .cp (.c (.s (.int .i64 0))), none⟩] (none))
  (.seq (.seq (.region [
    ⟨some 7, .cp (.t 0), none⟩,
    ⟨some 8, .bin .lss (.t 7) (.c (.s (.int .i64 1))), none⟩,
    ⟨some 9, .cp (.t 8), none⟩,
    ⟨some 10, .cp (.t 0), some (9, false)⟩,
    ⟨some 11, .bin .gtr (.t 10) (.c (.s (.int .i64 4))), some (9, false)⟩,
    ⟨some 12, .pick (.t 9) (.c (.s (.bool true))) (.t 11), none⟩] (none))
  (.cond (.t 12)
    (.seq (.region [
      ⟨some 4, .cp (.c (.s (.string ⟨#[]⟩))), none⟩,
      ⟨some 5, .cp (.c (.s (.int .i64 12))), none⟩] (none))
    .ret)
    .skip))
  (.seq (.seq (.region [
    ⟨some 13, .cp (.t 1), none⟩,
    ⟨some 14, .call false i_column_check [(.t 13)], none⟩,
    ⟨some 6, .cp (.t 14), none⟩] (none))
  (.seq (.region [
    ⟨some 15, .cp (.t 6), none⟩,
    ⟨some 16, .bin .neq (.t 15) (.c (.s (.int .i64 0))), none⟩] (none))
  (.cond (.t 16)
    (.seq (.region [
      ⟨some 17, .cp (.t 6), none⟩,
      ⟨some 4, .cp (.c (.s (.string ⟨#[]⟩))), none⟩,
      ⟨some 5, .cp (.t 17), none⟩] (none))
    .ret)
    .skip)))
  (.seq (.region [
    ⟨some 18, .cp (.t 0), none⟩,
    ⟨some 19, .cp (.t 1), none⟩,
    ⟨some 20, .call false i_column_encode [(.t 18), (.t 19)], none⟩,
    ⟨some 4, .cp (.t 20), none⟩,
    ⟨some 5, .cp (.c (.s (.int .i64 0))), none⟩] (none))
  .ret)))) }
def x_sleuthref07_Form_l0 : XC :=
  (.seq (.seq (.region [
    ⟨some 29, .cp (.t 6), none⟩,
    ⟨some 30, .cp (.t 1), none⟩,
    ⟨some 31, .len false (.t 30), none⟩,
    ⟨some 32, .bin .lss (.t 29) (.t 31), none⟩] (none))
  (.cond (.t 32)
    .skip
    (.exit 0)))
  (.seq (.block 1
    (.seq (.region [
      ⟨some 35, .cp (.t 1), none⟩,
      ⟨some 36, .cp (.t 6), none⟩,
      ⟨some 37, .iaddr 1 (.t 35) (.t 36), none⟩,
      ⟨some 38, .load 1 false (.t 37), none⟩,
      ⟨some 7, .cp (.t 38), none⟩] (none))
    (.seq (.seq (.region [
      ⟨some 39, .cp (.t 0), none⟩,
      ⟨some 40, .bin .eql (.t 39) (.c (.s (.int .i64 2))), none⟩,
      ⟨some 41, .cp (.t 40), none⟩,
      ⟨some 42, .cp (.t 6), some (41, true)⟩,
      ⟨some 43, .bin .gtr (.t 42) (.c (.s (.int .i64 0))), some (41, true)⟩,
      ⟨some 44, .pick (.t 41) (.t 43) (.c (.s (.bool false))), none⟩] (none))
    (.cond (.t 44)
      (.region [
        ⟨some 45, .cp (.t 7), none⟩,
        ⟨some 46, .cp (.t 1), none⟩,
        ⟨some 47, .cp (.t 6), none⟩,
        ⟨some 48, .bin .sub (.t 47) (.c (.s (.int .i64 1))), none⟩,
        ⟨some 49, .iaddr 1 (.t 46) (.t 48), none⟩,
        ⟨some 50, .load 1 false (.t 49), none⟩,
        ⟨some 51, .bin .sub (.t 45) (.t 50), none⟩,
        ⟨some 7, .cp (.t 51), none⟩] (none))
      .skip))
    (.region [
      ⟨some 52, .cp (.t 5), none⟩,
      ⟨some 53, .cp (.t 7), none⟩,
      ⟨some 54, .call false i_sleuthref07_Number [(.t 53)], none⟩,
      ⟨some 55, .bin .add (.t 52) (.t 54), none⟩,
      ⟨some 5, .cp (.t 55), none⟩] (none)))))
  (.region [
    ⟨some 33, .cp (.t 6), none⟩,
    ⟨some 34, .bin .add (.t 33) (.c (.s (.int .i64 1))), none⟩,
    ⟨some 6, .cp (.t 34), none⟩] (none))))
def x_sleuthref07_Form_l1 : XC :=
  (.seq (.seq (.region [
    ⟨some 64, .cp (.t 11), none⟩,
    ⟨some 65, .cp (.t 1), none⟩,
    ⟨some 66, .len false (.t 65), none⟩,
    ⟨some 67, .bin .lss (.t 64) (.t 66), none⟩,
    ⟨some 68, .cp (.t 67), none⟩,
    ⟨some 69, .cp (.t 1), some (68, true)⟩,
    ⟨some 70, .cp (.t 11), some (68, true)⟩,
    ⟨some 71, .iaddr 1 (.t 69) (.t 70), some (68, true)⟩,
    ⟨some 72, .load 1 false (.t 71), some (68, true)⟩,
    ⟨some 73, .cp (.t 1), some (68, true)⟩,
    ⟨some 74, .cp (.t 10), some (68, true)⟩,
    ⟨some 75, .iaddr 1 (.t 73) (.t 74), some (68, true)⟩,
    ⟨some 76, .load 1 false (.t 75), some (68, true)⟩,
    ⟨some 77, .bin .eql (.t 72) (.t 76), some (68, true)⟩,
    ⟨some 78, .pick (.t 68) (.t 77) (.c (.s (.bool false))), none⟩] (some []))
  (.cond (.t 78)
    .skip
    (.exit 4)))
  (.block 5
    (.region [
      ⟨some 79, .cp (.t 11), none⟩,
      ⟨some 80, .bin .add (.t 79) (.c (.s (.int .i64 1))), none⟩,
      ⟨some 11, .cp (.t 80), none⟩] (none))))
def x_sleuthref07_Form_l2 : XC :=
  (.seq (.seq (.region [
    ⟨some 59, .cp (.t 10), none⟩,
    ⟨some 60, .cp (.t 1), none⟩,
    ⟨some 61, .len false (.t 60), none⟩,
    ⟨some 62, .bin .lss (.t 59) (.t 61), none⟩] (none))
  (.cond (.t 62)
    .skip
    (.exit 2)))
  (.block 3
    (.seq (.region [
      ⟨some 63, .cp (.t 10), none⟩,
      ⟨some 11, .cp (.t 63), none⟩] (none))
    (.seq (.block 4
      (.loop x_sleuthref07_Form_l1))
    (.seq (.region [
      ⟨some 81, .cp (.t 8), none⟩,
      ⟨some 82, .bin .add (.t 81) (.c (.s (.int .i64 1))), none⟩,
      ⟨some 83, .cp (.t 9), none⟩,
      ⟨some 84, .cp (.t 1), none⟩,
      ⟨some 85, .cp (.t 10), none⟩,
      ⟨some 86, .iaddr 1 (.t 84) (.t 85), none⟩,
      ⟨some 87, .load 1 false (.t 86), none⟩,
      ⟨some 88, .call false i_sleuthref07_Number [(.t 87)], none⟩,
      ⟨some 89, .bin .add (.t 83) (.t 88), none⟩,
      ⟨some 90, .cp (.t 11), none⟩,
      ⟨some 91, .cp (.t 10), none⟩,
      ⟨some 92, .bin .sub (.t 90) (.t 91), none⟩,
      ⟨some 93, .call false i_sleuthref07_Number [(.t 92)], none⟩,
      ⟨some 94, .bin .add (.t 89) (.t 93), none⟩,
      ⟨some 8, .cp (.t 82), none⟩,
      ⟨some 9, .cp (.t 94), none⟩] (none))
    (.region [
      ⟨some 95, .cp (.t 11), none⟩,
      ⟨some 10, .cp (.t 95), none⟩] (none)))))))
def x_sleuthref07_Form : XF := { np := 2, results := [(.inl 4, .v)], body :=
  (.seq (.region [
    ⟨some 4, .cp (.c (.s (.string ⟨#[]⟩))), none⟩] (none))
  (.seq (.region [
    ⟨some 16, .cp (.t 0), none⟩,
    ⟨some 17, .call false i_sleuthref07_Number [(.t 16)], none⟩,
    ⟨some 5, .cp (.t 17), none⟩] (none))
  (.seq (.seq (.region [
    ⟨some 18, .cp (.t 0), none⟩,
    ⟨some 19, .bin .eql (.t 18) (.c (.s (.int .i64 1))), none⟩,
    ⟨some 20, .cp (.t 19), none⟩,
    ⟨some 21, .cp (.t 0), some (20, false)⟩,
    ⟨some 22, .bin .eql (.t 21) (.c (.s (.int .i64 2))), some (20, false)⟩,
    ⟨some 23, .pick (.t 20) (.c (.s (.bool true))) (.t 22), none⟩] (none))
  (.cond (.t 23)
    (.seq (.region [
      ⟨some 24, .cp (.t 5), none⟩,
      ⟨some 25, .cp (.t 1), none⟩,
      ⟨some 26, .len false (.t 25), none⟩,
      ⟨some 27, .call false i_sleuthref07_Number [(.t 26)], none⟩,
      ⟨some 28, .bin .add (.t 24) (.t 27), none⟩,
      ⟨some 5, .cp (.t 28), none⟩] (none))
    (.seq (.seq (.region [
      ⟨some 6, .cp (.c (.s (.int .i64 0))), none⟩] (none))
    (.block 0
      (.loop x_sleuthref07_Form_l0)))
    (.seq (.region [
      ⟨some 56, .cp (.t 5), none⟩,
      ⟨some 4, .cp (.t 56), none⟩] (none))
    .ret)))
    .skip))
  (.seq (.seq (.region [
    ⟨some 57, .cp (.t 0), none⟩,
    ⟨some 58, .bin .eql (.t 57) (.c (.s (.int .i64 3))), none⟩] (none))
  (.cond (.t 58)
    (.seq (.region [
      ⟨some 8, .cp (.c (.s (.int .i64 0))), none⟩,
      ⟨some 9, .cp (.c (.s (.string ⟨#[]⟩))), none⟩] (none))
    (.seq (.seq (.region [
      ⟨some 10, .cp (.c (.s (.int .i64 0))), none⟩] (none))
    (.block 2
      (.loop x_sleuthref07_Form_l2)))
    (.seq (.region [
      ⟨some 96, .cp (.t 5), none⟩,
      ⟨some 97, .cp (.t 8), none⟩,
      ⟨some 98, .call false i_sleuthref07_Number [(.t 97)], none⟩,
      ⟨some 99, .bin .add (.t 96) (.t 98), none⟩,
      ⟨some 100, .cp (.t 9), none⟩,
      ⟨some 101, .bin .add (.t 99) (.t 100), none⟩,
      ⟨some 4, .cp (.t 101), none⟩] (none))
    .ret)))
    .skip))
  (.seq (.region [
    ⟨some 103, .cp (.t 1), none⟩,
    ⟨some 104, .call false i_sleuthref07_Zone [(.t 103)], none⟩,
    ⟨some 102, .cp (.t 104), none⟩,
    ⟨some 105, .extract (.t 102) 0, none⟩,
    ⟨some 106, .extract (.t 102) 1, none⟩,
    ⟨some 12, .cp (.t 105), none⟩,
    ⟨some 13, .cp (.t 106), none⟩] (none))
  (.seq (.region [
    ⟨some 108, .cp (.t 1), none⟩,
    ⟨some 109, .call false i_sleuthref07_Bits [(.t 108)], none⟩,
    ⟨some 107, .cp (.t 109), none⟩,
    ⟨some 110, .extract (.t 107) 0, none⟩,
    ⟨some 111, .extract (.t 107) 1, none⟩,
    ⟨some 14, .cp (.t 110), none⟩,
    ⟨some 15, .cp (.t 111), none⟩] (none))
  (.seq (.region [
    ⟨some 112, .cp (.t 5), none⟩,
    ⟨some 113, .cp (.t 1), none⟩,
    ⟨some 114, .len false (.t 113), none⟩,
    ⟨some 115, .call false i_sleuthref07_Number [(.t 114)], none⟩,
    ⟨some 116, .bin .add (.t 112) (.t 115), none⟩,
    ⟨some 117, .cp (.t 12), none⟩,
    ⟨some 118, .call false i_sleuthref07_Number [(.t 117)], none⟩,
    ⟨some 119, .bin .add (.t 116) (.t 118), none⟩,
    ⟨some 120, .cp (.t 14), none⟩,
    ⟨some 121, .call false i_sleuthref07_Number [(.t 120)], none⟩,
    ⟨some 122, .bin .add (.t 119) (.t 121), none⟩,
    ⟨some 123, .cp (.t 15), none⟩,
    ⟨some 124, .len true (.t 123), none⟩,
    ⟨some 125, .call false i_sleuthref07_Number [(.t 124)], none⟩,
    ⟨some 126, .bin .add (.t 122) (.t 125), none⟩,
    ⟨some 127, .cp (.t 15), none⟩,
    ⟨some 128, .bin .add (.t 126) (.t 127), none⟩,
    ⟨some 4, .cp (.t 128), none⟩] (none))
  .ret))))))) }
def x_column_Column_Encode : XF := { np := 1, results := [(.inl 2, .v)], body :=
  (.seq (.region [
    ⟨some 2, .cp (.c (.s (.string ⟨#[]⟩))), none⟩] (none))
  (.seq (.seq (.region [
    ⟨some 3, .cp (.t 0), none⟩,
    ⟨some 4, .eqv .p false (.t 3) (.c (.s (.pointer none))), none⟩] (none))
  (.cond (.t 4)
    (.seq (.region [
      ⟨some 2, .cp (.c (.s (.string ⟨#[]⟩))), none⟩] (none))
    .ret)
    .skip))
  (.seq (.region [
    ⟨some 5, .cp (.t 0), none⟩,
    ⟨some 6, .nilchk (.t 5), none⟩,
    ⟨some 7, .faddr (.t 6) 1, none⟩,
    ⟨some 8, .load 1 false (.t 7), none⟩,
    ⟨some 2, .cp (.t 8), none⟩] (none))
  .ret))) }
def x_column_Column_Values : XF := { np := 1, results := [(.inl 2, .v)], body :=
  (.seq (.region [
    ⟨some 2, .cp (.c (.s (.slice none 0 0))), none⟩] (none))
  (.seq (.seq (.region [
    ⟨some 3, .cp (.t 0), none⟩,
    ⟨some 4, .eqv .p false (.t 3) (.c (.s (.pointer none))), none⟩] (none))
  (.cond (.t 4)
    (.seq (.region [
      ⟨some 2, .cp (.c (.s (.slice none 0 0))), none⟩] (none))
    .ret)
    .skip))
  (.seq (.region [
    ⟨some 5, .cp (.t 0), none⟩,
    ⟨some 6, .nilchk (.t 5), none⟩,
    ⟨some 7, .faddr (.t 6) 0, none⟩,
    ⟨some 8, .load 1 false (.t 7), none⟩,
    ⟨some 9, .call false i_slices_Clone_int_int [(.t 8)], none⟩,
    ⟨some 2, .cp (.t 9), none⟩] (none))
  .ret))) }
def x_column_Open : XF := { np := 1, results := [(.inl 2, .f), (.inl 3, .v)], body :=
  (.seq (.region [
    ⟨some 2, .cp (.c (.s (.pointer none))), none⟩,
    ⟨some 3, .cp (.c (.s (.int .i64 0))), none⟩] (none))
  (.seq (.region [
    ⟨some 7, .cp (.t 0), none⟩,
    ⟨some 8, .call false i_encoding_NewReader [(.t 7)], none⟩,
    ⟨some 9, .build false [.s (.pointer none), .s (.slice none 0 0), .s (.int .i64 0)] [(0, 1, (.t 8))], none⟩,
    ⟨some 10, .box false (.t 9), none⟩,
    ⟨some 4, .cp (.t 10), none⟩] (none))
  (.seq (.region [
    ⟨some 11, .cp (.t 4), none⟩,
    ⟨some 12, .nilchk (.t 11), none⟩,
    ⟨some 13, .faddr (.t 12) 0, none⟩,
    ⟨some 14, .load 1 false (.t 13), none⟩,
    ⟨some 15, .call false i_encoding_Reader_Number [(.t 14)], none⟩,
    ⟨some 5, .cp (.t 15), none⟩] (none))
  (.seq (.seq (.region [
    ⟨some 16, .cp (.t 4), none⟩,
    ⟨some 17, .cp (.t 5), none⟩,
    ⟨some 18, .bin .lss (.t 17) (.c (.s (.int .i64 1))), none⟩,
    ⟨some 19, .cp (.t 18), none⟩,
    ⟨some 20, .cp (.t 5), some (19, false)⟩,
    ⟨some 21, .bin .gtr (.t 20) (.c (.s (.int .i64 4))), some (19, false)⟩,
    ⟨some 22, .pick (.t 19) (.c (.s (.bool true))) (.t 21), none⟩,
    ⟨some 23, .call false i_column_reader_failed [(.t 16), (.t 22), (.c (.s (.int .i64 12)))], none⟩] (none))
  (.cond (.t 23)
    (.seq (.region [
      ⟨some 24, .cp (.t 4), none⟩,
      ⟨some 25, .nilchk (.t 24), none⟩,
      ⟨some 26, .faddr (.t 25) 2, none⟩,
      ⟨some 27, .load 1 false (.t 26), none⟩,
      ⟨some 2, .cp (.c (.s (.pointer none))), none⟩,
      ⟨some 3, .cp (.t 27), none⟩] (some []))
    .ret)
    .skip))
  (.seq (.seq (.region [
    ⟨some 28, .cp (.t 5), none⟩] (none))
  (.block 0
    (.seq (.region [
      ⟨some 32, .bin .eql (.t 28) (.c (.s (.int .i64 1))), none⟩,
      ⟨some 31, .cp (.t 32), none⟩] (none))
    (.cond (.t 31)
      (.region [
        ⟨some 33, .cp (.t 4), none⟩,
        ⟨some 34, .call false i_column_reader_list [(.t 33), (.c (.s (.bool false)))], none⟩] (none))
      (.seq (.region [
        ⟨some 36, .bin .eql (.t 28) (.c (.s (.int .i64 2))), none⟩,
        ⟨some 35, .cp (.t 36), none⟩] (none))
      (.cond (.t 35)
        (.region [
          ⟨some 37, .cp (.t 4), none⟩,
          ⟨some 38, .call false i_column_reader_list [(.t 37), (.c (.s (.bool true)))], none⟩] (none))
        (.seq (.region [
          ⟨some 40, .bin .eql (.t 28) (.c (.s (.int .i64 3))), none⟩,
          ⟨some 39, .cp (.t 40), none⟩] (none))
        (.cond (.t 39)
          (.region [
            ⟨some 41, .cp (.t 4), none⟩,
            ⟨some 42, .call false i_column_reader_runs [(.t 41)], none⟩] (none))
          (.region [
            ⟨some 29, .cp (.t 4), none⟩,
            ⟨some 30, .call false i_column_reader_packed [(.t 29)], none⟩] (none))))))))))
  (.seq (.seq (.region [
    ⟨some 43, .cp (.t 4), none⟩,
    ⟨some 44, .nilchk (.t 43), none⟩,
    ⟨some 45, .faddr (.t 44) 2, none⟩,
    ⟨some 46, .load 1 false (.t 45), none⟩,
    ⟨some 47, .bin .neq (.t 46) (.c (.s (.int .i64 0))), none⟩] (none))
  (.cond (.t 47)
    (.seq (.region [
      ⟨some 48, .cp (.t 4), none⟩,
      ⟨some 49, .nilchk (.t 48), none⟩,
      ⟨some 50, .faddr (.t 49) 2, none⟩,
      ⟨some 51, .load 1 false (.t 50), none⟩,
      ⟨some 2, .cp (.c (.s (.pointer none))), none⟩,
      ⟨some 3, .cp (.t 51), none⟩] (some []))
    .ret)
    .skip))
  (.seq (.region [
    ⟨some 52, .cp (.t 4), none⟩,
    ⟨some 53, .nilchk (.t 52), none⟩,
    ⟨some 54, .faddr (.t 53) 1, none⟩,
    ⟨some 55, .load 1 false (.t 54), none⟩,
    ⟨some 56, .call false i_column_made [(.t 55)], none⟩,
    ⟨some 6, .cp (.t 56), none⟩] (none))
  (.seq (.seq (.region [
    ⟨some 57, .cp (.t 4), none⟩,
    ⟨some 58, .nilchk (.t 57), none⟩,
    ⟨some 59, .faddr (.t 58) 0, none⟩,
    ⟨some 60, .load 1 false (.t 59), none⟩,
    ⟨some 61, .call false i_encoding_Reader_Left [(.t 60)], none⟩,
    ⟨some 62, .bin .gtr (.t 61) (.c (.s (.int .i64 0))), none⟩,
    ⟨some 63, .cp (.t 62), none⟩,
    ⟨some 64, .cp (.t 6), some (63, false)⟩,
    ⟨some 65, .nilchk (.t 64), some (63, false)⟩,
    ⟨some 66, .faddr (.t 65) 1, some (63, false)⟩,
    ⟨some 67, .load 1 false (.t 66), some (63, false)⟩,
    ⟨some 68, .cp (.t 0), some (63, false)⟩,
    ⟨some 69, .bin .neq (.t 67) (.t 68), some (63, false)⟩,
    ⟨some 70, .pick (.t 63) (.c (.s (.bool true))) (.t 69), none⟩] (none))
  (.cond (.t 70)
    (.seq (.region [
      ⟨some 2, .cp (.c (.s (.pointer none))), none⟩,
      ⟨some 3, .cp (.c (.s (.int .i64 3))), none⟩] (none))
    .ret)
    .skip))
  (.seq (.region [
    ⟨some 71, .cp (.t 6), none⟩,
    ⟨some 2, .cp (.t 71), none⟩,
    ⟨some 3, .cp (.c (.s (.int .i64 0))), none⟩] (none))
  .ret))))))))) }
def x_sleuthref07_Open_l0 : XC :=
  (.seq (.seq (.region [
    ⟨some 100, .cp (.t 11), none⟩,
    ⟨some 101, .cp (.t 10), none⟩,
    ⟨some 102, .bin .lss (.t 100) (.t 101), none⟩,
    ⟨some 103, .cp (.t 102), none⟩,
    ⟨some 104, .cp (.t 4), some (103, true)⟩,
    ⟨some 105, .nilchk (.t 104), some (103, true)⟩,
    ⟨some 106, .faddr (.t 105) 2, some (103, true)⟩,
    ⟨some 107, .load 1 false (.t 106), some (103, true)⟩,
    ⟨some 108, .bin .eql (.t 107) (.c (.s (.int .i64 0))), some (103, true)⟩,
    ⟨some 109, .pick (.t 103) (.t 108) (.c (.s (.bool false))), none⟩] (none))
  (.cond (.t 109)
    .skip
    (.exit 2)))
  (.seq (.block 3
    (.region [
      ⟨some 112, .cp (.t 6), none⟩,
      ⟨some 113, .cp (.t 9), none⟩,
      ⟨some 114, .bslice false 1 [(.t 113)], none⟩,
      ⟨some 115, .append 1 17592186044416 (.t 112) (.t 114), none⟩,
      ⟨some 6, .cp (.t 115), none⟩] (none)))
  (.region [
    ⟨some 110, .cp (.t 11), none⟩,
    ⟨some 111, .bin .add (.t 110) (.c (.s (.int .i64 1))), none⟩,
    ⟨some 11, .cp (.t 111), none⟩] (none))))
def x_sleuthref07_Open_l1 : XC :=
  (.seq (.seq (.region [
    ⟨some 38, .cp (.t 8), none⟩,
    ⟨some 39, .cp (.t 7), none⟩,
    ⟨some 40, .bin .lss (.t 38) (.t 39), none⟩,
    ⟨some 41, .cp (.t 40), none⟩,
    ⟨some 42, .cp (.t 4), some (41, true)⟩,
    ⟨some 43, .nilchk (.t 42), some (41, true)⟩,
    ⟨some 44, .faddr (.t 43) 2, some (41, true)⟩,
    ⟨some 45, .load 1 false (.t 44), some (41, true)⟩,
    ⟨some 46, .bin .eql (.t 45) (.c (.s (.int .i64 0))), some (41, true)⟩,
    ⟨some 47, .pick (.t 41) (.t 46) (.c (.s (.bool false))), none⟩] (none))
  (.cond (.t 47)
    .skip
    (.exit 0)))
  (.seq (.block 1
    (.seq (.region [
      ⟨some 50, .cp (.t 4), none⟩,
      ⟨some 51, .call false i_sleuthref07_reader_number [(.t 50)], none⟩,
      ⟨some 9, .cp (.t 51), none⟩] (none))
    (.seq (.seq (.region [
      ⟨some 52, .cp (.t 5), none⟩,
      ⟨some 53, .bin .eql (.t 52) (.c (.s (.int .i64 2))), none⟩,
      ⟨some 54, .cp (.t 53), none⟩,
      ⟨some 55, .cp (.t 8), some (54, true)⟩,
      ⟨some 56, .bin .gtr (.t 55) (.c (.s (.int .i64 0))), some (54, true)⟩,
      ⟨some 57, .pick (.t 54) (.t 56) (.c (.s (.bool false))), none⟩,
      ⟨some 58, .cp (.t 57), none⟩,
      ⟨some 59, .cp (.t 4), some (58, true)⟩,
      ⟨some 60, .nilchk (.t 59), some (58, true)⟩,
      ⟨some 61, .faddr (.t 60) 2, some (58, true)⟩,
      ⟨some 62, .load 1 false (.t 61), some (58, true)⟩,
      ⟨some 63, .bin .eql (.t 62) (.c (.s (.int .i64 0))), some (58, true)⟩,
      ⟨some 64, .pick (.t 58) (.t 63) (.c (.s (.bool false))), none⟩] (none))
    (.cond (.t 64)
      (.seq (.region [
        ⟨some 65, .cp (.t 4), none⟩,
        ⟨some 66, .cp (.t 9), none⟩,
        ⟨some 67, .call false i_sleuthref07_reader_ranged [(.t 65), (.t 66), (.c (.s (.int .i64 (-2305843009213693952)))), (.c (.s (.int .i64 2305843009213693952)))], none⟩] (none))
      (.seq (.region [
        ⟨some 68, .cp (.t 4), none⟩,
        ⟨some 69, .nilchk (.t 68), none⟩,
        ⟨some 70, .faddr (.t 69) 2, none⟩,
        ⟨some 71, .load 1 false (.t 70), none⟩,
        ⟨some 72, .bin .eql (.t 71) (.c (.s (.int .i64 0))), none⟩] (none))
      (.cond (.t 72)
        (.region [
          ⟨some 73, .cp (.t 6), none⟩,
          ⟨some 74, .cp (.t 8), none⟩,
          ⟨some 75, .bin .sub (.t 74) (.c (.s (.int .i64 1))), none⟩,
          ⟨some 76, .iaddr 1 (.t 73) (.t 75), none⟩,
          ⟨some 77, .load 1 false (.t 76), none⟩,
          ⟨some 78, .cp (.t 9), none⟩,
          ⟨some 79, .bin .add (.t 77) (.t 78), none⟩,
          ⟨some 9, .cp (.t 79), none⟩] (none))
        .skip)))
      .skip))
    (.seq (.region [
      ⟨some 80, .cp (.t 4), none⟩,
      ⟨some 81, .cp (.t 9), none⟩,
      ⟨some 82, .call false i_sleuthref07_reader_ranged [(.t 80), (.t 81), (.c (.s (.int .i64 (-1152921504606846976)))), (.c (.s (.int .i64 1152921504606846976)))], none⟩] (none))
    (.seq (.region [
      ⟨some 10, .cp (.c (.s (.int .i64 1))), none⟩] (none))
    (.seq (.seq (.region [
      ⟨some 83, .cp (.t 5), none⟩,
      ⟨some 84, .bin .eql (.t 83) (.c (.s (.int .i64 3))), none⟩,
      ⟨some 85, .cp (.t 84), none⟩,
      ⟨some 86, .cp (.t 4), some (85, true)⟩,
      ⟨some 87, .nilchk (.t 86), some (85, true)⟩,
      ⟨some 88, .faddr (.t 87) 2, some (85, true)⟩,
      ⟨some 89, .load 1 false (.t 88), some (85, true)⟩,
      ⟨some 90, .bin .eql (.t 89) (.c (.s (.int .i64 0))), some (85, true)⟩,
      ⟨some 91, .pick (.t 85) (.t 90) (.c (.s (.bool false))), none⟩] (none))
    (.cond (.t 91)
      (.seq (.region [
        ⟨some 92, .cp (.t 4), none⟩,
        ⟨some 93, .call false i_sleuthref07_reader_number [(.t 92)], none⟩,
        ⟨some 10, .cp (.t 93), none⟩] (none))
      (.region [
        ⟨some 94, .cp (.t 4), none⟩,
        ⟨some 95, .cp (.t 10), none⟩,
        ⟨some 96, .cp (.t 6), none⟩,
        ⟨some 97, .len false (.t 96), none⟩,
        ⟨some 98, .bin .sub (.c (.s (.int .i64 4096))) (.t 97), none⟩,
        ⟨some 99, .call false i_sleuthref07_reader_ranged [(.t 94), (.t 95), (.c (.s (.int .i64 1))), (.t 98)], none⟩] (none)))
      .skip))
    (.seq (.region [
      ⟨some 11, .cp (.c (.s (.int .i64 0))), none⟩] (none))
    (.block 2
      (.loop x_sleuthref07_Open_l0)))))))))
  (.region [
    ⟨some 48, .cp (.t 8), none⟩,
    ⟨some 49, .bin .add (.t 48) (.c (.s (.int .i64 1))), none⟩,
    ⟨some 8, .cp (.t 49), none⟩] (none))))
def x_sleuthref07_Open : XF := { np := 1, results := [(.inl 2, .v), (.inl 3, .v)], body :=
  (.seq (.region [
    ⟨some 2, .cp (.c (.s (.slice none 0 0))), none⟩,
    ⟨some 3, .cp (.c (.s (.int .i64 0))), none⟩] (none))
  (.seq (.region [
    ⟨some 14, .cp (.t 0), none⟩,
    ⟨some 15, .build false [.s (.string ⟨#[]⟩), .s (.int .i64 0), .s (.int .i64 0)] [(0, 1, (.t 14))], none⟩,
    ⟨some 16, .box false (.t 15), none⟩,
    ⟨some 4, .cp (.t 16), none⟩] (none))
  (.seq (.region [
    ⟨some 17, .cp (.t 4), none⟩,
    ⟨some 18, .call false i_sleuthref07_reader_number [(.t 17)], none⟩,
    ⟨some 5, .cp (.t 18), none⟩] (none))
  (.seq (.seq (.region [
    ⟨some 19, .cp (.t 4), none⟩,
    ⟨some 20, .nilchk (.t 19), none⟩,
    ⟨some 21, .faddr (.t 20) 2, none⟩,
    ⟨some 22, .load 1 false (.t 21), none⟩,
    ⟨some 23, .bin .eql (.t 22) (.c (.s (.int .i64 0))), none⟩,
    ⟨some 24, .cp (.t 23), none⟩,
    ⟨some 25, .cp (.t 5), some (24, true)⟩,
    ⟨some 26, .bin .lss (.t 25) (.c (.s (.int .i64 1))), some (24, true)⟩,
    ⟨some 27, .cp (.t 26), some (24, true)⟩,
    ⟨some 28, .cp (.t 5), some (27, false)⟩,
    ⟨some 29, .bin .gtr (.t 28) (.c (.s (.int .i64 4))), some (27, false)⟩,
    ⟨some 30, .pick (.t 27) (.c (.s (.bool true))) (.t 29), some (24, true)⟩,
    ⟨some 31, .pick (.t 24) (.t 30) (.c (.s (.bool false))), none⟩] (none))
  (.cond (.t 31)
    (.seq (.region [
      ⟨some 2, .cp (.c (.s (.slice none 0 0))), none⟩,
      ⟨some 3, .cp (.c (.s (.int .i64 12))), none⟩] (none))
    .ret)
    .skip))
  (.seq (.region [
    ⟨some 6, .cp (.c (.s (.slice none 0 0))), none⟩] (none))
  (.seq (.seq (.region [
    ⟨some 32, .cp (.t 5), none⟩,
    ⟨some 33, .bin .eql (.t 32) (.c (.s (.int .i64 4))), none⟩] (none))
  (.cond (.t 33)
    (.region [
      ⟨some 34, .cp (.t 4), none⟩,
      ⟨some 35, .call true i_sleuthref07_packed [(.t 34)], none⟩,
      ⟨some 6, .cp (.t 35), none⟩] (none))
    (.seq (.region [
      ⟨some 36, .cp (.t 4), none⟩,
      ⟨some 37, .call false i_sleuthref07_reader_count [(.t 36), (.c (.s (.int .i64 4096))), (.c (.s (.int .i64 6)))], none⟩,
      ⟨some 7, .cp (.t 37), none⟩] (none))
    (.seq (.region [
      ⟨some 8, .cp (.c (.s (.int .i64 0))), none⟩] (none))
    (.block 0
      (.loop x_sleuthref07_Open_l1))))))
  (.seq (.seq (.region [
    ⟨some 116, .cp (.t 4), none⟩,
    ⟨some 117, .nilchk (.t 116), none⟩,
    ⟨some 118, .faddr (.t 117) 2, none⟩,
    ⟨some 119, .load 1 false (.t 118), none⟩,
    ⟨some 120, .bin .neq (.t 119) (.c (.s (.int .i64 0))), none⟩] (none))
  (.cond (.t 120)
    (.seq (.region [
      ⟨some 121, .cp (.t 4), none⟩,
      ⟨some 122, .nilchk (.t 121), none⟩,
      ⟨some 123, .faddr (.t 122) 2, none⟩,
      ⟨some 124, .load 1 false (.t 123), none⟩,
      ⟨some 2, .cp (.c (.s (.slice none 0 0))), none⟩,
      ⟨some 3, .cp (.t 124), none⟩] (some []))
    .ret)
    .skip))
  (.seq (.seq (.region [
    ⟨some 126, .cp (.t 6), none⟩,
    ⟨some 127, .call false i_sleuthref07_Shortest [(.t 126)], none⟩,
    ⟨some 125, .cp (.t 127), none⟩,
    ⟨some 128, .extract (.t 125) 0, none⟩,
    ⟨some 129, .extract (.t 125) 1, none⟩,
    ⟨some 12, .cp (.t 128), none⟩,
    ⟨some 13, .cp (.t 129), none⟩] (none))
  (.seq (.region [
    ⟨some 130, .cp (.t 12), none⟩,
    ⟨some 131, .cp (.t 0), none⟩,
    ⟨some 132, .bin .neq (.t 130) (.t 131), none⟩] (none))
  (.cond (.t 132)
    (.seq (.region [
      ⟨some 2, .cp (.c (.s (.slice none 0 0))), none⟩,
      ⟨some 3, .cp (.c (.s (.int .i64 3))), none⟩] (none))
    .ret)
    .skip)))
  (.seq (.region [
    ⟨some 133, .cp (.t 6), none⟩,
    ⟨some 2, .cp (.t 133), none⟩,
    ⟨some 3, .cp (.c (.s (.int .i64 0))), none⟩] (none))
  .ret))))))))) }
def x_sleuthref07_Same_l0 : XC :=
  (.seq (.seq (.region [
    ⟨some 11, .cp (.t 5), none⟩,
    ⟨some 12, .cp (.t 0), none⟩,
    ⟨some 13, .len false (.t 12), none⟩,
    ⟨some 14, .bin .lss (.t 11) (.t 13), none⟩] (none))
  (.cond (.t 14)
    .skip
    (.exit 0)))
  (.seq (.block 1
    (.seq (.region [
      ⟨some 17, .cp (.t 0), none⟩,
      ⟨some 18, .cp (.t 5), none⟩,
      ⟨some 19, .iaddr 1 (.t 17) (.t 18), none⟩,
      ⟨some 20, .load 1 false (.t 19), none⟩,
      ⟨some 21, .cp (.t 1), none⟩,
      ⟨some 22, .cp (.t 5), none⟩,
      ⟨some 23, .iaddr 1 (.t 21) (.t 22), none⟩,
      ⟨some 24, .load 1 false (.t 23), none⟩,
      ⟨some 25, .bin .neq (.t 20) (.t 24), none⟩] (some []))
    (.cond (.t 25)
      (.seq (.region [
        ⟨some 4, .cp (.c (.s (.bool false))), none⟩] (none))
      .ret)
      .skip)))
  (.region [
    ⟨some 15, .cp (.t 5), none⟩,
    ⟨some 16, .bin .add (.t 15) (.c (.s (.int .i64 1))), none⟩,
    ⟨some 5, .cp (.t 16), none⟩] (none))))
def x_sleuthref07_Same : XF := { np := 2, results := [(.inl 4, .v)], body :=
  (.seq (.region [
    ⟨some 4, .cp (.c (.s (.bool false))), none⟩] (none))
  (.seq (.seq (.region [
    ⟨some 6, .cp (.t 0), none⟩,
    ⟨some 7, .len false (.t 6), none⟩,
    ⟨some 8, .cp (.t 1), none⟩,
    ⟨some 9, .len false (.t 8), none⟩,
    ⟨some 10, .bin .neq (.t 7) (.t 9), none⟩] (none))
  (.cond (.t 10)
    (.seq (.region [
      ⟨some 4, .cp (.c (.s (.bool false))), none⟩] (none))
    .ret)
    .skip))
  (.seq (.seq (.region [
    ⟨some 5, .cp (.c (.s (.int .i64 0))), none⟩] (none))
  (.block 0
    (.loop x_sleuthref07_Same_l0)))
  (.seq (.region [
    ⟨some 4, .cp (.c (.s (.bool true))), none⟩] (none))
  .ret)))) }
def x_column_check : XF := { np := 1, results := [(.inl 2, .v)], body :=
  (.seq (.region [
    ⟨some 2, .cp (.c (.s (.int .i64 0))), none⟩] (none))
  (.seq (.seq (.region [
    ⟨some 3, .cp (.t 0), none⟩,
    ⟨some 4, .len false (.t 3), none⟩,
    ⟨some 5, .bin .gtr (.t 4) (.c (.s (.int .i64 4096))), none⟩] (none))
  (.cond (.t 5)
    (.seq (.region [
      ⟨some 2, .cp (.c (.s (.int .i64 6))), none⟩] (none))
    .ret)
    .skip))
  (.seq (.seq (.region [
    ⟨some 6, .cp (.t 0), none⟩,
    ⟨some 7, .call false i_slices_ContainsFunc_int_int [(.t 6), (.c (.fn i_column_wrong [] []))], none⟩] (none))
  (.cond (.t 7)
    (.seq (.region [
      ⟨some 2, .cp (.c (.s (.int .i64 2))), none⟩] (none))
    .ret)
    .skip))
  (.seq (.region [
    ⟨some 2, .cp (.c (.s (.int .i64 0))), none⟩] (none))
  .ret)))) }
def x_column_made_l0 : XC :=
  (.seq (.seq (.region [
    ⟨some 9, .cp (.t 4), none⟩,
    ⟨some 10, .bin .leq (.t 9) (.c (.s (.int .i64 4))), none⟩] (none))
  (.cond (.t 10)
    .skip
    (.exit 0)))
  (.seq (.block 1
    (.seq (.region [
      ⟨some 13, .cp (.t 4), none⟩,
      ⟨some 14, .cp (.t 0), none⟩,
      ⟨some 15, .call false i_column_encode [(.t 13), (.t 14)], none⟩,
      ⟨some 5, .cp (.t 15), none⟩] (none))
    (.seq (.region [
      ⟨some 16, .cp (.t 3), none⟩,
      ⟨some 17, .nilchk (.t 16), none⟩,
      ⟨some 18, .faddr (.t 17) 2, none⟩,
      ⟨some 19, .load 1 false (.t 18), none⟩,
      ⟨some 20, .bin .eql (.t 19) (.c (.s (.int .i64 0))), none⟩,
      ⟨some 21, .cp (.t 20), none⟩,
      ⟨some 22, .cp (.t 5), some (21, false)⟩,
      ⟨some 23, .len true (.t 22), some (21, false)⟩,
      ⟨some 24, .cp (.t 3), some (21, false)⟩,
      ⟨some 25, .nilchk (.t 24), some (21, false)⟩,
      ⟨some 26, .faddr (.t 25) 1, some (21, false)⟩,
      ⟨some 27, .load 1 false (.t 26), some (21, false)⟩,
      ⟨some 28, .len true (.t 27), some (21, false)⟩,
      ⟨some 29, .bin .lss (.t 23) (.t 28), some (21, false)⟩,
      ⟨some 30, .pick (.t 21) (.c (.s (.bool true))) (.t 29), none⟩] (none))
    (.cond (.t 30)
      (.region [
        ⟨some 31, .cp (.t 3), none⟩,
        ⟨some 32, .cp (.t 3), none⟩,
        ⟨some 33, .cp (.t 4), none⟩,
        ⟨some 34, .cp (.t 5), none⟩,
        ⟨some 35, .nilchk (.t 31), none⟩,
        ⟨some 36, .faddr (.t 35) 2, none⟩,
        ⟨none, .store 1 (.t 36) (.t 33), none⟩,
        ⟨some 37, .nilchk (.t 32), none⟩,
        ⟨some 38, .faddr (.t 37) 1, none⟩,
        ⟨none, .store 1 (.t 38) (.t 34), none⟩] (none))
      .skip))))
  (.region [
    ⟨some 11, .cp (.t 4), none⟩,
    ⟨some 12, .bin .add (.t 11) (.c (.s (.int .i64 1))), none⟩,
    ⟨some 4, .cp (.t 12), none⟩] (none))))
def x_column_made : XF := { np := 1, results := [(.inl 2, .f)], body :=
  (.seq (.region [
    ⟨some 2, .cp (.c (.s (.pointer none))), none⟩] (none))
  (.seq (.region [
    ⟨some 6, .cp (.t 0), none⟩,
    ⟨some 7, .build false [.s (.slice none 0 0), .s (.string ⟨#[]⟩), .s (.int .i64 0)] [(0, 1, (.t 6))], none⟩,
    ⟨some 8, .box false (.t 7), none⟩,
    ⟨some 3, .cp (.t 8), none⟩] (none))
  (.seq (.seq (.region [
    ⟨some 4, .cp (.c (.s (.int .i64 1))), none⟩] (none))
  (.block 0
    (.loop x_column_made_l0)))
  (.seq (.region [
    ⟨some 39, .cp (.t 3), none⟩,
    ⟨some 2, .cp (.t 39), none⟩] (none))
  .ret)))) }
def x_slices_Clone_int_int : XF := { np := 1, results := [(.inl 2, .v)], body :=
  (.seq (.region [
    ⟨some 2, .cp (.c (.s (.slice none 0 0))), none⟩] (none))
  (.seq (.seq (.region [
    ⟨some 3, .cp (.t 0), none⟩,
    ⟨some 4, .eqv .s false (.t 3) (.c (.s (.slice none 0 0))), none⟩] (none))
  (.cond (.t 4)
    (.seq (.region [
      ⟨some 2, .cp (.c (.s (.slice none 0 0))), none⟩] (none))
    .ret)
    .skip))
  (.seq (.region [
    ⟨some 5, .bslice true 1 [], none⟩,
    ⟨some 6, .cp (.t 0), none⟩,
    ⟨some 7, .append 1 17592186044416 (.t 5) (.t 6), none⟩,
    ⟨some 2, .cp (.t 7), none⟩] (none))
  .ret))) }
def x_column_encode : XF := { np := 2, results := [(.inl 4, .v)], body :=
  (.seq (.region [
    ⟨some 4, .cp (.c (.s (.string ⟨#[]⟩))), none⟩] (none))
  (.seq (.region [
    ⟨some 7, .build false [.s .nilFunc, .s .nilFunc, .s .nilFunc, .s .nilFunc] [(0, 1, (.c (.fn i_column_plain [] []))), (1, 1, (.c (.fn i_column_delta [] []))), (2, 1, (.c (.fn i_column_runs [] []))), (3, 1, (.c (.fn i_column_packed [] [])))], none⟩,
    ⟨some 5, .alloc [.s .nilFunc, .s .nilFunc, .s .nilFunc, .s .nilFunc], none⟩,
    ⟨none, .store 4 (.t 5) (.t 7), none⟩] (none))
  (.seq (.region [
    ⟨some 6, .alloc [.s (.slice none 0 0)], none⟩] (none))
  (.seq (.region [
    ⟨some 8, .cp (.t 0), none⟩,
    ⟨some 9, .call false i_encoding_Writer_Number [(.t 6), (.t 8)], none⟩] (none))
  (.seq (.region [
    ⟨some 10, .cp (.t 0), none⟩,
    ⟨some 11, .bin .sub (.t 10) (.c (.s (.int .i64 1))), none⟩,
    ⟨some 12, .iaddrA 4 1 (.t 5) (.t 11), none⟩,
    ⟨some 13, .load 1 false (.t 12), none⟩,
    ⟨some 14, .cp (.t 1), none⟩,
    ⟨some 15, .callv false (.t 13) [(.t 6), (.t 14)], none⟩] (none))
  (.seq (.region [
    ⟨some 16, .call false i_encoding_Writer_Bytes [(.t 6)], none⟩,
    ⟨some 4, .cp (.t 16), none⟩] (none))
  .ret)))))) }
def x_sleuthref07_Number_l0 : XC :=
  (.seq (.seq (.region [
    ⟨some 17, .cp (.t 5), none⟩,
    ⟨some 18, .bin .gtr (.t 17) (.c (.s (.int .u64 0))), none⟩] (none))
  (.cond (.t 18)
    .skip
    (.exit 0)))
  (.seq (.block 1
    (.region [
      ⟨some 21, .cp (.t 5), none⟩,
      ⟨some 22, .bin .and (.t 21) (.c (.s (.int .u64 255))), none⟩,
      ⟨some 23, .conv .u8 (.t 22), none⟩,
      ⟨some 24, .bslice true 1 [(.t 23)], none⟩,
      ⟨some 25, .cp (.t 4), none⟩,
      ⟨some 26, .append 1 140737488355328 (.t 24) (.t 25), none⟩,
      ⟨some 4, .cp (.t 26), none⟩] (none)))
  (.region [
    ⟨some 19, .cp (.t 5), none⟩,
    ⟨some 20, .bin .shr (.t 19) (.c (.s (.int .u64 8))), none⟩,
    ⟨some 5, .cp (.t 20), none⟩] (none))))
def x_sleuthref07_Number_l1 : XC :=
  (.seq (.seq (.region [
    ⟨some 37, .cp (.t 7), none⟩,
    ⟨some 38, .cp (.t 4), none⟩,
    ⟨some 39, .len false (.t 38), none⟩,
    ⟨some 40, .bin .lss (.t 37) (.t 39), none⟩] (none))
  (.cond (.t 40)
    .skip
    (.exit 2)))
  (.seq (.block 3
    (.region [
      ⟨some 43, .cp (.t 4), none⟩,
      ⟨some 44, .cp (.t 7), none⟩,
      ⟨some 45, .cp (.t 4), none⟩,
      ⟨some 46, .cp (.t 7), none⟩,
      ⟨some 47, .iaddr 1 (.t 45) (.t 46), none⟩,
      ⟨some 48, .load 1 false (.t 47), none⟩,
      ⟨some 49, .bin .sub (.c (.s (.int .u8 255))) (.t 48), none⟩,
      ⟨some 50, .iaddr 1 (.t 43) (.t 44), none⟩,
      ⟨none, .store 1 (.t 50) (.t 49), none⟩] (none)))
  (.region [
    ⟨some 41, .cp (.t 7), none⟩,
    ⟨some 42, .bin .add (.t 41) (.c (.s (.int .i64 1))), none⟩,
    ⟨some 7, .cp (.t 42), none⟩] (none))))
def x_sleuthref07_Number : XF := { np := 1, results := [(.inl 2, .v)], body :=
  (.seq (.region [
    ⟨some 2, .cp (.c (.s (.string ⟨#[]⟩))), none⟩] (none))
  (.seq (.seq (.region [
    ⟨some 8, .cp (.t 0), none⟩,
    ⟨some 9, .bin .eql (.t 8) (.c (.s (.int .i64 0))), none⟩] (none))
  (.cond (.t 9)
    (.seq (.region [
      ⟨some 2, .cp (.c (.s (.string ⟨#[128]⟩))), none⟩] (none))
    .ret)
    .skip))
  (.seq (.region [
    ⟨some 10, .cp (.t 0), none⟩,
    ⟨some 11, .conv .u64 (.t 10), none⟩,
    ⟨some 3, .cp (.t 11), none⟩] (none))
  (.seq (.seq (.region [
    ⟨some 12, .cp (.t 0), none⟩,
    ⟨some 13, .bin .lss (.t 12) (.c (.s (.int .i64 0))), none⟩] (none))
  (.cond (.t 13)
    (.region [
      ⟨some 14, .cp (.t 3), none⟩,
      ⟨some 15, .bin .sub (.c (.s (.int .u64 0))) (.t 14), none⟩,
      ⟨some 3, .cp (.t 15), none⟩] (none))
    .skip))
  (.seq (.region [
    ⟨some 4, .cp (.c (.s (.slice none 0 0))), none⟩] (none))
  (.seq (.seq (.region [
    ⟨some 16, .cp (.t 3), none⟩,
    ⟨some 5, .cp (.t 16), none⟩] (none))
  (.block 0
    (.loop x_sleuthref07_Number_l0)))
  (.seq (.region [
    ⟨some 27, .cp (.t 4), none⟩,
    ⟨some 28, .len false (.t 27), none⟩,
    ⟨some 29, .bin .add (.c (.s (.int .i64 128))) (.t 28), none⟩,
    ⟨some 30, .conv .u8 (.t 29), none⟩,
    ⟨some 6, .cp (.t 30), none⟩] (none))
  (.seq (.seq (.region [
    ⟨some 31, .cp (.t 0), none⟩,
    ⟨some 32, .bin .lss (.t 31) (.c (.s (.int .i64 0))), none⟩] (none))
  (.cond (.t 32)
    (.seq (.region [
      ⟨some 33, .cp (.t 4), none⟩,
      ⟨some 34, .len false (.t 33), none⟩,
      ⟨some 35, .bin .sub (.c (.s (.int .i64 128))) (.t 34), none⟩,
      ⟨some 36, .conv .u8 (.t 35), none⟩,
      ⟨some 6, .cp (.t 36), none⟩] (none))
    (.seq (.region [
      ⟨some 7, .cp (.c (.s (.int .i64 0))), none⟩] (none))
    (.block 2
      (.loop x_sleuthref07_Number_l1))))
    .skip))
  (.seq (.region [
    ⟨some 51, .cp (.t 6), none⟩,
    ⟨some 52, .bslice true 1 [(.t 51)], none⟩,
    ⟨some 53, .cp (.t 4), none⟩,
    ⟨some 54, .append 1 140737488355328 (.t 52) (.t 53), none⟩,
    ⟨some 55, .toStr (.t 54), none⟩,
    ⟨some 2, .cp (.t 55), none⟩] (none))
  .ret))))))))) }
def x_sleuthref07_Zone_l0 : XC :=
  (.seq (.seq (.region [
    ⟨some 5, .cp (.t 4), none⟩,
    ⟨some 6, .cp (.t 0), none⟩,
    ⟨some 7, .len false (.t 6), none⟩,
    ⟨some 8, .bin .lss (.t 5) (.t 7), none⟩] (none))
  (.cond (.t 8)
    .skip
    (.exit 0)))
  (.seq (.block 1
    (.seq (.seq (.region [
      ⟨some 11, .cp (.t 4), none⟩,
      ⟨some 12, .bin .eql (.t 11) (.c (.s (.int .i64 0))), none⟩] (none))
    (.cond (.t 12)
      (.region [
        ⟨some 13, .cp (.t 0), none⟩,
        ⟨some 14, .iaddr 1 (.t 13) (.c (.s (.int .i64 0))), none⟩,
        ⟨some 15, .load 1 false (.t 14), none⟩,
        ⟨some 16, .cp (.t 0), none⟩,
        ⟨some 17, .iaddr 1 (.t 16) (.c (.s (.int .i64 0))), none⟩,
        ⟨some 18, .load 1 false (.t 17), none⟩,
        ⟨some 2, .cp (.t 15), none⟩,
        ⟨some 3, .cp (.t 18), none⟩] (some []))
      .skip))
    (.region [
      ⟨some 19, .cp (.t 2), none⟩,
      ⟨some 20, .cp (.t 0), none⟩,
      ⟨some 21, .cp (.t 4), none⟩,
      ⟨some 22, .iaddr 1 (.t 20) (.t 21), none⟩,
      ⟨some 23, .load 1 false (.t 22), none⟩,
      ⟨some 24, .minmax false [(.t 19), (.t 23)], none⟩,
      ⟨some 25, .cp (.t 3), none⟩,
      ⟨some 26, .cp (.t 0), none⟩,
      ⟨some 27, .cp (.t 4), none⟩,
      ⟨some 28, .iaddr 1 (.t 26) (.t 27), none⟩,
      ⟨some 29, .load 1 false (.t 28), none⟩,
      ⟨some 30, .minmax true [(.t 25), (.t 29)], none⟩,
      ⟨some 2, .cp (.t 24), none⟩,
      ⟨some 3, .cp (.t 30), none⟩] (some []))))
  (.region [
    ⟨some 9, .cp (.t 4), none⟩,
    ⟨some 10, .bin .add (.t 9) (.c (.s (.int .i64 1))), none⟩,
    ⟨some 4, .cp (.t 10), none⟩] (none))))
def x_sleuthref07_Zone : XF := { np := 1, results := [(.inl 2, .v), (.inl 3, .v)], body :=
  (.seq (.region [
    ⟨some 2, .cp (.c (.s (.int .i64 0))), none⟩,
    ⟨some 3, .cp (.c (.s (.int .i64 0))), none⟩] (none))
  (.seq (.seq (.region [
    ⟨some 4, .cp (.c (.s (.int .i64 0))), none⟩] (none))
  (.block 0
    (.loop x_sleuthref07_Zone_l0)))
  (.seq (.region [
    ⟨some 31, .cp (.t 2), none⟩,
    ⟨some 32, .cp (.t 3), none⟩,
    ⟨some 2, .cp (.t 31), none⟩,
    ⟨some 3, .cp (.t 32), none⟩] (none))
  .ret))) }
def x_sleuthref07_Bits_l0 : XC :=
  (.seq (.seq (.region [
    ⟨some 16, .cp (.t 5), none⟩,
    ⟨some 17, .cp (.t 4), none⟩,
    ⟨some 18, .bin .sub (.t 16) (.t 17), none⟩,
    ⟨some 19, .cp (.t 6), none⟩,
    ⟨some 20, .conv .u64 (.t 19), none⟩,
    ⟨some 21, .bin .shl (.c (.s (.int .i64 1))) (.t 20), none⟩,
    ⟨some 22, .bin .geq (.t 18) (.t 21), none⟩] (none))
  (.cond (.t 22)
    .skip
    (.exit 0)))
  (.block 1
    (.region [
      ⟨some 23, .cp (.t 6), none⟩,
      ⟨some 24, .bin .add (.t 23) (.c (.s (.int .i64 1))), none⟩,
      ⟨some 6, .cp (.t 24), none⟩] (none))))
def x_sleuthref07_Bits_l1 : XC :=
  (.seq (.seq (.region [
    ⟨some 38, .cp (.t 9), none⟩,
    ⟨some 39, .cp (.t 6), none⟩,
    ⟨some 40, .bin .lss (.t 38) (.t 39), none⟩] (none))
  (.cond (.t 40)
    .skip
    (.exit 4)))
  (.seq (.block 5
    (.seq (.region [
      ⟨some 43, .cp (.t 0), none⟩,
      ⟨some 44, .cp (.t 8), none⟩,
      ⟨some 45, .iaddr 1 (.t 43) (.t 44), none⟩,
      ⟨some 46, .load 1 false (.t 45), none⟩,
      ⟨some 47, .cp (.t 4), none⟩,
      ⟨some 48, .bin .sub (.t 46) (.t 47), none⟩,
      ⟨some 49, .cp (.t 9), none⟩,
      ⟨some 50, .conv .u64 (.t 49), none⟩,
      ⟨some 51, .bin .shr (.t 48) (.t 50), none⟩,
      ⟨some 52, .bin .and (.t 51) (.c (.s (.int .i64 1))), none⟩,
      ⟨some 53, .bin .eql (.t 52) (.c (.s (.int .i64 1))), none⟩] (none))
    (.cond (.t 53)
      (.seq (.region [
        ⟨some 54, .cp (.t 8), none⟩,
        ⟨some 55, .cp (.t 6), none⟩,
        ⟨some 56, .bin .mul (.t 54) (.t 55), none⟩,
        ⟨some 57, .cp (.t 9), none⟩,
        ⟨some 58, .bin .add (.t 56) (.t 57), none⟩,
        ⟨some 10, .cp (.t 58), none⟩] (none))
      (.region [
        ⟨some 59, .cp (.t 7), none⟩,
        ⟨some 60, .cp (.t 10), none⟩,
        ⟨some 61, .bin .quo (.t 60) (.c (.s (.int .i64 8))), none⟩,
        ⟨some 62, .cp (.t 7), none⟩,
        ⟨some 63, .cp (.t 10), none⟩,
        ⟨some 64, .bin .quo (.t 63) (.c (.s (.int .i64 8))), none⟩,
        ⟨some 65, .iaddr 1 (.t 62) (.t 64), none⟩,
        ⟨some 66, .load 1 false (.t 65), none⟩,
        ⟨some 67, .cp (.t 10), none⟩,
        ⟨some 68, .bin .rem (.t 67) (.c (.s (.int .i64 8))), none⟩,
        ⟨some 69, .conv .u64 (.t 68), none⟩,
        ⟨some 70, .bin .shl (.c (.s (.int .u8 1))) (.t 69), none⟩,
        ⟨some 71, .bin .add (.t 66) (.t 70), none⟩,
        ⟨some 72, .iaddr 1 (.t 59) (.t 61), none⟩,
        ⟨none, .store 1 (.t 72) (.t 71), none⟩] (none)))
      .skip)))
  (.region [
    ⟨some 41, .cp (.t 9), none⟩,
    ⟨some 42, .bin .add (.t 41) (.c (.s (.int .i64 1))), none⟩,
    ⟨some 9, .cp (.t 42), none⟩] (none))))
def x_sleuthref07_Bits_l2 : XC :=
  (.seq (.seq (.region [
    ⟨some 32, .cp (.t 8), none⟩,
    ⟨some 33, .cp (.t 0), none⟩,
    ⟨some 34, .len false (.t 33), none⟩,
    ⟨some 35, .bin .lss (.t 32) (.t 34), none⟩] (none))
  (.cond (.t 35)
    .skip
    (.exit 2)))
  (.seq (.block 3
    (.seq (.region [
      ⟨some 9, .cp (.c (.s (.int .i64 0))), none⟩] (none))
    (.block 4
      (.loop x_sleuthref07_Bits_l1))))
  (.region [
    ⟨some 36, .cp (.t 8), none⟩,
    ⟨some 37, .bin .add (.t 36) (.c (.s (.int .i64 1))), none⟩,
    ⟨some 8, .cp (.t 37), none⟩] (none))))
def x_sleuthref07_Bits : XF := { np := 1, results := [(.inl 2, .v), (.inl 3, .v)], body :=
  (.seq (.region [
    ⟨some 2, .cp (.c (.s (.int .i64 0))), none⟩,
    ⟨some 3, .cp (.c (.s (.string ⟨#[]⟩))), none⟩] (none))
  (.seq (.region [
    ⟨some 12, .cp (.t 0), none⟩,
    ⟨some 13, .call false i_sleuthref07_Zone [(.t 12)], none⟩,
    ⟨some 11, .cp (.t 13), none⟩,
    ⟨some 14, .extract (.t 11) 0, none⟩,
    ⟨some 15, .extract (.t 11) 1, none⟩,
    ⟨some 4, .cp (.t 14), none⟩,
    ⟨some 5, .cp (.t 15), none⟩] (none))
  (.seq (.region [
    ⟨some 6, .cp (.c (.s (.int .i64 0))), none⟩] (none))
  (.seq (.block 0
    (.loop x_sleuthref07_Bits_l0))
  (.seq (.region [
    ⟨some 25, .cp (.t 0), none⟩,
    ⟨some 26, .len false (.t 25), none⟩,
    ⟨some 27, .cp (.t 6), none⟩,
    ⟨some 28, .bin .mul (.t 26) (.t 27), none⟩,
    ⟨some 29, .bin .add (.t 28) (.c (.s (.int .i64 7))), none⟩,
    ⟨some 30, .bin .quo (.t 29) (.c (.s (.int .i64 8))), none⟩,
    ⟨some 31, .mkslice 1 (.s (.int .u8 0)) 140737488355328 (.t 30) (.t 30), none⟩,
    ⟨some 7, .cp (.t 31), none⟩] (none))
  (.seq (.seq (.region [
    ⟨some 8, .cp (.c (.s (.int .i64 0))), none⟩] (none))
  (.block 2
    (.loop x_sleuthref07_Bits_l2)))
  (.seq (.region [
    ⟨some 73, .cp (.t 6), none⟩,
    ⟨some 74, .cp (.t 7), none⟩,
    ⟨some 75, .toStr (.t 74), none⟩,
    ⟨some 2, .cp (.t 73), none⟩,
    ⟨some 3, .cp (.t 75), none⟩] (some []))
  .ret))))))) }
def x_column_zone : XF := { np := 1, results := [(.inr (2, 2, true), .v)], body :=
  (.seq (.region [
    ⟨some 2, .alloc [.s (.int .i64 0), .s (.int .i64 0)], none⟩] (none))
  (.seq (.seq (.region [
    ⟨some 3, .cp (.t 0), none⟩,
    ⟨some 4, .len false (.t 3), none⟩,
    ⟨some 5, .bin .eql (.t 4) (.c (.s (.int .i64 0))), none⟩] (none))
  (.cond (.t 5)
    (.seq (.region [
      ⟨some 6, .build false [.s (.int .i64 0), .s (.int .i64 0)] [], none⟩,
      ⟨none, .store 2 (.t 2) (.t 6), none⟩] (none))
    .ret)
    .skip))
  (.seq (.region [
    ⟨some 7, .cp (.t 0), none⟩,
    ⟨some 8, .call false i_slices_Min_int_int [(.t 7)], none⟩,
    ⟨some 9, .cp (.t 0), none⟩,
    ⟨some 10, .call false i_slices_Max_int_int [(.t 9)], none⟩,
    ⟨some 11, .build false [.s (.int .i64 0), .s (.int .i64 0)] [(0, 1, (.t 8)), (1, 1, (.t 10))], none⟩,
    ⟨none, .store 2 (.t 2) (.t 11), none⟩] (none))
  .ret))) }
def x_column_reader_failed : XF := { np := 3, results := [(.inl 6, .v)], body :=
  (.seq (.region [
    ⟨some 6, .cp (.c (.s (.bool false))), none⟩] (none))
  (.seq (.block 0
    (.seq (.region [
      ⟨some 8, .cp (.t 0), none⟩,
      ⟨some 9, .nilchk (.t 8), none⟩,
      ⟨some 10, .faddr (.t 9) 2, none⟩,
      ⟨some 11, .load 1 false (.t 10), none⟩,
      ⟨some 12, .bin .neq (.t 11) (.c (.s (.int .i64 0))), none⟩,
      ⟨some 7, .cp (.t 12), none⟩] (none))
    (.cond (.t 7)
      .skip
      (.seq (.region [
        ⟨some 14, .cp (.t 0), none⟩,
        ⟨some 15, .nilchk (.t 14), none⟩,
        ⟨some 16, .faddr (.t 15) 0, none⟩,
        ⟨some 17, .load 1 false (.t 16), none⟩,
        ⟨some 18, .call false i_encoding_Reader_Err [(.t 17)], none⟩,
        ⟨some 19, .bin .neq (.t 18) (.c (.s (.int .i64 0))), none⟩,
        ⟨some 13, .cp (.t 19), none⟩] (none))
      (.cond (.t 13)
        (.region [
          ⟨some 20, .cp (.t 0), none⟩,
          ⟨some 21, .cp (.t 0), none⟩,
          ⟨some 22, .nilchk (.t 21), none⟩,
          ⟨some 23, .faddr (.t 22) 0, none⟩,
          ⟨some 24, .load 1 false (.t 23), none⟩,
          ⟨some 25, .call false i_encoding_Reader_Err [(.t 24)], none⟩,
          ⟨some 26, .nilchk (.t 20), none⟩,
          ⟨some 27, .faddr (.t 26) 2, none⟩,
          ⟨none, .store 1 (.t 27) (.t 25), none⟩] (none))
        (.seq (.region [
          ⟨some 29, .cp (.t 1), none⟩,
          ⟨some 28, .cp (.t 29), none⟩] (none))
        (.cond (.t 28)
          (.region [
            ⟨some 30, .cp (.t 0), none⟩,
            ⟨some 31, .cp (.t 2), none⟩,
            ⟨some 32, .nilchk (.t 30), none⟩,
            ⟨some 33, .faddr (.t 32) 2, none⟩,
            ⟨none, .store 1 (.t 33) (.t 31), none⟩] (none))
          .skip)))))))
  (.seq (.region [
    ⟨some 34, .cp (.t 0), none⟩,
    ⟨some 35, .nilchk (.t 34), none⟩,
    ⟨some 36, .faddr (.t 35) 2, none⟩,
    ⟨some 37, .load 1 false (.t 36), none⟩,
    ⟨some 38, .bin .neq (.t 37) (.c (.s (.int .i64 0))), none⟩,
    ⟨some 6, .cp (.t 38), none⟩] (none))
  .ret))) }
def x_column_reader_list_l0 : XC :=
  (.seq (.region [
    ⟨some 12, .bin .lss (.t 11) (.t 10), none⟩] (none))
  (.seq (.cond (.t 12)
    .skip
    (.exit 0))
  (.seq (.block 1
    (.seq (.region [
      ⟨some 13, .cp (.t 11), none⟩,
      ⟨some 4, .cp (.t 13), none⟩] (none))
    (.seq (.seq (.region [
      ⟨some 14, .cp (.t 0), none⟩,
      ⟨some 15, .call false i_column_reader_failed [(.t 14), (.c (.s (.bool false))), (.c (.s (.int .i64 0)))], none⟩] (none))
    (.cond (.t 15)
      .ret
      .skip))
    (.seq (.region [
      ⟨some 5, .cp (.c (.s (.int .i64 0))), none⟩] (none))
    (.seq (.seq (.region [
      ⟨some 16, .cp (.t 4), none⟩,
      ⟨some 17, .bin .gtr (.t 16) (.c (.s (.int .i64 0))), none⟩] (none))
    (.cond (.t 17)
      (.region [
        ⟨some 18, .cp (.t 0), none⟩,
        ⟨some 19, .nilchk (.t 18), none⟩,
        ⟨some 20, .faddr (.t 19) 1, none⟩,
        ⟨some 21, .load 1 false (.t 20), none⟩,
        ⟨some 22, .cp (.t 4), none⟩,
        ⟨some 23, .bin .sub (.t 22) (.c (.s (.int .i64 1))), none⟩,
        ⟨some 24, .iaddr 1 (.t 21) (.t 23), none⟩,
        ⟨some 25, .load 1 false (.t 24), none⟩,
        ⟨some 5, .cp (.t 25), none⟩] (none))
      .skip))
    (.region [
      ⟨some 26, .cp (.t 0), none⟩,
      ⟨some 27, .cp (.t 5), none⟩,
      ⟨some 28, .cp (.t 1), none⟩,
      ⟨some 29, .cp (.t 28), none⟩,
      ⟨some 30, .cp (.t 4), some (29, true)⟩,
      ⟨some 31, .bin .gtr (.t 30) (.c (.s (.int .i64 0))), some (29, true)⟩,
      ⟨some 32, .pick (.t 29) (.t 31) (.c (.s (.bool false))), none⟩,
      ⟨some 33, .call false i_column_reader_value [(.t 26), (.t 27), (.t 32)], none⟩] (none)))))))
  (.region [
    ⟨some 34, .bin .add (.t 11) (.c (.s (.int .i64 1))), none⟩,
    ⟨some 11, .cp (.t 34), none⟩] (none)))))
def x_column_reader_list : XF := { np := 2, results := [], body :=
  (.seq (.seq (.region [
    ⟨some 6, .cp (.t 0), none⟩,
    ⟨some 7, .nilchk (.t 6), none⟩,
    ⟨some 8, .faddr (.t 7) 0, none⟩,
    ⟨some 9, .load 1 false (.t 8), none⟩,
    ⟨some 10, .call false i_encoding_Reader_Count [(.t 9), (.c (.s (.int .i64 4096)))], none⟩,
    ⟨some 11, .cp (.c (.s (.int .i64 0))), none⟩] (none))
  (.block 0
    (.loop x_column_reader_list_l0)))
  (.region [
    ⟨some 35, .cp (.t 0), none⟩,
    ⟨some 36, .call false i_column_reader_failed [(.t 35), (.c (.s (.bool false))), (.c (.s (.int .i64 0)))], none⟩] (none))) }
def x_column_reader_runs_l0 : XC :=
  (.seq (.region [
    ⟨some 50, .bin .lss (.t 49) (.t 48), none⟩] (none))
  (.seq (.cond (.t 50)
    .skip
    (.exit 2))
  (.seq (.block 3
    (.region [
      ⟨some 51, .cp (.t 0), none⟩,
      ⟨some 52, .cp (.t 0), none⟩,
      ⟨some 53, .nilchk (.t 52), none⟩,
      ⟨some 54, .faddr (.t 53) 1, none⟩,
      ⟨some 55, .load 1 false (.t 54), none⟩,
      ⟨some 56, .cp (.t 2), none⟩,
      ⟨some 57, .bslice false 1 [(.t 56)], none⟩,
      ⟨some 58, .append 1 17592186044416 (.t 55) (.t 57), none⟩,
      ⟨some 59, .nilchk (.t 51), none⟩,
      ⟨some 60, .faddr (.t 59) 1, none⟩,
      ⟨none, .store 1 (.t 60) (.t 58), none⟩] (none)))
  (.region [
    ⟨some 61, .bin .add (.t 49) (.c (.s (.int .i64 1))), none⟩,
    ⟨some 49, .cp (.t 61), none⟩] (none)))))
def x_column_reader_runs_l1 : XC :=
  (.seq (.region [
    ⟨some 10, .bin .lss (.t 9) (.t 8), none⟩] (none))
  (.seq (.cond (.t 10)
    .skip
    (.exit 0))
  (.seq (.block 1
    (.seq (.region [
      ⟨some 11, .cp (.t 0), none⟩,
      ⟨some 12, .call false i_column_reader_value [(.t 11), (.c (.s (.int .i64 0))), (.c (.s (.bool false)))], none⟩] (none))
    (.seq (.seq (.region [
      ⟨some 13, .cp (.t 0), none⟩,
      ⟨some 14, .call false i_column_reader_failed [(.t 13), (.c (.s (.bool false))), (.c (.s (.int .i64 0)))], none⟩] (none))
    (.cond (.t 14)
      .ret
      .skip))
    (.seq (.region [
      ⟨some 15, .cp (.t 0), none⟩,
      ⟨some 16, .nilchk (.t 15), none⟩,
      ⟨some 17, .faddr (.t 16) 1, none⟩,
      ⟨some 18, .load 1 false (.t 17), none⟩,
      ⟨some 19, .cp (.t 0), none⟩,
      ⟨some 20, .nilchk (.t 19), none⟩,
      ⟨some 21, .faddr (.t 20) 1, none⟩,
      ⟨some 22, .load 1 false (.t 21), none⟩,
      ⟨some 23, .len false (.t 22), none⟩,
      ⟨some 24, .bin .sub (.t 23) (.c (.s (.int .i64 1))), none⟩,
      ⟨some 25, .iaddr 1 (.t 18) (.t 24), none⟩,
      ⟨some 26, .load 1 false (.t 25), none⟩,
      ⟨some 2, .cp (.t 26), none⟩] (some []))
    (.seq (.region [
      ⟨some 27, .cp (.t 0), none⟩,
      ⟨some 28, .nilchk (.t 27), none⟩,
      ⟨some 29, .faddr (.t 28) 0, none⟩,
      ⟨some 30, .load 1 false (.t 29), none⟩,
      ⟨some 31, .call false i_encoding_Reader_Number [(.t 30)], none⟩,
      ⟨some 3, .cp (.t 31), none⟩] (none))
    (.seq (.seq (.region [
      ⟨some 32, .cp (.t 0), none⟩,
      ⟨some 33, .cp (.t 3), none⟩,
      ⟨some 34, .bin .lss (.t 33) (.c (.s (.int .i64 1))), none⟩,
      ⟨some 35, .cp (.t 34), none⟩,
      ⟨some 36, .cp (.t 3), some (35, false)⟩,
      ⟨some 37, .cp (.t 0), some (35, false)⟩,
      ⟨some 38, .nilchk (.t 37), some (35, false)⟩,
      ⟨some 39, .faddr (.t 38) 1, some (35, false)⟩,
      ⟨some 40, .load 1 false (.t 39), some (35, false)⟩,
      ⟨some 41, .len false (.t 40), some (35, false)⟩,
      ⟨some 42, .bin .sub (.c (.s (.int .i64 4096))) (.t 41), some (35, false)⟩,
      ⟨some 43, .bin .add (.t 42) (.c (.s (.int .i64 1))), some (35, false)⟩,
      ⟨some 44, .bin .gtr (.t 36) (.t 43), some (35, false)⟩,
      ⟨some 45, .pick (.t 35) (.c (.s (.bool true))) (.t 44), none⟩,
      ⟨some 46, .call false i_column_reader_failed [(.t 32), (.t 45), (.c (.s (.int .i64 2)))], none⟩] (none))
    (.cond (.t 46)
      .ret
      .skip))
    (.seq (.region [
      ⟨some 47, .cp (.t 3), none⟩,
      ⟨some 48, .bin .sub (.t 47) (.c (.s (.int .i64 1))), none⟩,
      ⟨some 49, .cp (.c (.s (.int .i64 0))), none⟩] (none))
    (.block 2
      (.loop x_column_reader_runs_l0)))))))))
  (.region [
    ⟨some 62, .bin .add (.t 9) (.c (.s (.int .i64 1))), none⟩,
    ⟨some 9, .cp (.t 62), none⟩] (none)))))
def x_column_reader_runs : XF := { np := 1, results := [], body :=
  (.seq (.seq (.region [
    ⟨some 4, .cp (.t 0), none⟩,
    ⟨some 5, .nilchk (.t 4), none⟩,
    ⟨some 6, .faddr (.t 5) 0, none⟩,
    ⟨some 7, .load 1 false (.t 6), none⟩,
    ⟨some 8, .call false i_encoding_Reader_Count [(.t 7), (.c (.s (.int .i64 4096)))], none⟩,
    ⟨some 9, .cp (.c (.s (.int .i64 0))), none⟩] (none))
  (.block 0
    (.loop x_column_reader_runs_l1)))
  (.region [
    ⟨some 63, .cp (.t 0), none⟩,
    ⟨some 64, .call false i_column_reader_failed [(.t 63), (.c (.s (.bool false))), (.c (.s (.int .i64 0)))], none⟩] (none))) }
def x_column_reader_packed_l0 : XC :=
  (.seq (.region [
    ⟨some 66, .bin .lss (.t 65) (.t 64), none⟩] (none))
  (.seq (.cond (.t 66)
    .skip
    (.exit 2))
  (.seq (.block 3
    (.seq (.region [
      ⟨some 67, .cp (.t 65), none⟩,
      ⟨some 8, .cp (.t 67), none⟩] (none))
    (.seq (.region [
      ⟨some 68, .cp (.t 6), none⟩,
      ⟨some 69, .cp (.t 4), none⟩,
      ⟨some 70, .bin .mul (.t 68) (.t 69), none⟩,
      ⟨some 71, .cp (.t 8), none⟩,
      ⟨some 72, .bin .add (.t 70) (.t 71), none⟩,
      ⟨some 9, .cp (.t 72), none⟩] (none))
    (.region [
      ⟨some 73, .cp (.t 7), none⟩,
      ⟨some 74, .cp (.t 5), none⟩,
      ⟨some 75, .cp (.t 9), none⟩,
      ⟨some 76, .bin .quo (.t 75) (.c (.s (.int .i64 8))), none⟩,
      ⟨some 77, .idxS (.t 74) (.t 76), none⟩,
      ⟨some 78, .cp (.t 9), none⟩,
      ⟨some 79, .bin .rem (.t 78) (.c (.s (.int .i64 8))), none⟩,
      ⟨some 80, .bin .shr (.t 77) (.t 79), none⟩,
      ⟨some 81, .bin .and (.t 80) (.c (.s (.int .u8 1))), none⟩,
      ⟨some 82, .conv .i64 (.t 81), none⟩,
      ⟨some 83, .cp (.t 8), none⟩,
      ⟨some 84, .bin .shl (.t 82) (.t 83), none⟩,
      ⟨some 85, .bin .or (.t 73) (.t 84), none⟩,
      ⟨some 7, .cp (.t 85), none⟩] (none)))))
  (.region [
    ⟨some 86, .bin .add (.t 65) (.c (.s (.int .i64 1))), none⟩,
    ⟨some 65, .cp (.t 86), none⟩] (none)))))
def x_column_reader_packed_l1 : XC :=
  (.seq (.region [
    ⟨some 62, .bin .lss (.t 61) (.t 60), none⟩] (none))
  (.seq (.cond (.t 62)
    .skip
    (.exit 0))
  (.seq (.block 1
    (.seq (.region [
      ⟨some 63, .cp (.t 61), none⟩,
      ⟨some 6, .cp (.t 63), none⟩] (none))
    (.seq (.region [
      ⟨some 7, .cp (.c (.s (.int .i64 0))), none⟩] (none))
    (.seq (.seq (.region [
      ⟨some 64, .cp (.t 4), none⟩,
      ⟨some 65, .cp (.c (.s (.int .i64 0))), none⟩] (none))
    (.block 2
      (.loop x_column_reader_packed_l0)))
    (.seq (.seq (.region [
      ⟨some 87, .cp (.t 0), none⟩,
      ⟨some 88, .cp (.t 3), none⟩,
      ⟨some 89, .cp (.t 7), none⟩,
      ⟨some 90, .bin .add (.t 88) (.t 89), none⟩,
      ⟨some 91, .bin .gtr (.t 90) (.c (.s (.int .i64 1152921504606846976))), none⟩,
      ⟨some 92, .call false i_column_reader_failed [(.t 87), (.t 91), (.c (.s (.int .i64 2)))], none⟩] (none))
    (.cond (.t 92)
      .ret
      .skip))
    (.region [
      ⟨some 93, .cp (.t 0), none⟩,
      ⟨some 94, .cp (.t 0), none⟩,
      ⟨some 95, .nilchk (.t 94), none⟩,
      ⟨some 96, .faddr (.t 95) 1, none⟩,
      ⟨some 97, .load 1 false (.t 96), none⟩,
      ⟨some 98, .cp (.t 3), none⟩,
      ⟨some 99, .cp (.t 7), none⟩,
      ⟨some 100, .bin .add (.t 98) (.t 99), none⟩,
      ⟨some 101, .bslice false 1 [(.t 100)], none⟩,
      ⟨some 102, .append 1 17592186044416 (.t 97) (.t 101), none⟩,
      ⟨some 103, .nilchk (.t 93), none⟩,
      ⟨some 104, .faddr (.t 103) 1, none⟩,
      ⟨none, .store 1 (.t 104) (.t 102), none⟩] (none)))))))
  (.region [
    ⟨some 105, .bin .add (.t 61) (.c (.s (.int .i64 1))), none⟩,
    ⟨some 61, .cp (.t 105), none⟩] (none)))))
def x_column_reader_packed : XF := { np := 1, results := [], body :=
  (.seq (.region [
    ⟨some 10, .cp (.t 0), none⟩,
    ⟨some 11, .nilchk (.t 10), none⟩,
    ⟨some 12, .faddr (.t 11) 0, none⟩,
    ⟨some 13, .load 1 false (.t 12), none⟩,
    ⟨some 14, .call false i_encoding_Reader_Number [(.t 13)], none⟩,
    ⟨some 2, .cp (.t 14), none⟩] (none))
  (.seq (.seq (.region [
    ⟨some 15, .cp (.t 0), none⟩,
    ⟨some 16, .cp (.t 2), none⟩,
    ⟨some 17, .bin .lss (.t 16) (.c (.s (.int .i64 0))), none⟩,
    ⟨some 18, .cp (.t 17), none⟩,
    ⟨some 19, .cp (.t 2), some (18, false)⟩,
    ⟨some 20, .bin .gtr (.t 19) (.c (.s (.int .i64 4096))), some (18, false)⟩,
    ⟨some 21, .pick (.t 18) (.c (.s (.bool true))) (.t 20), none⟩,
    ⟨some 22, .call false i_column_reader_failed [(.t 15), (.t 21), (.c (.s (.int .i64 2)))], none⟩] (none))
  (.cond (.t 22)
    .ret
    .skip))
  (.seq (.region [
    ⟨some 23, .cp (.t 0), none⟩,
    ⟨some 24, .nilchk (.t 23), none⟩,
    ⟨some 25, .faddr (.t 24) 0, none⟩,
    ⟨some 26, .load 1 false (.t 25), none⟩,
    ⟨some 27, .call false i_encoding_Reader_Number [(.t 26)], none⟩,
    ⟨some 3, .cp (.t 27), none⟩] (none))
  (.seq (.seq (.region [
    ⟨some 28, .cp (.t 0), none⟩,
    ⟨some 29, .cp (.t 3), none⟩,
    ⟨some 30, .call false i_column_wrong [(.t 29)], none⟩,
    ⟨some 31, .call false i_column_reader_failed [(.t 28), (.t 30), (.c (.s (.int .i64 2)))], none⟩] (none))
  (.cond (.t 31)
    .ret
    .skip))
  (.seq (.region [
    ⟨some 32, .cp (.t 0), none⟩,
    ⟨some 33, .nilchk (.t 32), none⟩,
    ⟨some 34, .faddr (.t 33) 0, none⟩,
    ⟨some 35, .load 1 false (.t 34), none⟩,
    ⟨some 36, .call false i_encoding_Reader_Number [(.t 35)], none⟩,
    ⟨some 4, .cp (.t 36), none⟩] (none))
  (.seq (.seq (.region [
    ⟨some 37, .cp (.t 0), none⟩,
    ⟨some 38, .cp (.t 4), none⟩,
    ⟨some 39, .bin .lss (.t 38) (.c (.s (.int .i64 0))), none⟩,
    ⟨some 40, .cp (.t 39), none⟩,
    ⟨some 41, .cp (.t 4), some (40, false)⟩,
    ⟨some 42, .bin .gtr (.t 41) (.c (.s (.int .i64 62))), some (40, false)⟩,
    ⟨some 43, .pick (.t 40) (.c (.s (.bool true))) (.t 42), none⟩,
    ⟨some 44, .call false i_column_reader_failed [(.t 37), (.t 43), (.c (.s (.int .i64 2)))], none⟩] (none))
  (.cond (.t 44)
    .ret
    .skip))
  (.seq (.region [
    ⟨some 45, .cp (.t 0), none⟩,
    ⟨some 46, .nilchk (.t 45), none⟩,
    ⟨some 47, .faddr (.t 46) 0, none⟩,
    ⟨some 48, .load 1 false (.t 47), none⟩,
    ⟨some 49, .call false i_encoding_Reader_Text [(.t 48), (.c (.s (.int .i64 32768)))], none⟩,
    ⟨some 5, .cp (.t 49), none⟩] (none))
  (.seq (.seq (.region [
    ⟨some 50, .cp (.t 0), none⟩,
    ⟨some 51, .cp (.t 5), none⟩,
    ⟨some 52, .len true (.t 51), none⟩,
    ⟨some 53, .cp (.t 2), none⟩,
    ⟨some 54, .cp (.t 4), none⟩,
    ⟨some 55, .bin .mul (.t 53) (.t 54), none⟩,
    ⟨some 56, .bin .add (.t 55) (.c (.s (.int .i64 7))), none⟩,
    ⟨some 57, .bin .quo (.t 56) (.c (.s (.int .i64 8))), none⟩,
    ⟨some 58, .bin .neq (.t 52) (.t 57), none⟩,
    ⟨some 59, .call false i_column_reader_failed [(.t 50), (.t 58), (.c (.s (.int .i64 3)))], none⟩] (none))
  (.cond (.t 59)
    .ret
    .skip))
  (.seq (.region [
    ⟨some 60, .cp (.t 2), none⟩,
    ⟨some 61, .cp (.c (.s (.int .i64 0))), none⟩] (none))
  (.block 0
    (.loop x_column_reader_packed_l1))))))))))) }
def x_sleuthref07_reader_number_l0 : XC :=
  (.seq (.seq (.region [
    ⟨some 63, .cp (.t 6), none⟩,
    ⟨some 64, .cp (.t 4), none⟩,
    ⟨some 65, .bin .lss (.t 63) (.t 64), none⟩] (none))
  (.cond (.t 65)
    .skip
    (.exit 0)))
  (.seq (.block 1
    (.seq (.region [
      ⟨some 68, .cp (.t 0), none⟩,
      ⟨some 69, .nilchk (.t 68), none⟩,
      ⟨some 70, .faddr (.t 69) 0, none⟩,
      ⟨some 71, .load 1 false (.t 70), none⟩,
      ⟨some 72, .cp (.t 0), none⟩,
      ⟨some 73, .nilchk (.t 72), none⟩,
      ⟨some 74, .faddr (.t 73) 1, none⟩,
      ⟨some 75, .load 1 false (.t 74), none⟩,
      ⟨some 76, .bin .add (.t 75) (.c (.s (.int .i64 1))), none⟩,
      ⟨some 77, .cp (.t 6), none⟩,
      ⟨some 78, .bin .add (.t 76) (.t 77), none⟩,
      ⟨some 79, .idxS (.t 71) (.t 78), none⟩,
      ⟨some 7, .cp (.t 79), none⟩] (some []))
    (.seq (.seq (.region [
      ⟨some 80, .cp (.t 3), none⟩,
      ⟨some 81, .bin .lss (.t 80) (.c (.s (.int .i64 0))), none⟩] (none))
    (.cond (.t 81)
      (.region [
        ⟨some 82, .cp (.t 7), none⟩,
        ⟨some 83, .bin .sub (.c (.s (.int .u8 255))) (.t 82), none⟩,
        ⟨some 7, .cp (.t 83), none⟩] (none))
      .skip))
    (.seq (.seq (.region [
      ⟨some 84, .cp (.t 6), none⟩,
      ⟨some 85, .bin .eql (.t 84) (.c (.s (.int .i64 0))), none⟩,
      ⟨some 86, .cp (.t 85), none⟩,
      ⟨some 87, .cp (.t 7), some (86, true)⟩,
      ⟨some 88, .bin .eql (.t 87) (.c (.s (.int .u8 0))), some (86, true)⟩,
      ⟨some 89, .pick (.t 86) (.t 88) (.c (.s (.bool false))), none⟩] (none))
    (.cond (.t 89)
      (.seq (.region [
        ⟨some 90, .cp (.t 0), none⟩,
        ⟨some 91, .nilchk (.t 90), none⟩,
        ⟨some 92, .faddr (.t 91) 2, none⟩,
        ⟨none, .store 1 (.t 92) (.c (.s (.int .i64 3))), none⟩] (none))
      (.seq (.region [
        ⟨some 2, .cp (.c (.s (.int .i64 0))), none⟩] (none))
      .ret))
      .skip))
    (.region [
      ⟨some 93, .cp (.t 5), none⟩,
      ⟨some 94, .bin .shl (.t 93) (.c (.s (.int .u64 8))), none⟩,
      ⟨some 95, .cp (.t 7), none⟩,
      ⟨some 96, .conv .u64 (.t 95), none⟩,
      ⟨some 97, .bin .add (.t 94) (.t 96), none⟩,
      ⟨some 5, .cp (.t 97), none⟩] (none))))))
  (.region [
    ⟨some 66, .cp (.t 6), none⟩,
    ⟨some 67, .bin .add (.t 66) (.c (.s (.int .i64 1))), none⟩,
    ⟨some 6, .cp (.t 67), none⟩] (none))))
def x_sleuthref07_reader_number : XF := { np := 1, results := [(.inl 2, .v)], body :=
  (.seq (.region [
    ⟨some 2, .cp (.c (.s (.int .i64 0))), none⟩] (none))
  (.seq (.seq (.region [
    ⟨some 9, .cp (.t 0), none⟩,
    ⟨some 10, .nilchk (.t 9), none⟩,
    ⟨some 11, .faddr (.t 10) 2, none⟩,
    ⟨some 12, .load 1 false (.t 11), none⟩,
    ⟨some 13, .bin .neq (.t 12) (.c (.s (.int .i64 0))), none⟩] (none))
  (.cond (.t 13)
    (.seq (.region [
      ⟨some 2, .cp (.c (.s (.int .i64 0))), none⟩] (none))
    .ret)
    .skip))
  (.seq (.seq (.region [
    ⟨some 14, .cp (.t 0), none⟩,
    ⟨some 15, .nilchk (.t 14), none⟩,
    ⟨some 16, .faddr (.t 15) 1, none⟩,
    ⟨some 17, .load 1 false (.t 16), none⟩,
    ⟨some 18, .cp (.t 0), none⟩,
    ⟨some 19, .nilchk (.t 18), none⟩,
    ⟨some 20, .faddr (.t 19) 0, none⟩,
    ⟨some 21, .load 1 false (.t 20), none⟩,
    ⟨some 22, .len true (.t 21), none⟩,
    ⟨some 23, .bin .geq (.t 17) (.t 22), none⟩] (some []))
  (.cond (.t 23)
    (.seq (.region [
      ⟨some 24, .cp (.t 0), none⟩,
      ⟨some 25, .nilchk (.t 24), none⟩,
      ⟨some 26, .faddr (.t 25) 2, none⟩,
      ⟨none, .store 1 (.t 26) (.c (.s (.int .i64 4))), none⟩] (none))
    (.seq (.region [
      ⟨some 2, .cp (.c (.s (.int .i64 0))), none⟩] (none))
    .ret))
    .skip))
  (.seq (.region [
    ⟨some 27, .cp (.t 0), none⟩,
    ⟨some 28, .nilchk (.t 27), none⟩,
    ⟨some 29, .faddr (.t 28) 0, none⟩,
    ⟨some 30, .load 1 false (.t 29), none⟩,
    ⟨some 31, .cp (.t 0), none⟩,
    ⟨some 32, .nilchk (.t 31), none⟩,
    ⟨some 33, .faddr (.t 32) 1, none⟩,
    ⟨some 34, .load 1 false (.t 33), none⟩,
    ⟨some 35, .idxS (.t 30) (.t 34), none⟩,
    ⟨some 36, .conv .i64 (.t 35), none⟩,
    ⟨some 37, .bin .sub (.t 36) (.c (.s (.int .i64 128))), none⟩,
    ⟨some 3, .cp (.t 37), none⟩] (some []))
  (.seq (.region [
    ⟨some 38, .cp (.t 3), none⟩,
    ⟨some 39, .cp (.t 3), none⟩,
    ⟨some 40, .bin .sub (.c (.s (.int .i64 0))) (.t 39), none⟩,
    ⟨some 41, .minmax true [(.t 38), (.t 40)], none⟩,
    ⟨some 4, .cp (.t 41), none⟩] (none))
  (.seq (.seq (.region [
    ⟨some 42, .cp (.t 4), none⟩,
    ⟨some 43, .bin .gtr (.t 42) (.c (.s (.int .i64 8))), none⟩] (none))
  (.cond (.t 43)
    (.seq (.region [
      ⟨some 44, .cp (.t 0), none⟩,
      ⟨some 45, .nilchk (.t 44), none⟩,
      ⟨some 46, .faddr (.t 45) 2, none⟩,
      ⟨none, .store 1 (.t 46) (.c (.s (.int .i64 3))), none⟩] (none))
    (.seq (.region [
      ⟨some 2, .cp (.c (.s (.int .i64 0))), none⟩] (none))
    .ret))
    .skip))
  (.seq (.seq (.region [
    ⟨some 47, .cp (.t 0), none⟩,
    ⟨some 48, .nilchk (.t 47), none⟩,
    ⟨some 49, .faddr (.t 48) 1, none⟩,
    ⟨some 50, .load 1 false (.t 49), none⟩,
    ⟨some 51, .bin .add (.t 50) (.c (.s (.int .i64 1))), none⟩,
    ⟨some 52, .cp (.t 4), none⟩,
    ⟨some 53, .bin .add (.t 51) (.t 52), none⟩,
    ⟨some 54, .cp (.t 0), none⟩,
    ⟨some 55, .nilchk (.t 54), none⟩,
    ⟨some 56, .faddr (.t 55) 0, none⟩,
    ⟨some 57, .load 1 false (.t 56), none⟩,
    ⟨some 58, .len true (.t 57), none⟩,
    ⟨some 59, .bin .gtr (.t 53) (.t 58), none⟩] (some []))
  (.cond (.t 59)
    (.seq (.region [
      ⟨some 60, .cp (.t 0), none⟩,
      ⟨some 61, .nilchk (.t 60), none⟩,
      ⟨some 62, .faddr (.t 61) 2, none⟩,
      ⟨none, .store 1 (.t 62) (.c (.s (.int .i64 4))), none⟩] (none))
    (.seq (.region [
      ⟨some 2, .cp (.c (.s (.int .i64 0))), none⟩] (none))
    .ret))
    .skip))
  (.seq (.region [
    ⟨some 5, .cp (.c (.s (.int .u64 0))), none⟩] (none))
  (.seq (.seq (.region [
    ⟨some 6, .cp (.c (.s (.int .i64 0))), none⟩] (none))
  (.block 0
    (.loop x_sleuthref07_reader_number_l0)))
  (.seq (.seq (.region [
    ⟨some 98, .cp (.t 3), none⟩,
    ⟨some 99, .bin .gtr (.t 98) (.c (.s (.int .i64 0))), none⟩,
    ⟨some 100, .cp (.t 99), none⟩,
    ⟨some 101, .cp (.t 5), some (100, true)⟩,
    ⟨some 102, .bin .gtr (.t 101) (.c (.s (.int .u64 9223372036854775807))), some (100, true)⟩,
    ⟨some 103, .pick (.t 100) (.t 102) (.c (.s (.bool false))), none⟩,
    ⟨some 104, .cp (.t 103), none⟩,
    ⟨some 105, .cp (.t 3), some (104, false)⟩,
    ⟨some 106, .bin .lss (.t 105) (.c (.s (.int .i64 0))), some (104, false)⟩,
    ⟨some 107, .cp (.t 106), some (104, false)⟩,
    ⟨some 108, .cp (.t 5), some (107, true)⟩,
    ⟨some 109, .bin .gtr (.t 108) (.c (.s (.int .u64 9223372036854775808))), some (107, true)⟩,
    ⟨some 110, .pick (.t 107) (.t 109) (.c (.s (.bool false))), some (104, false)⟩,
    ⟨some 111, .pick (.t 104) (.c (.s (.bool true))) (.t 110), none⟩] (none))
  (.cond (.t 111)
    (.seq (.region [
      ⟨some 112, .cp (.t 0), none⟩,
      ⟨some 113, .nilchk (.t 112), none⟩,
      ⟨some 114, .faddr (.t 113) 2, none⟩,
      ⟨none, .store 1 (.t 114) (.c (.s (.int .i64 3))), none⟩] (none))
    (.seq (.region [
      ⟨some 2, .cp (.c (.s (.int .i64 0))), none⟩] (none))
    .ret))
    .skip))
  (.seq (.region [
    ⟨some 115, .cp (.t 0), none⟩,
    ⟨some 116, .cp (.t 0), none⟩,
    ⟨some 117, .nilchk (.t 116), none⟩,
    ⟨some 118, .faddr (.t 117) 1, none⟩,
    ⟨some 119, .load 1 false (.t 118), none⟩,
    ⟨some 120, .bin .add (.t 119) (.c (.s (.int .i64 1))), none⟩,
    ⟨some 121, .cp (.t 4), none⟩,
    ⟨some 122, .bin .add (.t 120) (.t 121), none⟩,
    ⟨some 123, .nilchk (.t 115), none⟩,
    ⟨some 124, .faddr (.t 123) 1, none⟩,
    ⟨none, .store 1 (.t 124) (.t 122), none⟩] (none))
  (.seq (.region [
    ⟨some 125, .cp (.t 5), none⟩,
    ⟨some 126, .conv .i64 (.t 125), none⟩,
    ⟨some 8, .cp (.t 126), none⟩] (none))
  (.seq (.seq (.region [
    ⟨some 127, .cp (.t 3), none⟩,
    ⟨some 128, .bin .lss (.t 127) (.c (.s (.int .i64 0))), none⟩] (none))
  (.cond (.t 128)
    (.region [
      ⟨some 129, .cp (.t 5), none⟩,
      ⟨some 130, .bin .sub (.c (.s (.int .u64 0))) (.t 129), none⟩,
      ⟨some 131, .conv .i64 (.t 130), none⟩,
      ⟨some 8, .cp (.t 131), none⟩] (none))
    .skip))
  (.seq (.region [
    ⟨some 132, .cp (.t 8), none⟩,
    ⟨some 2, .cp (.t 132), none⟩] (none))
  .ret)))))))))))))) }
def x_sleuthref07_packed_l0 : XC :=
  (.seq (.seq (.region [
    ⟨some 58, .cp (.t 10), none⟩,
    ⟨some 59, .cp (.t 5), none⟩,
    ⟨some 60, .bin .lss (.t 58) (.t 59), none⟩] (none))
  (.cond (.t 60)
    .skip
    (.exit 2)))
  (.seq (.block 3
    (.seq (.region [
      ⟨some 63, .cp (.t 8), none⟩,
      ⟨some 64, .cp (.t 5), none⟩,
      ⟨some 65, .bin .mul (.t 63) (.t 64), none⟩,
      ⟨some 66, .cp (.t 10), none⟩,
      ⟨some 67, .bin .add (.t 65) (.t 66), none⟩,
      ⟨some 11, .cp (.t 67), none⟩] (none))
    (.seq (.region [
      ⟨some 68, .cp (.t 0), none⟩,
      ⟨some 69, .nilchk (.t 68), none⟩,
      ⟨some 70, .faddr (.t 69) 0, none⟩,
      ⟨some 71, .load 1 false (.t 70), none⟩,
      ⟨some 72, .cp (.t 0), none⟩,
      ⟨some 73, .nilchk (.t 72), none⟩,
      ⟨some 74, .faddr (.t 73) 1, none⟩,
      ⟨some 75, .load 1 false (.t 74), none⟩,
      ⟨some 76, .cp (.t 11), none⟩,
      ⟨some 77, .bin .quo (.t 76) (.c (.s (.int .i64 8))), none⟩,
      ⟨some 78, .bin .add (.t 75) (.t 77), none⟩,
      ⟨some 79, .idxS (.t 71) (.t 78), none⟩,
      ⟨some 80, .cp (.t 11), none⟩,
      ⟨some 81, .bin .rem (.t 80) (.c (.s (.int .i64 8))), none⟩,
      ⟨some 82, .conv .u64 (.t 81), none⟩,
      ⟨some 83, .bin .shr (.t 79) (.t 82), none⟩,
      ⟨some 84, .bin .and (.t 83) (.c (.s (.int .u8 1))), none⟩,
      ⟨some 85, .bin .eql (.t 84) (.c (.s (.int .u8 1))), none⟩] (some []))
    (.cond (.t 85)
      (.region [
        ⟨some 86, .cp (.t 9), none⟩,
        ⟨some 87, .cp (.t 10), none⟩,
        ⟨some 88, .conv .u64 (.t 87), none⟩,
        ⟨some 89, .bin .shl (.c (.s (.int .i64 1))) (.t 88), none⟩,
        ⟨some 90, .bin .add (.t 86) (.t 89), none⟩,
        ⟨some 9, .cp (.t 90), none⟩] (none))
      .skip))))
  (.region [
    ⟨some 61, .cp (.t 10), none⟩,
    ⟨some 62, .bin .add (.t 61) (.c (.s (.int .i64 1))), none⟩,
    ⟨some 10, .cp (.t 62), none⟩] (none))))
def x_sleuthref07_packed_l1 : XC :=
  (.seq (.seq (.region [
    ⟨some 46, .cp (.t 8), none⟩,
    ⟨some 47, .cp (.t 3), none⟩,
    ⟨some 48, .bin .lss (.t 46) (.t 47), none⟩,
    ⟨some 49, .cp (.t 48), none⟩,
    ⟨some 50, .cp (.t 0), some (49, true)⟩,
    ⟨some 51, .nilchk (.t 50), some (49, true)⟩,
    ⟨some 52, .faddr (.t 51) 2, some (49, true)⟩,
    ⟨some 53, .load 1 false (.t 52), some (49, true)⟩,
    ⟨some 54, .bin .eql (.t 53) (.c (.s (.int .i64 0))), some (49, true)⟩,
    ⟨some 55, .pick (.t 49) (.t 54) (.c (.s (.bool false))), none⟩] (none))
  (.cond (.t 55)
    .skip
    (.exit 0)))
  (.seq (.block 1
    (.seq (.region [
      ⟨some 9, .cp (.c (.s (.int .i64 0))), none⟩] (none))
    (.seq (.seq (.region [
      ⟨some 10, .cp (.c (.s (.int .i64 0))), none⟩] (none))
    (.block 2
      (.loop x_sleuthref07_packed_l0)))
    (.seq (.region [
      ⟨some 91, .cp (.t 0), none⟩,
      ⟨some 92, .cp (.t 4), none⟩,
      ⟨some 93, .cp (.t 9), none⟩,
      ⟨some 94, .bin .add (.t 92) (.t 93), none⟩,
      ⟨some 95, .call false i_sleuthref07_reader_ranged [(.t 91), (.t 94), (.c (.s (.int .i64 (-1152921504606846976)))), (.c (.s (.int .i64 1152921504606846976)))], none⟩] (none))
    (.region [
      ⟨some 96, .cp (.t 7), none⟩,
      ⟨some 97, .cp (.t 4), none⟩,
      ⟨some 98, .cp (.t 9), none⟩,
      ⟨some 99, .bin .add (.t 97) (.t 98), none⟩,
      ⟨some 100, .bslice false 1 [(.t 99)], none⟩,
      ⟨some 101, .append 1 17592186044416 (.t 96) (.t 100), none⟩,
      ⟨some 7, .cp (.t 101), none⟩] (none))))))
  (.region [
    ⟨some 56, .cp (.t 8), none⟩,
    ⟨some 57, .bin .add (.t 56) (.c (.s (.int .i64 1))), none⟩,
    ⟨some 8, .cp (.t 57), none⟩] (none))))
def x_sleuthref07_packed : XF := { np := 1, results := [(.inl 2, .v)], body :=
  (.seq (.region [
    ⟨some 2, .cp (.c (.s (.slice none 0 0))), none⟩] (none))
  (.seq (.region [
    ⟨some 12, .cp (.t 0), none⟩,
    ⟨some 13, .call false i_sleuthref07_reader_number [(.t 12)], none⟩,
    ⟨some 3, .cp (.t 13), none⟩] (none))
  (.seq (.region [
    ⟨some 14, .cp (.t 0), none⟩,
    ⟨some 15, .cp (.t 3), none⟩,
    ⟨some 16, .call false i_sleuthref07_reader_ranged [(.t 14), (.t 15), (.c (.s (.int .i64 0))), (.c (.s (.int .i64 4096)))], none⟩] (none))
  (.seq (.region [
    ⟨some 17, .cp (.t 0), none⟩,
    ⟨some 18, .call false i_sleuthref07_reader_number [(.t 17)], none⟩,
    ⟨some 4, .cp (.t 18), none⟩] (none))
  (.seq (.region [
    ⟨some 19, .cp (.t 0), none⟩,
    ⟨some 20, .cp (.t 4), none⟩,
    ⟨some 21, .call false i_sleuthref07_reader_ranged [(.t 19), (.t 20), (.c (.s (.int .i64 (-1152921504606846976)))), (.c (.s (.int .i64 1152921504606846976)))], none⟩] (none))
  (.seq (.region [
    ⟨some 22, .cp (.t 0), none⟩,
    ⟨some 23, .call false i_sleuthref07_reader_number [(.t 22)], none⟩,
    ⟨some 5, .cp (.t 23), none⟩] (none))
  (.seq (.region [
    ⟨some 24, .cp (.t 0), none⟩,
    ⟨some 25, .cp (.t 5), none⟩,
    ⟨some 26, .call false i_sleuthref07_reader_ranged [(.t 24), (.t 25), (.c (.s (.int .i64 0))), (.c (.s (.int .i64 62)))], none⟩] (none))
  (.seq (.region [
    ⟨some 27, .cp (.t 0), none⟩,
    ⟨some 28, .call false i_sleuthref07_reader_count [(.t 27), (.c (.s (.int .i64 32768))), (.c (.s (.int .i64 5)))], none⟩,
    ⟨some 6, .cp (.t 28), none⟩] (none))
  (.seq (.seq (.region [
    ⟨some 29, .cp (.t 0), none⟩,
    ⟨some 30, .nilchk (.t 29), none⟩,
    ⟨some 31, .faddr (.t 30) 2, none⟩,
    ⟨some 32, .load 1 false (.t 31), none⟩,
    ⟨some 33, .bin .eql (.t 32) (.c (.s (.int .i64 0))), none⟩,
    ⟨some 34, .cp (.t 33), none⟩,
    ⟨some 35, .cp (.t 6), some (34, true)⟩,
    ⟨some 36, .cp (.t 3), some (34, true)⟩,
    ⟨some 37, .cp (.t 5), some (34, true)⟩,
    ⟨some 38, .bin .mul (.t 36) (.t 37), some (34, true)⟩,
    ⟨some 39, .bin .add (.t 38) (.c (.s (.int .i64 7))), some (34, true)⟩,
    ⟨some 40, .bin .quo (.t 39) (.c (.s (.int .i64 8))), some (34, true)⟩,
    ⟨some 41, .bin .neq (.t 35) (.t 40), some (34, true)⟩,
    ⟨some 42, .pick (.t 34) (.t 41) (.c (.s (.bool false))), none⟩] (none))
  (.cond (.t 42)
    (.region [
      ⟨some 43, .cp (.t 0), none⟩,
      ⟨some 44, .nilchk (.t 43), none⟩,
      ⟨some 45, .faddr (.t 44) 2, none⟩,
      ⟨none, .store 1 (.t 45) (.c (.s (.int .i64 3))), none⟩] (none))
    .skip))
  (.seq (.region [
    ⟨some 7, .cp (.c (.s (.slice none 0 0))), none⟩] (none))
  (.seq (.seq (.region [
    ⟨some 8, .cp (.c (.s (.int .i64 0))), none⟩] (none))
  (.block 0
    (.loop x_sleuthref07_packed_l1)))
  (.seq (.region [
    ⟨some 102, .cp (.t 0), none⟩,
    ⟨some 103, .cp (.t 0), none⟩,
    ⟨some 104, .nilchk (.t 103), none⟩,
    ⟨some 105, .faddr (.t 104) 1, none⟩,
    ⟨some 106, .load 1 false (.t 105), none⟩,
    ⟨some 107, .cp (.t 6), none⟩,
    ⟨some 108, .bin .add (.t 106) (.t 107), none⟩,
    ⟨some 109, .nilchk (.t 102), none⟩,
    ⟨some 110, .faddr (.t 109) 1, none⟩,
    ⟨none, .store 1 (.t 110) (.t 108), none⟩] (none))
  (.seq (.region [
    ⟨some 111, .cp (.t 7), none⟩,
    ⟨some 2, .cp (.t 111), none⟩] (none))
  .ret))))))))))))) }
def x_sleuthref07_reader_count : XF := { np := 3, results := [(.inl 6, .v)], body :=
  (.seq (.region [
    ⟨some 6, .cp (.c (.s (.int .i64 0))), none⟩] (none))
  (.seq (.region [
    ⟨some 8, .cp (.t 0), none⟩,
    ⟨some 9, .call false i_sleuthref07_reader_number [(.t 8)], none⟩,
    ⟨some 7, .cp (.t 9), none⟩] (none))
  (.seq (.block 0
    (.seq (.region [
      ⟨some 11, .cp (.t 0), none⟩,
      ⟨some 12, .nilchk (.t 11), none⟩,
      ⟨some 13, .faddr (.t 12) 2, none⟩,
      ⟨some 14, .load 1 false (.t 13), none⟩,
      ⟨some 15, .bin .neq (.t 14) (.c (.s (.int .i64 0))), none⟩,
      ⟨some 10, .cp (.t 15), none⟩] (none))
    (.cond (.t 10)
      .skip
      (.seq (.region [
        ⟨some 17, .cp (.t 7), none⟩,
        ⟨some 18, .bin .lss (.t 17) (.c (.s (.int .i64 0))), none⟩,
        ⟨some 16, .cp (.t 18), none⟩] (none))
      (.cond (.t 16)
        (.region [
          ⟨some 19, .cp (.t 0), none⟩,
          ⟨some 20, .nilchk (.t 19), none⟩,
          ⟨some 21, .faddr (.t 20) 2, none⟩,
          ⟨none, .store 1 (.t 21) (.c (.s (.int .i64 3))), none⟩] (none))
        (.seq (.region [
          ⟨some 23, .cp (.t 7), none⟩,
          ⟨some 24, .cp (.t 1), none⟩,
          ⟨some 25, .bin .gtr (.t 23) (.t 24), none⟩,
          ⟨some 22, .cp (.t 25), none⟩] (none))
        (.cond (.t 22)
          (.region [
            ⟨some 26, .cp (.t 0), none⟩,
            ⟨some 27, .cp (.t 2), none⟩,
            ⟨some 28, .nilchk (.t 26), none⟩,
            ⟨some 29, .faddr (.t 28) 2, none⟩,
            ⟨none, .store 1 (.t 29) (.t 27), none⟩] (none))
          (.seq (.region [
            ⟨some 31, .cp (.t 7), none⟩,
            ⟨some 32, .cp (.t 0), none⟩,
            ⟨some 33, .nilchk (.t 32), none⟩,
            ⟨some 34, .faddr (.t 33) 0, none⟩,
            ⟨some 35, .load 1 false (.t 34), none⟩,
            ⟨some 36, .len true (.t 35), none⟩,
            ⟨some 37, .cp (.t 0), none⟩,
            ⟨some 38, .nilchk (.t 37), none⟩,
            ⟨some 39, .faddr (.t 38) 1, none⟩,
            ⟨some 40, .load 1 false (.t 39), none⟩,
            ⟨some 41, .bin .sub (.t 36) (.t 40), none⟩,
            ⟨some 42, .bin .gtr (.t 31) (.t 41), none⟩,
            ⟨some 30, .cp (.t 42), none⟩] (some []))
          (.cond (.t 30)
            (.region [
              ⟨some 43, .cp (.t 0), none⟩,
              ⟨some 44, .nilchk (.t 43), none⟩,
              ⟨some 45, .faddr (.t 44) 2, none⟩,
              ⟨none, .store 1 (.t 45) (.c (.s (.int .i64 4))), none⟩] (none))
            .skip)))))))))
  (.seq (.seq (.region [
    ⟨some 46, .cp (.t 0), none⟩,
    ⟨some 47, .nilchk (.t 46), none⟩,
    ⟨some 48, .faddr (.t 47) 2, none⟩,
    ⟨some 49, .load 1 false (.t 48), none⟩,
    ⟨some 50, .bin .neq (.t 49) (.c (.s (.int .i64 0))), none⟩] (none))
  (.cond (.t 50)
    (.seq (.region [
      ⟨some 6, .cp (.c (.s (.int .i64 0))), none⟩] (none))
    .ret)
    .skip))
  (.seq (.region [
    ⟨some 51, .cp (.t 7), none⟩,
    ⟨some 6, .cp (.t 51), none⟩] (none))
  .ret))))) }
def x_sleuthref07_reader_ranged : XF := { np := 4, results := [], body :=
  (.seq (.region [
    ⟨some 8, .cp (.t 0), none⟩,
    ⟨some 9, .nilchk (.t 8), none⟩,
    ⟨some 10, .faddr (.t 9) 2, none⟩,
    ⟨some 11, .load 1 false (.t 10), none⟩,
    ⟨some 12, .bin .eql (.t 11) (.c (.s (.int .i64 0))), none⟩,
    ⟨some 13, .cp (.t 12), none⟩,
    ⟨some 14, .cp (.t 1), some (13, true)⟩,
    ⟨some 15, .cp (.t 2), some (13, true)⟩,
    ⟨some 16, .bin .lss (.t 14) (.t 15), some (13, true)⟩,
    ⟨some 17, .cp (.t 16), some (13, true)⟩,
    ⟨some 18, .cp (.t 1), some (17, false)⟩,
    ⟨some 19, .cp (.t 3), some (17, false)⟩,
    ⟨some 20, .bin .gtr (.t 18) (.t 19), some (17, false)⟩,
    ⟨some 21, .pick (.t 17) (.c (.s (.bool true))) (.t 20), some (13, true)⟩,
    ⟨some 22, .pick (.t 13) (.t 21) (.c (.s (.bool false))), none⟩] (none))
  (.cond (.t 22)
    (.region [
      ⟨some 23, .cp (.t 0), none⟩,
      ⟨some 24, .nilchk (.t 23), none⟩,
      ⟨some 25, .faddr (.t 24) 2, none⟩,
      ⟨none, .store 1 (.t 25) (.c (.s (.int .i64 2))), none⟩] (none))
    .skip)) }
def x_sleuthref07_Shortest_l0 : XC :=
  (.seq (.seq (.region [
    ⟨some 10, .cp (.t 6), none⟩,
    ⟨some 11, .bin .leq (.t 10) (.c (.s (.int .i64 4))), none⟩] (none))
  (.cond (.t 11)
    .skip
    (.exit 0)))
  (.seq (.block 1
    (.seq (.region [
      ⟨some 14, .cp (.t 6), none⟩,
      ⟨some 15, .cp (.t 0), none⟩,
      ⟨some 16, .call false i_sleuthref07_Form [(.t 14), (.t 15)], none⟩,
      ⟨some 7, .cp (.t 16), none⟩] (none))
    (.seq (.region [
      ⟨some 17, .cp (.t 7), none⟩,
      ⟨some 18, .len true (.t 17), none⟩,
      ⟨some 19, .cp (.t 4), none⟩,
      ⟨some 20, .len true (.t 19), none⟩,
      ⟨some 21, .bin .lss (.t 18) (.t 20), none⟩] (none))
    (.cond (.t 21)
      (.region [
        ⟨some 22, .cp (.t 7), none⟩,
        ⟨some 23, .cp (.t 6), none⟩,
        ⟨some 4, .cp (.t 22), none⟩,
        ⟨some 5, .cp (.t 23), none⟩] (none))
      .skip))))
  (.region [
    ⟨some 12, .cp (.t 6), none⟩,
    ⟨some 13, .bin .add (.t 12) (.c (.s (.int .i64 1))), none⟩,
    ⟨some 6, .cp (.t 13), none⟩] (none))))
def x_sleuthref07_Shortest : XF := { np := 1, results := [(.inl 2, .v), (.inl 3, .v)], body :=
  (.seq (.region [
    ⟨some 2, .cp (.c (.s (.string ⟨#[]⟩))), none⟩,
    ⟨some 3, .cp (.c (.s (.int .i64 0))), none⟩] (none))
  (.seq (.region [
    ⟨some 8, .cp (.t 0), none⟩,
    ⟨some 9, .call false i_sleuthref07_Form [(.c (.s (.int .i64 1))), (.t 8)], none⟩,
    ⟨some 4, .cp (.t 9), none⟩,
    ⟨some 5, .cp (.c (.s (.int .i64 1))), none⟩] (none))
  (.seq (.seq (.region [
    ⟨some 6, .cp (.c (.s (.int .i64 2))), none⟩] (none))
  (.block 0
    (.loop x_sleuthref07_Shortest_l0)))
  (.seq (.region [
    ⟨some 24, .cp (.t 4), none⟩,
    ⟨some 25, .cp (.t 5), none⟩,
    ⟨some 2, .cp (.t 24), none⟩,
    ⟨some 3, .cp (.t 25), none⟩] (none))
  .ret)))) }
def x_slices_ContainsFunc_int_int : XF := { np := 2, results := [(.inl 4, .v)], body :=
  (.seq (.region [
    ⟨some 4, .cp (.c (.s (.bool false))), none⟩] (none))
  (.seq (.region [
    ⟨some 5, .cp (.t 0), none⟩,
    ⟨some 6, .cp (.t 1), none⟩,
    ⟨some 7, .call false i_slices_IndexFunc_int_int [(.t 5), (.t 6)], none⟩,
    ⟨some 8, .bin .geq (.t 7) (.c (.s (.int .i64 0))), none⟩,
    ⟨some 4, .cp (.t 8), none⟩] (none))
  .ret)) }
def x_column_wrong : XF := { np := 1, results := [(.inl 2, .v)], body :=
  (.seq (.region [
    ⟨some 2, .cp (.c (.s (.bool false))), none⟩] (none))
  (.seq (.region [
    ⟨some 3, .cp (.t 0), none⟩,
    ⟨some 4, .bin .lss (.t 3) (.c (.s (.int .i64 (-1152921504606846976)))), none⟩,
    ⟨some 5, .cp (.t 4), none⟩,
    ⟨some 6, .cp (.t 0), some (5, false)⟩,
    ⟨some 7, .bin .gtr (.t 6) (.c (.s (.int .i64 1152921504606846976))), some (5, false)⟩,
    ⟨some 8, .pick (.t 5) (.c (.s (.bool true))) (.t 7), none⟩,
    ⟨some 2, .cp (.t 8), none⟩] (none))
  .ret)) }
def x_column_plain_l0 : XC :=
  (.seq (.region [
    ⟨some 13, .bin .lss (.t 12) (.t 11), none⟩] (none))
  (.seq (.cond (.t 13)
    .skip
    (.exit 0))
  (.seq (.block 1
    (.seq (.region [
      ⟨some 14, .iaddr 1 (.t 10) (.t 12), none⟩,
      ⟨some 15, .load 1 false (.t 14), none⟩,
      ⟨some 5, .cp (.t 15), none⟩] (none))
    (.region [
      ⟨some 16, .cp (.t 0), none⟩,
      ⟨some 17, .cp (.t 5), none⟩,
      ⟨some 18, .call false i_encoding_Writer_Number [(.t 16), (.t 17)], none⟩] (none))))
  (.region [
    ⟨some 19, .bin .add (.t 12) (.c (.s (.int .i64 1))), none⟩,
    ⟨some 12, .cp (.t 19), none⟩] (none)))))
def x_column_plain : XF := { np := 2, results := [], body :=
  (.seq (.region [
    ⟨some 6, .cp (.t 0), none⟩,
    ⟨some 7, .cp (.t 1), none⟩,
    ⟨some 8, .len false (.t 7), none⟩,
    ⟨some 9, .call false i_encoding_Writer_Number [(.t 6), (.t 8)], none⟩] (none))
  (.seq (.region [
    ⟨some 10, .cp (.t 1), none⟩,
    ⟨some 11, .len false (.t 10), none⟩,
    ⟨some 12, .cp (.c (.s (.int .i64 0))), none⟩] (none))
  (.block 0
    (.loop x_column_plain_l0)))) }
def x_column_delta_l0 : XC :=
  (.seq (.region [
    ⟨some 14, .bin .lss (.t 13) (.t 12), none⟩] (none))
  (.seq (.cond (.t 14)
    .skip
    (.exit 0))
  (.seq (.block 1
    (.seq (.region [
      ⟨some 15, .iaddr 1 (.t 11) (.t 13), none⟩,
      ⟨some 16, .load 1 false (.t 15), none⟩,
      ⟨some 6, .cp (.t 16), none⟩] (none))
    (.seq (.region [
      ⟨some 17, .cp (.t 0), none⟩,
      ⟨some 18, .cp (.t 6), none⟩,
      ⟨some 19, .cp (.t 4), none⟩,
      ⟨some 20, .bin .sub (.t 18) (.t 19), none⟩,
      ⟨some 21, .call false i_encoding_Writer_Number [(.t 17), (.t 20)], none⟩] (none))
    (.region [
      ⟨some 22, .cp (.t 6), none⟩,
      ⟨some 4, .cp (.t 22), none⟩] (none)))))
  (.region [
    ⟨some 23, .bin .add (.t 13) (.c (.s (.int .i64 1))), none⟩,
    ⟨some 13, .cp (.t 23), none⟩] (none)))))
def x_column_delta : XF := { np := 2, results := [], body :=
  (.seq (.region [
    ⟨some 7, .cp (.t 0), none⟩,
    ⟨some 8, .cp (.t 1), none⟩,
    ⟨some 9, .len false (.t 8), none⟩,
    ⟨some 10, .call false i_encoding_Writer_Number [(.t 7), (.t 9)], none⟩] (none))
  (.seq (.region [
    ⟨some 4, .cp (.c (.s (.int .i64 0))), none⟩] (none))
  (.seq (.region [
    ⟨some 11, .cp (.t 1), none⟩,
    ⟨some 12, .len false (.t 11), none⟩,
    ⟨some 13, .cp (.c (.s (.int .i64 0))), none⟩] (none))
  (.block 0
    (.loop x_column_delta_l0))))) }
def x_column_runs_l0 : XC :=
  (.seq (.region [
    ⟨some 13, .bin .lss (.t 12) (.t 11), none⟩] (none))
  (.seq (.cond (.t 13)
    .skip
    (.exit 0))
  (.seq (.block 1
    (.seq (.region [
      ⟨some 14, .cp (.t 12), none⟩,
      ⟨some 15, .iaddr 1 (.t 10) (.t 12), none⟩,
      ⟨some 16, .load 1 false (.t 15), none⟩,
      ⟨some 5, .cp (.t 14), none⟩,
      ⟨some 6, .cp (.t 16), none⟩] (none))
    (.seq (.region [
      ⟨some 17, .cp (.t 5), none⟩,
      ⟨some 18, .bin .eql (.t 17) (.c (.s (.int .i64 0))), none⟩,
      ⟨some 19, .cp (.t 18), none⟩,
      ⟨some 20, .cp (.t 6), some (19, false)⟩,
      ⟨some 21, .cp (.t 1), some (19, false)⟩,
      ⟨some 22, .cp (.t 5), some (19, false)⟩,
      ⟨some 23, .bin .sub (.t 22) (.c (.s (.int .i64 1))), some (19, false)⟩,
      ⟨some 24, .iaddr 1 (.t 21) (.t 23), some (19, false)⟩,
      ⟨some 25, .load 1 false (.t 24), some (19, false)⟩,
      ⟨some 26, .bin .neq (.t 20) (.t 25), some (19, false)⟩,
      ⟨some 27, .pick (.t 19) (.c (.s (.bool true))) (.t 26), none⟩] (none))
    (.cond (.t 27)
      (.region [
        ⟨some 28, .cp (.t 4), none⟩,
        ⟨some 29, .cp (.t 5), none⟩,
        ⟨some 30, .bslice false 1 [(.t 29)], none⟩,
        ⟨some 31, .append 1 17592186044416 (.t 28) (.t 30), none⟩,
        ⟨some 4, .cp (.t 31), none⟩] (none))
      .skip))))
  (.region [
    ⟨some 32, .bin .add (.t 12) (.c (.s (.int .i64 1))), none⟩,
    ⟨some 12, .cp (.t 32), none⟩] (none)))))
def x_column_runs_l1 : XC :=
  (.seq (.region [
    ⟨some 40, .bin .lss (.t 39) (.t 38), none⟩] (none))
  (.seq (.cond (.t 40)
    .skip
    (.exit 2))
  (.seq (.block 3
    (.seq (.region [
      ⟨some 41, .cp (.t 39), none⟩,
      ⟨some 42, .iaddr 1 (.t 37) (.t 39), none⟩,
      ⟨some 43, .load 1 false (.t 42), none⟩,
      ⟨some 7, .cp (.t 41), none⟩,
      ⟨some 8, .cp (.t 43), none⟩] (none))
    (.seq (.region [
      ⟨some 44, .cp (.t 1), none⟩,
      ⟨some 45, .len false (.t 44), none⟩,
      ⟨some 9, .cp (.t 45), none⟩] (none))
    (.seq (.seq (.region [
      ⟨some 46, .cp (.t 7), none⟩,
      ⟨some 47, .bin .add (.t 46) (.c (.s (.int .i64 1))), none⟩,
      ⟨some 48, .cp (.t 4), none⟩,
      ⟨some 49, .len false (.t 48), none⟩,
      ⟨some 50, .bin .lss (.t 47) (.t 49), none⟩] (none))
    (.cond (.t 50)
      (.region [
        ⟨some 51, .cp (.t 4), none⟩,
        ⟨some 52, .cp (.t 7), none⟩,
        ⟨some 53, .bin .add (.t 52) (.c (.s (.int .i64 1))), none⟩,
        ⟨some 54, .iaddr 1 (.t 51) (.t 53), none⟩,
        ⟨some 55, .load 1 false (.t 54), none⟩,
        ⟨some 9, .cp (.t 55), none⟩] (none))
      .skip))
    (.seq (.region [
      ⟨some 56, .cp (.t 0), none⟩,
      ⟨some 57, .cp (.t 1), none⟩,
      ⟨some 58, .cp (.t 8), none⟩,
      ⟨some 59, .iaddr 1 (.t 57) (.t 58), none⟩,
      ⟨some 60, .load 1 false (.t 59), none⟩,
      ⟨some 61, .call false i_encoding_Writer_Number [(.t 56), (.t 60)], none⟩] (none))
    (.region [
      ⟨some 62, .cp (.t 0), none⟩,
      ⟨some 63, .cp (.t 9), none⟩,
      ⟨some 64, .cp (.t 8), none⟩,
      ⟨some 65, .bin .sub (.t 63) (.t 64), none⟩,
      ⟨some 66, .call false i_encoding_Writer_Number [(.t 62), (.t 65)], none⟩] (none)))))))
  (.region [
    ⟨some 67, .bin .add (.t 39) (.c (.s (.int .i64 1))), none⟩,
    ⟨some 39, .cp (.t 67), none⟩] (none)))))
def x_column_runs : XF := { np := 2, results := [], body :=
  (.seq (.region [
    ⟨some 4, .cp (.c (.s (.slice none 0 0))), none⟩] (none))
  (.seq (.seq (.region [
    ⟨some 10, .cp (.t 1), none⟩,
    ⟨some 11, .len false (.t 10), none⟩,
    ⟨some 12, .cp (.c (.s (.int .i64 0))), none⟩] (none))
  (.block 0
    (.loop x_column_runs_l0)))
  (.seq (.region [
    ⟨some 33, .cp (.t 0), none⟩,
    ⟨some 34, .cp (.t 4), none⟩,
    ⟨some 35, .len false (.t 34), none⟩,
    ⟨some 36, .call false i_encoding_Writer_Number [(.t 33), (.t 35)], none⟩] (none))
  (.seq (.region [
    ⟨some 37, .cp (.t 4), none⟩,
    ⟨some 38, .len false (.t 37), none⟩,
    ⟨some 39, .cp (.c (.s (.int .i64 0))), none⟩] (none))
  (.block 2
    (.loop x_column_runs_l1)))))) }
def x_column_packed_l0 : XC :=
  (.seq (.region [
    ⟨some 36, .bin .lss (.t 35) (.t 34), none⟩] (none))
  (.seq (.cond (.t 36)
    .skip
    (.exit 2))
  (.seq (.block 3
    (.seq (.region [
      ⟨some 37, .cp (.t 35), none⟩,
      ⟨some 9, .cp (.t 37), none⟩] (none))
    (.seq (.region [
      ⟨some 38, .cp (.t 7), none⟩,
      ⟨some 39, .cp (.t 5), none⟩,
      ⟨some 40, .bin .mul (.t 38) (.t 39), none⟩,
      ⟨some 41, .cp (.t 9), none⟩,
      ⟨some 42, .bin .add (.t 40) (.t 41), none⟩,
      ⟨some 10, .cp (.t 42), none⟩] (none))
    (.region [
      ⟨some 43, .cp (.t 6), none⟩,
      ⟨some 44, .cp (.t 10), none⟩,
      ⟨some 45, .bin .quo (.t 44) (.c (.s (.int .i64 8))), none⟩,
      ⟨some 46, .iaddr 1 (.t 43) (.t 45), none⟩,
      ⟨some 47, .load 1 false (.t 46), none⟩,
      ⟨some 48, .cp (.t 8), none⟩,
      ⟨some 49, .faddr (.t 4) 0, none⟩,
      ⟨some 50, .load 1 false (.t 49), none⟩,
      ⟨some 51, .bin .sub (.t 48) (.t 50), none⟩,
      ⟨some 52, .cp (.t 9), none⟩,
      ⟨some 53, .bin .shr (.t 51) (.t 52), none⟩,
      ⟨some 54, .bin .and (.t 53) (.c (.s (.int .i64 1))), none⟩,
      ⟨some 55, .conv .u8 (.t 54), none⟩,
      ⟨some 56, .cp (.t 10), none⟩,
      ⟨some 57, .bin .rem (.t 56) (.c (.s (.int .i64 8))), none⟩,
      ⟨some 58, .bin .shl (.t 55) (.t 57), none⟩,
      ⟨some 59, .bin .or (.t 47) (.t 58), none⟩,
      ⟨some 60, .iaddr 1 (.t 43) (.t 45), none⟩,
      ⟨none, .store 1 (.t 60) (.t 59), none⟩] (some [])))))
  (.region [
    ⟨some 61, .bin .add (.t 35) (.c (.s (.int .i64 1))), none⟩,
    ⟨some 35, .cp (.t 61), none⟩] (none)))))
def x_column_packed_l1 : XC :=
  (.seq (.region [
    ⟨some 30, .bin .lss (.t 29) (.t 28), none⟩] (none))
  (.seq (.cond (.t 30)
    .skip
    (.exit 0))
  (.seq (.block 1
    (.seq (.region [
      ⟨some 31, .cp (.t 29), none⟩,
      ⟨some 32, .iaddr 1 (.t 27) (.t 29), none⟩,
      ⟨some 33, .load 1 false (.t 32), none⟩,
      ⟨some 7, .cp (.t 31), none⟩,
      ⟨some 8, .cp (.t 33), none⟩] (none))
    (.seq (.region [
      ⟨some 34, .cp (.t 5), none⟩,
      ⟨some 35, .cp (.c (.s (.int .i64 0))), none⟩] (none))
    (.block 2
      (.loop x_column_packed_l0)))))
  (.region [
    ⟨some 62, .bin .add (.t 29) (.c (.s (.int .i64 1))), none⟩,
    ⟨some 29, .cp (.t 62), none⟩] (none)))))
def x_column_packed : XF := { np := 2, results := [], body :=
  (.seq (.region [
    ⟨some 11, .cp (.t 1), none⟩,
    ⟨some 12, .call false i_column_zone [(.t 11)], none⟩,
    ⟨some 4, .alloc [.s (.int .i64 0), .s (.int .i64 0)], none⟩,
    ⟨none, .store 2 (.t 4) (.t 12), none⟩] (none))
  (.seq (.region [
    ⟨some 13, .faddr (.t 4) 1, none⟩,
    ⟨some 14, .load 1 false (.t 13), none⟩,
    ⟨some 15, .faddr (.t 4) 0, none⟩,
    ⟨some 16, .load 1 false (.t 15), none⟩,
    ⟨some 17, .bin .sub (.t 14) (.t 16), none⟩,
    ⟨some 18, .conv .u64 (.t 17), none⟩,
    ⟨some 19, .call false i_math_bits_Len [(.t 18)], none⟩,
    ⟨some 5, .cp (.t 19), none⟩] (none))
  (.seq (.region [
    ⟨some 20, .cp (.t 1), none⟩,
    ⟨some 21, .len false (.t 20), none⟩,
    ⟨some 22, .cp (.t 5), none⟩,
    ⟨some 23, .bin .mul (.t 21) (.t 22), none⟩,
    ⟨some 24, .bin .add (.t 23) (.c (.s (.int .i64 7))), none⟩,
    ⟨some 25, .bin .quo (.t 24) (.c (.s (.int .i64 8))), none⟩,
    ⟨some 26, .mkslice 1 (.s (.int .u8 0)) 140737488355328 (.t 25) (.t 25), none⟩,
    ⟨some 6, .cp (.t 26), none⟩] (none))
  (.seq (.seq (.region [
    ⟨some 27, .cp (.t 1), none⟩,
    ⟨some 28, .len false (.t 27), none⟩,
    ⟨some 29, .cp (.c (.s (.int .i64 0))), none⟩] (none))
  (.block 0
    (.loop x_column_packed_l1)))
  (.seq (.region [
    ⟨some 63, .cp (.t 0), none⟩,
    ⟨some 64, .cp (.t 1), none⟩,
    ⟨some 65, .len false (.t 64), none⟩,
    ⟨some 66, .call false i_encoding_Writer_Number [(.t 63), (.t 65)], none⟩] (none))
  (.seq (.region [
    ⟨some 67, .cp (.t 0), none⟩,
    ⟨some 68, .faddr (.t 4) 0, none⟩,
    ⟨some 69, .load 1 false (.t 68), none⟩,
    ⟨some 70, .call false i_encoding_Writer_Number [(.t 67), (.t 69)], none⟩] (none))
  (.seq (.region [
    ⟨some 71, .cp (.t 0), none⟩,
    ⟨some 72, .cp (.t 5), none⟩,
    ⟨some 73, .call false i_encoding_Writer_Number [(.t 71), (.t 72)], none⟩] (none))
  (.region [
    ⟨some 74, .cp (.t 0), none⟩,
    ⟨some 75, .cp (.t 6), none⟩,
    ⟨some 76, .toStr (.t 75), none⟩,
    ⟨some 77, .call false i_encoding_Writer_Text [(.t 74), (.t 76)], none⟩] (none))))))))) }
def x_slices_Min_int_int_l0 : XC :=
  (.seq (.seq (.region [
    ⟨some 12, .cp (.t 4), none⟩,
    ⟨some 13, .cp (.t 0), none⟩,
    ⟨some 14, .len false (.t 13), none⟩,
    ⟨some 15, .bin .lss (.t 12) (.t 14), none⟩] (none))
  (.cond (.t 15)
    .skip
    (.exit 0)))
  (.seq (.block 1
    (.region [
      ⟨some 18, .cp (.t 3), none⟩,
      ⟨some 19, .cp (.t 0), none⟩,
      ⟨some 20, .cp (.t 4), none⟩,
      ⟨some 21, .iaddr 1 (.t 19) (.t 20), none⟩,
      ⟨some 22, .load 1 false (.t 21), none⟩,
      ⟨some 23, .minmax false [(.t 18), (.t 22)], none⟩,
      ⟨some 3, .cp (.t 23), none⟩] (none)))
  (.region [
    ⟨some 16, .cp (.t 4), none⟩,
    ⟨some 17, .bin .add (.t 16) (.c (.s (.int .i64 1))), none⟩,
    ⟨some 4, .cp (.t 17), none⟩] (none))))
def x_slices_Min_int_int : XF := { np := 1, results := [(.inl 2, .v)], body :=
  (.seq (.region [
    ⟨some 2, .cp (.c (.s (.int .i64 0))), none⟩] (none))
  (.seq (.seq (.region [
    ⟨some 5, .cp (.t 0), none⟩,
    ⟨some 6, .len false (.t 5), none⟩,
    ⟨some 7, .bin .lss (.t 6) (.c (.s (.int .i64 1))), none⟩] (none))
  (.cond (.t 7)
    (.region [
      ⟨some 8, .slArr 0 (.c (.s (.slice none 0 0))), none⟩,
      ⟨none, .slArr 0 (.c (.s (.slice none 0 0))), none⟩] (none))
    .skip))
  (.seq (.region [
    ⟨some 9, .cp (.t 0), none⟩,
    ⟨some 10, .iaddr 1 (.t 9) (.c (.s (.int .i64 0))), none⟩,
    ⟨some 11, .load 1 false (.t 10), none⟩,
    ⟨some 3, .cp (.t 11), none⟩] (none))
  (.seq (.seq (.region [
    ⟨some 4, .cp (.c (.s (.int .i64 1))), none⟩] (none))
  (.block 0
    (.loop x_slices_Min_int_int_l0)))
  (.seq (.region [
    ⟨some 24, .cp (.t 3), none⟩,
    ⟨some 2, .cp (.t 24), none⟩] (none))
  .ret))))) }
def x_slices_Max_int_int_l0 : XC :=
  (.seq (.seq (.region [
    ⟨some 12, .cp (.t 4), none⟩,
    ⟨some 13, .cp (.t 0), none⟩,
    ⟨some 14, .len false (.t 13), none⟩,
    ⟨some 15, .bin .lss (.t 12) (.t 14), none⟩] (none))
  (.cond (.t 15)
    .skip
    (.exit 0)))
  (.seq (.block 1
    (.region [
      ⟨some 18, .cp (.t 3), none⟩,
      ⟨some 19, .cp (.t 0), none⟩,
      ⟨some 20, .cp (.t 4), none⟩,
      ⟨some 21, .iaddr 1 (.t 19) (.t 20), none⟩,
      ⟨some 22, .load 1 false (.t 21), none⟩,
      ⟨some 23, .minmax true [(.t 18), (.t 22)], none⟩,
      ⟨some 3, .cp (.t 23), none⟩] (none)))
  (.region [
    ⟨some 16, .cp (.t 4), none⟩,
    ⟨some 17, .bin .add (.t 16) (.c (.s (.int .i64 1))), none⟩,
    ⟨some 4, .cp (.t 17), none⟩] (none))))
def x_slices_Max_int_int : XF := { np := 1, results := [(.inl 2, .v)], body :=
  (.seq (.region [
    ⟨some 2, .cp (.c (.s (.int .i64 0))), none⟩] (none))
  (.seq (.seq (.region [
    ⟨some 5, .cp (.t 0), none⟩,
    ⟨some 6, .len false (.t 5), none⟩,
    ⟨some 7, .bin .lss (.t 6) (.c (.s (.int .i64 1))), none⟩] (none))
  (.cond (.t 7)
    (.region [
      ⟨some 8, .slArr 0 (.c (.s (.slice none 0 0))), none⟩,
      ⟨none, .slArr 0 (.c (.s (.slice none 0 0))), none⟩] (none))
    .skip))
  (.seq (.region [
    ⟨some 9, .cp (.t 0), none⟩,
    ⟨some 10, .iaddr 1 (.t 9) (.c (.s (.int .i64 0))), none⟩,
    ⟨some 11, .load 1 false (.t 10), none⟩,
    ⟨some 3, .cp (.t 11), none⟩] (none))
  (.seq (.seq (.region [
    ⟨some 4, .cp (.c (.s (.int .i64 1))), none⟩] (none))
  (.block 0
    (.loop x_slices_Max_int_int_l0)))
  (.seq (.region [
    ⟨some 24, .cp (.t 3), none⟩,
    ⟨some 2, .cp (.t 24), none⟩] (none))
  .ret))))) }
def x_column_reader_value : XF := { np := 3, results := [], body :=
  (.seq (.region [
    ⟨some 7, .cp (.t 0), none⟩,
    ⟨some 8, .nilchk (.t 7), none⟩,
    ⟨some 9, .faddr (.t 8) 0, none⟩,
    ⟨some 10, .load 1 false (.t 9), none⟩,
    ⟨some 11, .call false i_encoding_Reader_Number [(.t 10)], none⟩,
    ⟨some 6, .cp (.t 11), none⟩] (none))
  (.seq (.seq (.region [
    ⟨some 12, .cp (.t 0), none⟩,
    ⟨some 13, .cp (.t 2), none⟩,
    ⟨some 14, .cp (.t 13), none⟩,
    ⟨some 15, .cp (.t 6), some (14, true)⟩,
    ⟨some 16, .bin .lss (.t 15) (.c (.s (.int .i64 (-2305843009213693952)))), some (14, true)⟩,
    ⟨some 17, .cp (.t 16), some (14, true)⟩,
    ⟨some 18, .cp (.t 6), some (17, false)⟩,
    ⟨some 19, .bin .gtr (.t 18) (.c (.s (.int .i64 2305843009213693952))), some (17, false)⟩,
    ⟨some 20, .pick (.t 17) (.c (.s (.bool true))) (.t 19), some (14, true)⟩,
    ⟨some 21, .pick (.t 14) (.t 20) (.c (.s (.bool false))), none⟩,
    ⟨some 22, .call false i_column_reader_failed [(.t 12), (.t 21), (.c (.s (.int .i64 2)))], none⟩] (none))
  (.cond (.t 22)
    .ret
    .skip))
  (.seq (.seq (.region [
    ⟨some 23, .cp (.t 2), none⟩,
    ⟨some 24, .un .not (.t 23), none⟩] (none))
  (.cond (.t 24)
    (.seq (.region [
      ⟨some 1, .cp (.c (.s (.int .i64 0))), none⟩] (none))
    (.seq (.region [
      ⟨some 25, .cp (.t 0), none⟩,
      ⟨some 26, .cp (.t 6), none⟩,
      ⟨some 27, .call false i_column_wrong [(.t 26)], none⟩,
      ⟨some 28, .call false i_column_reader_failed [(.t 25), (.t 27), (.c (.s (.int .i64 2)))], none⟩] (none))
    (.cond (.t 28)
      .ret
      .skip)))
    .skip))
  (.seq (.seq (.region [
    ⟨some 29, .cp (.t 0), none⟩,
    ⟨some 30, .cp (.t 1), none⟩,
    ⟨some 31, .cp (.t 6), none⟩,
    ⟨some 32, .bin .add (.t 30) (.t 31), none⟩,
    ⟨some 33, .call false i_column_wrong [(.t 32)], none⟩,
    ⟨some 34, .call false i_column_reader_failed [(.t 29), (.t 33), (.c (.s (.int .i64 2)))], none⟩] (none))
  (.cond (.t 34)
    .ret
    .skip))
  (.region [
    ⟨some 35, .cp (.t 0), none⟩,
    ⟨some 36, .cp (.t 0), none⟩,
    ⟨some 37, .nilchk (.t 36), none⟩,
    ⟨some 38, .faddr (.t 37) 1, none⟩,
    ⟨some 39, .load 1 false (.t 38), none⟩,
    ⟨some 40, .cp (.t 1), none⟩,
    ⟨some 41, .cp (.t 6), none⟩,
    ⟨some 42, .bin .add (.t 40) (.t 41), none⟩,
    ⟨some 43, .bslice false 1 [(.t 42)], none⟩,
    ⟨some 44, .append 1 17592186044416 (.t 39) (.t 43), none⟩,
    ⟨some 45, .nilchk (.t 35), none⟩,
    ⟨some 46, .faddr (.t 45) 1, none⟩,
    ⟨none, .store 1 (.t 46) (.t 44), none⟩] (none)))))) }
def x_slices_IndexFunc_int_int_l0 : XC :=
  (.seq (.region [
    ⟨some 9, .bin .lss (.t 8) (.t 7), none⟩] (none))
  (.seq (.cond (.t 9)
    .skip
    (.exit 0))
  (.seq (.block 1
    (.seq (.region [
      ⟨some 10, .cp (.t 8), none⟩,
      ⟨some 5, .cp (.t 10), none⟩] (none))
    (.seq (.region [
      ⟨some 11, .cp (.t 1), none⟩,
      ⟨some 12, .cp (.t 0), none⟩,
      ⟨some 13, .cp (.t 5), none⟩,
      ⟨some 14, .iaddr 1 (.t 12) (.t 13), none⟩,
      ⟨some 15, .load 1 false (.t 14), none⟩,
      ⟨some 16, .callv false (.t 11) [(.t 15)], none⟩] (none))
    (.cond (.t 16)
      (.seq (.region [
        ⟨some 17, .cp (.t 5), none⟩,
        ⟨some 4, .cp (.t 17), none⟩] (none))
      .ret)
      .skip))))
  (.region [
    ⟨some 18, .bin .add (.t 8) (.c (.s (.int .i64 1))), none⟩,
    ⟨some 8, .cp (.t 18), none⟩] (none)))))
def x_slices_IndexFunc_int_int : XF := { np := 2, results := [(.inl 4, .v)], body :=
  (.seq (.region [
    ⟨some 4, .cp (.c (.s (.int .i64 0))), none⟩] (none))
  (.seq (.seq (.region [
    ⟨some 6, .cp (.t 0), none⟩,
    ⟨some 7, .len false (.t 6), none⟩,
    ⟨some 8, .cp (.c (.s (.int .i64 0))), none⟩] (none))
  (.block 0
    (.loop x_slices_IndexFunc_int_int_l0)))
  (.seq (.region [
    ⟨some 4, .cp (.c (.s (.int .i64 (-1)))), none⟩] (none))
  .ret))) }
def x_math_bits_Len : XF := { np := 1, results := [(.inl 2, .v)], body :=
  (.seq (.region [
    ⟨some 2, .cp (.c (.s (.int .i64 0))), none⟩] (none))
  (.seq (.cond (.c (.s (.bool false)))
    (.seq (.region [
      ⟨some 3, .cp (.t 0), none⟩,
      ⟨some 4, .conv .u32 (.t 3), none⟩,
      ⟨some 5, .call false i_math_bits_Len32 [(.t 4)], none⟩,
      ⟨some 2, .cp (.t 5), none⟩] (none))
    .ret)
    .skip)
  (.seq (.region [
    ⟨some 6, .cp (.t 0), none⟩,
    ⟨some 7, .call false i_math_bits_Len64 [(.t 6)], none⟩,
    ⟨some 2, .cp (.t 7), none⟩] (none))
  .ret))) }
def x_math_bits_Len32_s0 : ByteArray :=
  ⟨#[0, 1, 2, 2, 3, 3, 3, 3, 4, 4, 4, 4, 4, 4, 4, 4, 5, 5, 5, 5, 5, 5, 5, 5, 5, 5, 5, 5, 5, 5, 5, 5, 6, 6, 6, 6, 6, 6, 6, 6, 6, 6, 6, 6, 6, 6, 6, 6, 6, 6, 6, 6, 6, 6, 6, 6, 6, 6, 6, 6, 6, 6, 6, 6, 7, 7, 7, 7, 7, 7, 7, 7, 7, 7, 7, 7, 7, 7, 7, 7, 7, 7, 7, 7, 7, 7, 7, 7, 7, 7, 7, 7, 7, 7, 7, 7, 7, 7, 7, 7, 7, 7, 7, 7, 7, 7, 7, 7, 7, 7, 7, 7, 7, 7, 7, 7, 7, 7, 7, 7, 7, 7, 7, 7, 7, 7, 7, 7, 8, 8, 8, 8, 8, 8, 8, 8, 8, 8, 8, 8, 8, 8, 8, 8, 8, 8, 8, 8, 8, 8, 8, 8, 8, 8, 8, 8, 8, 8, 8, 8, 8, 8, 8, 8, 8, 8, 8, 8, 8, 8, 8, 8, 8, 8, 8, 8, 8, 8, 8, 8, 8, 8, 8, 8, 8, 8, 8, 8, 8, 8, 8, 8, 8, 8, 8, 8, 8, 8, 8, 8, 8, 8, 8, 8, 8, 8, 8, 8, 8, 8, 8, 8, 8, 8, 8, 8, 8, 8, 8, 8, 8, 8, 8, 8, 8, 8, 8, 8, 8, 8, 8, 8, 8, 8, 8, 8, 8, 8, 8, 8, 8, 8, 8, 8, 8, 8, 8, 8, 8, 8, 8, 8, 8, 8, 8, 8]⟩
def x_math_bits_Len32 : XF := { np := 1, results := [(.inl 2, .v)], body :=
  (.seq (.region [
    ⟨some 2, .cp (.c (.s (.int .i64 0))), none⟩] (none))
  (.seq (.seq (.region [
    ⟨some 3, .cp (.t 0), none⟩,
    ⟨some 4, .bin .geq (.t 3) (.c (.s (.int .u32 65536))), none⟩] (none))
  (.cond (.t 4)
    (.seq (.region [
      ⟨some 5, .cp (.t 0), none⟩,
      ⟨some 6, .bin .shr (.t 5) (.c (.s (.int .u64 16))), none⟩,
      ⟨some 0, .cp (.t 6), none⟩] (none))
    (.region [
      ⟨some 2, .cp (.c (.s (.int .i64 16))), none⟩] (none)))
    .skip))
  (.seq (.seq (.region [
    ⟨some 7, .cp (.t 0), none⟩,
    ⟨some 8, .bin .geq (.t 7) (.c (.s (.int .u32 256))), none⟩] (none))
  (.cond (.t 8)
    (.seq (.region [
      ⟨some 9, .cp (.t 0), none⟩,
      ⟨some 10, .bin .shr (.t 9) (.c (.s (.int .u64 8))), none⟩,
      ⟨some 0, .cp (.t 10), none⟩] (none))
    (.region [
      ⟨some 11, .cp (.t 2), none⟩,
      ⟨some 12, .bin .add (.t 11) (.c (.s (.int .i64 8))), none⟩,
      ⟨some 2, .cp (.t 12), none⟩] (none)))
    .skip))
  (.seq (.region [
    ⟨some 13, .cp (.t 2), none⟩,
    ⟨some 14, .cp (.t 0), none⟩,
    ⟨some 15, .conv .u8 (.t 14), none⟩,
    ⟨some 16, .idxS (.c (.s (.string x_math_bits_Len32_s0))) (.t 15), none⟩,
    ⟨some 17, .conv .i64 (.t 16), none⟩,
    ⟨some 18, .bin .add (.t 13) (.t 17), none⟩,
    ⟨some 2, .cp (.t 18), none⟩] (none))
  .ret)))) }
def x_math_bits_Len64_s0 : ByteArray :=
  ⟨#[0, 1, 2, 2, 3, 3, 3, 3, 4, 4, 4, 4, 4, 4, 4, 4, 5, 5, 5, 5, 5, 5, 5, 5, 5, 5, 5, 5, 5, 5, 5, 5, 6, 6, 6, 6, 6, 6, 6, 6, 6, 6, 6, 6, 6, 6, 6, 6, 6, 6, 6, 6, 6, 6, 6, 6, 6, 6, 6, 6, 6, 6, 6, 6, 7, 7, 7, 7, 7, 7, 7, 7, 7, 7, 7, 7, 7, 7, 7, 7, 7, 7, 7, 7, 7, 7, 7, 7, 7, 7, 7, 7, 7, 7, 7, 7, 7, 7, 7, 7, 7, 7, 7, 7, 7, 7, 7, 7, 7, 7, 7, 7, 7, 7, 7, 7, 7, 7, 7, 7, 7, 7, 7, 7, 7, 7, 7, 7, 8, 8, 8, 8, 8, 8, 8, 8, 8, 8, 8, 8, 8, 8, 8, 8, 8, 8, 8, 8, 8, 8, 8, 8, 8, 8, 8, 8, 8, 8, 8, 8, 8, 8, 8, 8, 8, 8, 8, 8, 8, 8, 8, 8, 8, 8, 8, 8, 8, 8, 8, 8, 8, 8, 8, 8, 8, 8, 8, 8, 8, 8, 8, 8, 8, 8, 8, 8, 8, 8, 8, 8, 8, 8, 8, 8, 8, 8, 8, 8, 8, 8, 8, 8, 8, 8, 8, 8, 8, 8, 8, 8, 8, 8, 8, 8, 8, 8, 8, 8, 8, 8, 8, 8, 8, 8, 8, 8, 8, 8, 8, 8, 8, 8, 8, 8, 8, 8, 8, 8, 8, 8, 8, 8, 8, 8, 8, 8]⟩
def x_math_bits_Len64 : XF := { np := 1, results := [(.inl 2, .v)], body :=
  (.seq (.region [
    ⟨some 2, .cp (.c (.s (.int .i64 0))), none⟩] (none))
  (.seq (.seq (.region [
    ⟨some 3, .cp (.t 0), none⟩,
    ⟨some 4, .bin .geq (.t 3) (.c (.s (.int .u64 4294967296))), none⟩] (none))
  (.cond (.t 4)
    (.seq (.region [
      ⟨some 5, .cp (.t 0), none⟩,
      ⟨some 6, .bin .shr (.t 5) (.c (.s (.int .u64 32))), none⟩,
      ⟨some 0, .cp (.t 6), none⟩] (none))
    (.region [
      ⟨some 2, .cp (.c (.s (.int .i64 32))), none⟩] (none)))
    .skip))
  (.seq (.seq (.region [
    ⟨some 7, .cp (.t 0), none⟩,
    ⟨some 8, .bin .geq (.t 7) (.c (.s (.int .u64 65536))), none⟩] (none))
  (.cond (.t 8)
    (.seq (.region [
      ⟨some 9, .cp (.t 0), none⟩,
      ⟨some 10, .bin .shr (.t 9) (.c (.s (.int .u64 16))), none⟩,
      ⟨some 0, .cp (.t 10), none⟩] (none))
    (.region [
      ⟨some 11, .cp (.t 2), none⟩,
      ⟨some 12, .bin .add (.t 11) (.c (.s (.int .i64 16))), none⟩,
      ⟨some 2, .cp (.t 12), none⟩] (none)))
    .skip))
  (.seq (.seq (.region [
    ⟨some 13, .cp (.t 0), none⟩,
    ⟨some 14, .bin .geq (.t 13) (.c (.s (.int .u64 256))), none⟩] (none))
  (.cond (.t 14)
    (.seq (.region [
      ⟨some 15, .cp (.t 0), none⟩,
      ⟨some 16, .bin .shr (.t 15) (.c (.s (.int .u64 8))), none⟩,
      ⟨some 0, .cp (.t 16), none⟩] (none))
    (.region [
      ⟨some 17, .cp (.t 2), none⟩,
      ⟨some 18, .bin .add (.t 17) (.c (.s (.int .i64 8))), none⟩,
      ⟨some 2, .cp (.t 18), none⟩] (none)))
    .skip))
  (.seq (.region [
    ⟨some 19, .cp (.t 2), none⟩,
    ⟨some 20, .cp (.t 0), none⟩,
    ⟨some 21, .conv .u8 (.t 20), none⟩,
    ⟨some 22, .idxS (.c (.s (.string x_math_bits_Len64_s0))) (.t 21), none⟩,
    ⟨some 23, .conv .i64 (.t 22), none⟩,
    ⟨some 24, .bin .add (.t 19) (.t 23), none⟩,
    ⟨some 2, .cp (.t 24), none⟩] (none))
  .ret))))) }
def XP : Nat → Option XF := fun n => ([none, none, none, none, none, none, none, none, none, some x_encoding_Writer_Number, some x_encoding_Writer_Bytes, none, some x_encoding_NewReader, none, none, some x_encoding_Reader_Number, none, some x_encoding_Reader_Left, none, none, some x_encoding_Reader_Err, none, none, none, none, none, none, none, none, none, none, none, none, none, some x_encoding_Writer_Text, none, none, none, some x_encoding_Reader_Text, some x_encoding_Reader_Count, none, none, none, none, none, none, none, some x_encoding_magnitude, none, none, some x_encoding_Reader_ok, some x_encoding_Reader_number, some x_encoding_Reader_fail, none, none, none, none, none, none, none, none, none, none, none, none, none, none, none, none, none, none, none, none, none, none, none, none, none, none, none, none, some x_encoding_Reader_size, none, none, none, none, none, none, none, none, none, none, none, none, none, some x_sleuthlaw07_ColumnOpens, some x_sleuthlaw07_known, none, some x_column_New, some x_column_EncodeAs, some x_sleuthref07_Form, some x_column_Column_Encode, none, none, none, none, none, none, none, some x_column_Column_Values, none, none, some x_column_Open, some x_sleuthref07_Open, some x_sleuthref07_Same, some x_column_check, some x_column_made, some x_slices_Clone_int_int, some x_column_encode, some x_sleuthref07_Number, some x_sleuthref07_Zone, some x_sleuthref07_Bits, none, some x_column_zone, none, some x_column_reader_failed, some x_column_reader_list, some x_column_reader_runs, some x_column_reader_packed, some x_sleuthref07_reader_number, some x_sleuthref07_packed, some x_sleuthref07_reader_count, some x_sleuthref07_reader_ranged, some x_sleuthref07_Shortest, some x_slices_ContainsFunc_int_int, some x_column_wrong, some x_column_plain, some x_column_delta, some x_column_runs, some x_column_packed, none, some x_slices_Min_int_int, some x_slices_Max_int_int, some x_column_reader_value, some x_slices_IndexFunc_int_int, some x_math_bits_Len, some x_math_bits_Len32, some x_math_bits_Len64] : List (Option XF)).getD n none
theorem xp_encoding_Writer_Number : XP i_encoding_Writer_Number = some x_encoding_Writer_Number := rfl
theorem xp_encoding_Writer_Bytes : XP i_encoding_Writer_Bytes = some x_encoding_Writer_Bytes := rfl
theorem xp_encoding_NewReader : XP i_encoding_NewReader = some x_encoding_NewReader := rfl
theorem xp_encoding_Reader_Number : XP i_encoding_Reader_Number = some x_encoding_Reader_Number := rfl
theorem xp_encoding_Reader_Left : XP i_encoding_Reader_Left = some x_encoding_Reader_Left := rfl
theorem xp_encoding_Reader_Err : XP i_encoding_Reader_Err = some x_encoding_Reader_Err := rfl
theorem xp_encoding_Writer_Text : XP i_encoding_Writer_Text = some x_encoding_Writer_Text := rfl
theorem xp_encoding_Reader_Text : XP i_encoding_Reader_Text = some x_encoding_Reader_Text := rfl
theorem xp_encoding_Reader_Count : XP i_encoding_Reader_Count = some x_encoding_Reader_Count := rfl
theorem xp_encoding_magnitude : XP i_encoding_magnitude = some x_encoding_magnitude := rfl
theorem xp_encoding_Reader_ok : XP i_encoding_Reader_ok = some x_encoding_Reader_ok := rfl
theorem xp_encoding_Reader_number : XP i_encoding_Reader_number = some x_encoding_Reader_number := rfl
theorem xp_encoding_Reader_fail : XP i_encoding_Reader_fail = some x_encoding_Reader_fail := rfl
theorem xp_encoding_Reader_size : XP i_encoding_Reader_size = some x_encoding_Reader_size := rfl
theorem xp_sleuthlaw07_ColumnOpens : XP i_sleuthlaw07_ColumnOpens = some x_sleuthlaw07_ColumnOpens := rfl
theorem xp_sleuthlaw07_known : XP i_sleuthlaw07_known = some x_sleuthlaw07_known := rfl
theorem xp_column_New : XP i_column_New = some x_column_New := rfl
theorem xp_column_EncodeAs : XP i_column_EncodeAs = some x_column_EncodeAs := rfl
theorem xp_sleuthref07_Form : XP i_sleuthref07_Form = some x_sleuthref07_Form := rfl
theorem xp_column_Column_Encode : XP i_column_Column_Encode = some x_column_Column_Encode := rfl
theorem xp_column_Column_Values : XP i_column_Column_Values = some x_column_Column_Values := rfl
theorem xp_column_Open : XP i_column_Open = some x_column_Open := rfl
theorem xp_sleuthref07_Open : XP i_sleuthref07_Open = some x_sleuthref07_Open := rfl
theorem xp_sleuthref07_Same : XP i_sleuthref07_Same = some x_sleuthref07_Same := rfl
theorem xp_column_check : XP i_column_check = some x_column_check := rfl
theorem xp_column_made : XP i_column_made = some x_column_made := rfl
theorem xp_slices_Clone_int_int : XP i_slices_Clone_int_int = some x_slices_Clone_int_int := rfl
theorem xp_column_encode : XP i_column_encode = some x_column_encode := rfl
theorem xp_sleuthref07_Number : XP i_sleuthref07_Number = some x_sleuthref07_Number := rfl
theorem xp_sleuthref07_Zone : XP i_sleuthref07_Zone = some x_sleuthref07_Zone := rfl
theorem xp_sleuthref07_Bits : XP i_sleuthref07_Bits = some x_sleuthref07_Bits := rfl
theorem xp_column_zone : XP i_column_zone = some x_column_zone := rfl
theorem xp_column_reader_failed : XP i_column_reader_failed = some x_column_reader_failed := rfl
theorem xp_column_reader_list : XP i_column_reader_list = some x_column_reader_list := rfl
theorem xp_column_reader_runs : XP i_column_reader_runs = some x_column_reader_runs := rfl
theorem xp_column_reader_packed : XP i_column_reader_packed = some x_column_reader_packed := rfl
theorem xp_sleuthref07_reader_number : XP i_sleuthref07_reader_number = some x_sleuthref07_reader_number := rfl
theorem xp_sleuthref07_packed : XP i_sleuthref07_packed = some x_sleuthref07_packed := rfl
theorem xp_sleuthref07_reader_count : XP i_sleuthref07_reader_count = some x_sleuthref07_reader_count := rfl
theorem xp_sleuthref07_reader_ranged : XP i_sleuthref07_reader_ranged = some x_sleuthref07_reader_ranged := rfl
theorem xp_sleuthref07_Shortest : XP i_sleuthref07_Shortest = some x_sleuthref07_Shortest := rfl
theorem xp_slices_ContainsFunc_int_int : XP i_slices_ContainsFunc_int_int = some x_slices_ContainsFunc_int_int := rfl
theorem xp_column_wrong : XP i_column_wrong = some x_column_wrong := rfl
theorem xp_column_plain : XP i_column_plain = some x_column_plain := rfl
theorem xp_column_delta : XP i_column_delta = some x_column_delta := rfl
theorem xp_column_runs : XP i_column_runs = some x_column_runs := rfl
theorem xp_column_packed : XP i_column_packed = some x_column_packed := rfl
theorem xp_slices_Min_int_int : XP i_slices_Min_int_int = some x_slices_Min_int_int := rfl
theorem xp_slices_Max_int_int : XP i_slices_Max_int_int = some x_slices_Max_int_int := rfl
theorem xp_column_reader_value : XP i_column_reader_value = some x_column_reader_value := rfl
theorem xp_slices_IndexFunc_int_int : XP i_slices_IndexFunc_int_int = some x_slices_IndexFunc_int_int := rfl
theorem xp_math_bits_Len : XP i_math_bits_Len = some x_math_bits_Len := rfl
theorem xp_math_bits_Len32 : XP i_math_bits_Len32 = some x_math_bits_Len32 := rfl
theorem xp_math_bits_Len64 : XP i_math_bits_Len64 = some x_math_bits_Len64 := rfl
end Go.Proofs.Sl
