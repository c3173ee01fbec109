/- A part of the proof. -/
import Derived.Test.YtlhniejmohghgaaGreatSlA
set_option linter.unusedVariables false
set_option linter.unusedSimpArgs false
set_option linter.unnecessarySimpa false
namespace Go.Proofs.Sl
def i_encoding_Writer_Number : Nat := 9
def i_encoding_Writer_Bytes : Nat := 10
def i_encoding_EncodeSpan : Nat := 30
def i_encoding_Writer_Bool : Nat := 33
def i_encoding_Writer_Text : Nat := 34
def i_encoding_Writer_Span : Nat := 35
def i_encoding_magnitude : Nat := 47
def i_encoding_Writer_Attr : Nat := 48
def i_encoding_Writer_Value : Nat := 55
def i_encoding_Writer_Ref : Nat := 58
def i_encoding_Writer_numbers : Nat := 76
def i_encoding_list_api_Attr : Nat := 79
def i_encoding_list_api_Ref : Nat := 80
def i_span_Check : Nat := 157
def i_span_Compare : Nat := 160
def i_span_Equal : Nat := 162
def i_span_CompareRefs : Nat := 164
def i_attribute_CheckValue : Nat := 171
def i_span_Slot : Nat := 180
def i_span_Partition : Nat := 181
def i_span_Set : Nat := 184
def i_span_badId : Nat := 189
def i_attribute_IsName : Nat := 190
def i_cmp_Or_api_Errno : Nat := 191
def i_attribute_CheckAttrs : Nat := 192
def i_span_checkLinks : Nat := 193
def i_cmp_Or_int : Nat := 195
def i_slices_Compare_int_int : Nat := 196
def i_cmp_Compare_string : Nat := 197
def i_cmp_Compare_int : Nat := 198
def i_span_number : Nat := 199
def i_attribute_CompareAttrs : Nat := 200
def i_slices_CompareFunc_api_Ref_api_Ref_api_Ref_api_Ref : Nat := 201
def i_attribute_within : Nat := 208
def i_span_chosen : Nat := 212
def i_span_set : Nat := 213
def i_span_Set_1 : Nat := 214
def i_cmp_isNaN_string : Nat := 217
def i_cmp_isNaN_int : Nat := 218
def i_slices_CompareFunc_api_Attr_api_Attr_api_Attr_api_Attr : Nat := 219
def i_attribute_CompareAttrs_1 : Nat := 220
def i_attribute_CompareValues : Nat := 221
def i_span_copied : Nat := 224
def i_slices_CompactFunc_api_Span_api_Span : Nat := 225
def i_slices_SortedFunc_api_Span : Nat := 226
def i_slices_Values_api_Span_api_Span : Nat := 227
def i_slices_Clone_api_Attr_api_Attr : Nat := 229
def i_slices_Clone_api_Ref_api_Ref : Nat := 230
def i_slices_Collect_api_Span : Nat := 231
def i_slices_SortFunc_api_Span_api_Span : Nat := 232
def i_slices_Values_api_Span_api_Span_1 : Nat := 233
def i_slices_AppendSeq_api_Span_api_Span : Nat := 234
def i_sleuthlaw31_PartitionRefuses : Nat := 251
def i_sleuthlaw31_known : Nat := 259
def i_partition_New : Nat := 261
def i_partition_Partition_Insert : Nat := 263
def i_partition_Partition_Merge : Nat := 266
def i_partition_Partition_Equal : Nat := 267
def i_partition_Partition_Digest : Nat := 268
def i_partition_Partition_Records : Nat := 269
def i_sleuthlaw31_state_insert : Nat := 270
def i_sleuthlaw31_record : Nat := 271
def i_sleuthlaw31_state_agrees : Nat := 272
def i_sleuthlaw31_same : Nat := 274
def i_sleuthlaw31_state_records : Nat := 279
def i_partition_Partition_Sealed : Nat := 292
def i_partition_Partition_Number : Nat := 293
def i_partition_Partition_Blocks : Nat := 294
def i_block_Build : Nat := 296
def i_slices_ContainsFunc_api_Span_api_Span : Nat := 300
def i_partition_Partition_foreign : Nat := 301
def i_slices_DeleteFunc_api_Span_api_Span : Nat := 302
def i_partition_Partition_Insert_1 : Nat := 303
def i_slices_BinarySearchFunc_api_Span_api_Span_api_Span : Nat := 304
def i_slices_Clone_block_Block_block_Block : Nat := 305
def i_slices_EqualFunc_api_Span_api_Span_api_Span_api_Span : Nat := 306
def i_checksum_Chain : Nat := 307
def i_partition_records : Nat := 308
def i_sleuthlaw31_within : Nat := 309
def i_block_Block_Spans : Nat := 310
def i_block_Block_Len : Nat := 325
def i_slices_ContainsFunc_api_Attr_api_Attr : Nat := 326
def i_block_Build_1 : Nat := 327
def i_block_made : Nat := 328
def i_slices_IndexFunc_api_Span_api_Span : Nat := 354
def i_checksum_Link : Nat := 355
def i_block_Block_At : Nat := 356
def i_slices_IndexFunc_api_Attr_api_Attr : Nat := 368
def i_block_copied : Nat := 369
def i_checksum_Extend : Nat := 388
def i_checksum_Sum : Nat := 389
def i_checksum_zeroBit : Nat := 420
def x_encoding_Writer_Number_l0 : XC :=
  (.seq (.seq (.region [
    ⟨some 14, .cp (.t 6), none⟩,
    ⟨some 15, .bin .gtr (.t 14) (.c (.s (.int .u64 0))), none⟩] (none))
  (.cond (.t 15)
    .skip
    (.exit 0)))
  (.seq (.block 1
    (.region [
      ⟨some 18, .cp (.t 5), none⟩,
      ⟨some 19, .bin .add (.t 18) (.c (.s (.int .i64 1))), none⟩,
      ⟨some 5, .cp (.t 19), none⟩] (none)))
  (.region [
    ⟨some 16, .cp (.t 6), none⟩,
    ⟨some 17, .bin .shr (.t 16) (.c (.s (.int .u64 8))), none⟩,
    ⟨some 6, .cp (.t 17), none⟩] (none))))
def x_encoding_Writer_Number_l1 : XC :=
  (.seq (.seq (.region [
    ⟨some 48, .cp (.t 8), none⟩,
    ⟨some 49, .bin .geq (.t 48) (.c (.s (.int .i64 0))), none⟩] (none))
  (.cond (.t 49)
    .skip
    (.exit 2)))
  (.seq (.block 3
    (.region [
      ⟨some 52, .cp (.t 0), none⟩,
      ⟨some 53, .cp (.t 0), none⟩,
      ⟨some 54, .nilchk (.t 53), none⟩,
      ⟨some 55, .faddr (.t 54) 0, none⟩,
      ⟨some 56, .load 1 false (.t 55), none⟩,
      ⟨some 57, .cp (.t 4), none⟩,
      ⟨some 58, .cp (.t 8), none⟩,
      ⟨some 59, .bin .mul (.c (.s (.int .i64 8))) (.t 58), none⟩,
      ⟨some 60, .bin .shr (.t 57) (.t 59), none⟩,
      ⟨some 61, .conv .u8 (.t 60), none⟩,
      ⟨some 62, .cp (.t 7), none⟩,
      ⟨some 63, .bin .xor (.t 61) (.t 62), none⟩,
      ⟨some 64, .bslice false 1 [(.t 63)], none⟩,
      ⟨some 65, .append 1 140737488355328 (.t 56) (.t 64), none⟩,
      ⟨some 66, .nilchk (.t 52), none⟩,
      ⟨some 67, .faddr (.t 66) 0, none⟩,
      ⟨none, .store 1 (.t 67) (.t 65), none⟩] (some [])))
  (.region [
    ⟨some 50, .cp (.t 8), none⟩,
    ⟨some 51, .bin .sub (.t 50) (.c (.s (.int .i64 1))), none⟩,
    ⟨some 8, .cp (.t 51), none⟩] (none))))
def x_encoding_Writer_Number : XF := { np := 2, results := [], body :=
  (.seq (.seq (.region [
    ⟨some 9, .cp (.t 0), none⟩,
    ⟨some 10, .eqv .p false (.t 9) (.c (.s (.pointer none))), none⟩] (none))
  (.cond (.t 10)
    .ret
    .skip))
  (.seq (.region [
    ⟨some 11, .cp (.t 1), none⟩,
    ⟨some 12, .call false i_encoding_magnitude [(.t 11)], none⟩,
    ⟨some 4, .cp (.t 12), none⟩,
    ⟨some 5, .cp (.c (.s (.int .i64 0))), none⟩] (none))
  (.seq (.seq (.region [
    ⟨some 13, .cp (.t 4), none⟩,
    ⟨some 6, .cp (.t 13), none⟩] (none))
  (.block 0
    (.loop x_encoding_Writer_Number_l0)))
  (.seq (.region [
    ⟨some 7, .cp (.c (.s (.int .u8 0))), none⟩] (none))
  (.seq (.seq (.region [
    ⟨some 20, .cp (.t 1), none⟩,
    ⟨some 21, .bin .lss (.t 20) (.c (.s (.int .i64 0))), none⟩] (none))
  (.cond (.t 21)
    (.seq (.region [
      ⟨some 7, .cp (.c (.s (.int .u8 255))), none⟩] (none))
    (.region [
      ⟨some 22, .cp (.t 0), none⟩,
      ⟨some 23, .cp (.t 0), none⟩,
      ⟨some 24, .nilchk (.t 23), none⟩,
      ⟨some 25, .faddr (.t 24) 0, none⟩,
      ⟨some 26, .load 1 false (.t 25), none⟩,
      ⟨some 27, .cp (.t 5), none⟩,
      ⟨some 28, .bin .sub (.c (.s (.int .i64 128))) (.t 27), none⟩,
      ⟨some 29, .conv .u8 (.t 28), none⟩,
      ⟨some 30, .bslice false 1 [(.t 29)], none⟩,
      ⟨some 31, .append 1 140737488355328 (.t 26) (.t 30), none⟩,
      ⟨some 32, .nilchk (.t 22), none⟩,
      ⟨some 33, .faddr (.t 32) 0, none⟩,
      ⟨none, .store 1 (.t 33) (.t 31), none⟩] (none)))
    (.region [
      ⟨some 34, .cp (.t 0), none⟩,
      ⟨some 35, .cp (.t 0), none⟩,
      ⟨some 36, .nilchk (.t 35), none⟩,
      ⟨some 37, .faddr (.t 36) 0, none⟩,
      ⟨some 38, .load 1 false (.t 37), none⟩,
      ⟨some 39, .cp (.t 5), none⟩,
      ⟨some 40, .bin .add (.c (.s (.int .i64 128))) (.t 39), none⟩,
      ⟨some 41, .conv .u8 (.t 40), none⟩,
      ⟨some 42, .bslice false 1 [(.t 41)], none⟩,
      ⟨some 43, .append 1 140737488355328 (.t 38) (.t 42), none⟩,
      ⟨some 44, .nilchk (.t 34), none⟩,
      ⟨some 45, .faddr (.t 44) 0, none⟩,
      ⟨none, .store 1 (.t 45) (.t 43), none⟩] (none))))
  (.seq (.region [
    ⟨some 46, .cp (.t 5), none⟩,
    ⟨some 47, .bin .sub (.t 46) (.c (.s (.int .i64 1))), none⟩,
    ⟨some 8, .cp (.t 47), none⟩] (none))
  (.block 2
    (.loop x_encoding_Writer_Number_l1)))))))) }
def x_encoding_Writer_Bytes : XF := { np := 1, results := [(.inl 2, .v)], body :=
  (.seq (.region [
    ⟨some 2, .cp (.c (.s (.string ⟨#[]⟩))), none⟩] (none))
  (.seq (.seq (.region [
    ⟨some 3, .cp (.t 0), none⟩,
    ⟨some 4, .eqv .p false (.t 3) (.c (.s (.pointer none))), none⟩] (none))
  (.cond (.t 4)
    (.seq (.region [
      ⟨some 2, .cp (.c (.s (.string ⟨#[]⟩))), none⟩] (none))
    .ret)
    .skip))
  (.seq (.region [
    ⟨some 5, .cp (.t 0), none⟩,
    ⟨some 6, .nilchk (.t 5), none⟩,
    ⟨some 7, .faddr (.t 6) 0, none⟩,
    ⟨some 8, .load 1 false (.t 7), none⟩,
    ⟨some 9, .toStr (.t 8), none⟩,
    ⟨some 2, .cp (.t 9), none⟩] (none))
  .ret))) }
def x_encoding_EncodeSpan : XF := { np := 1, results := [(.inl 2, .v)], body :=
  (.seq (.region [
    ⟨some 1, .box false (.t 0), none⟩,
    ⟨some 2, .cp (.c (.s (.string ⟨#[]⟩))), none⟩] (none))
  (.seq (.region [
    ⟨some 3, .alloc [.s (.slice none 0 0)], none⟩] (none))
  (.seq (.region [
    ⟨some 4, .load 14 true (.t 1), none⟩,
    ⟨some 5, .call false i_encoding_Writer_Span [(.t 3), (.t 4)], none⟩] (none))
  (.seq (.region [
    ⟨some 6, .call false i_encoding_Writer_Bytes [(.t 3)], none⟩,
    ⟨some 2, .cp (.t 6), none⟩] (none))
  .ret)))) }
def x_encoding_Writer_Bool : XF := { np := 2, results := [], body :=
  (.seq (.region [
    ⟨some 4, .cp (.c (.s (.int .i64 0))), none⟩] (none))
  (.seq (.seq (.region [
    ⟨some 5, .cp (.t 1), none⟩] (none))
  (.cond (.t 5)
    (.region [
      ⟨some 4, .cp (.c (.s (.int .i64 1))), none⟩] (none))
    .skip))
  (.region [
    ⟨some 6, .cp (.t 0), none⟩,
    ⟨some 7, .cp (.t 4), none⟩,
    ⟨some 8, .call false i_encoding_Writer_Number [(.t 6), (.t 7)], none⟩] (none)))) }
def x_encoding_Writer_Text : XF := { np := 2, results := [], body :=
  (.seq (.seq (.region [
    ⟨some 4, .cp (.t 0), none⟩,
    ⟨some 5, .eqv .p false (.t 4) (.c (.s (.pointer none))), none⟩] (none))
  (.cond (.t 5)
    .ret
    .skip))
  (.seq (.region [
    ⟨some 6, .cp (.t 0), none⟩,
    ⟨some 7, .cp (.t 1), none⟩,
    ⟨some 8, .len true (.t 7), none⟩,
    ⟨some 9, .call false i_encoding_Writer_Number [(.t 6), (.t 8)], none⟩] (none))
  (.region [
    ⟨some 10, .cp (.t 0), none⟩,
    ⟨some 11, .cp (.t 0), none⟩,
    ⟨some 12, .nilchk (.t 11), none⟩,
    ⟨some 13, .faddr (.t 12) 0, none⟩,
    ⟨some 14, .load 1 false (.t 13), none⟩,
    ⟨some 15, .cp (.t 1), none⟩,
    ⟨some 16, .append 1 140737488355328 (.t 14) (.t 15), none⟩,
    ⟨some 17, .nilchk (.t 10), none⟩,
    ⟨some 18, .faddr (.t 17) 0, none⟩,
    ⟨none, .store 1 (.t 18) (.t 16), none⟩] (none)))) }
def x_encoding_Writer_Span : XF := { np := 2, results := [], body :=
  (.seq (.region [
    ⟨some 3, .box false (.t 1), none⟩] (none))
  (.seq (.region [
    ⟨some 4, .cp (.t 0), none⟩,
    ⟨some 5, .faddr (.t 3) 0, none⟩,
    ⟨some 6, .load 1 false (.t 5), none⟩,
    ⟨some 7, .faddr (.t 3) 1, none⟩,
    ⟨some 8, .load 1 false (.t 7), none⟩,
    ⟨some 9, .faddr (.t 3) 2, none⟩,
    ⟨some 10, .load 1 false (.t 9), none⟩,
    ⟨some 11, .faddr (.t 3) 3, none⟩,
    ⟨some 12, .load 1 false (.t 11), none⟩,
    ⟨some 13, .faddr (.t 3) 4, none⟩,
    ⟨some 14, .load 1 false (.t 13), none⟩,
    ⟨some 15, .faddr (.t 3) 5, none⟩,
    ⟨some 16, .load 1 false (.t 15), none⟩,
    ⟨some 17, .bslice false 1 [(.t 6), (.t 8), (.t 10), (.t 12), (.t 14), (.t 16)], none⟩,
    ⟨some 18, .call false i_encoding_Writer_numbers [(.t 4), (.t 17)], none⟩] (none))
  (.seq (.region [
    ⟨some 19, .cp (.t 0), none⟩,
    ⟨some 20, .faddr (.t 3) 6, none⟩,
    ⟨some 21, .load 1 false (.t 20), none⟩,
    ⟨some 22, .call false i_encoding_Writer_Text [(.t 19), (.t 21)], none⟩] (none))
  (.seq (.region [
    ⟨some 23, .cp (.t 0), none⟩,
    ⟨some 24, .faddr (.t 3) 7, none⟩,
    ⟨some 25, .load 1 false (.t 24), none⟩,
    ⟨some 26, .call false i_encoding_Writer_Text [(.t 23), (.t 25)], none⟩] (none))
  (.seq (.region [
    ⟨some 27, .cp (.t 0), none⟩,
    ⟨some 28, .faddr (.t 3) 8, none⟩,
    ⟨some 29, .load 1 false (.t 28), none⟩,
    ⟨some 30, .call false i_encoding_Writer_Text [(.t 27), (.t 29)], none⟩] (none))
  (.seq (.region [
    ⟨some 31, .cp (.t 0), none⟩,
    ⟨some 32, .faddr (.t 3) 9, none⟩,
    ⟨some 33, .load 1 false (.t 32), none⟩,
    ⟨some 34, .faddr (.t 3) 10, none⟩,
    ⟨some 35, .load 1 false (.t 34), none⟩,
    ⟨some 36, .bslice false 1 [(.t 33), (.t 35)], none⟩,
    ⟨some 37, .call false i_encoding_Writer_numbers [(.t 31), (.t 36)], none⟩] (none))
  (.seq (.region [
    ⟨some 38, .cp (.t 0), none⟩,
    ⟨some 39, .faddr (.t 3) 11, none⟩,
    ⟨some 40, .load 1 false (.t 39), none⟩,
    ⟨some 41, .call false i_encoding_Writer_Bool [(.t 38), (.t 40)], none⟩] (none))
  (.seq (.region [
    ⟨some 42, .cp (.t 0), none⟩,
    ⟨some 43, .faddr (.t 3) 12, none⟩,
    ⟨some 44, .load 1 false (.t 43), none⟩,
    ⟨some 45, .cp (.t 0), none⟩,
    ⟨some 46, .mkfn false i_encoding_Writer_Attr [(.t 45)] [], none⟩,
    ⟨some 47, .call false i_encoding_list_api_Attr [(.t 42), (.t 44), (.t 46)], none⟩] (none))
  (.region [
    ⟨some 48, .cp (.t 0), none⟩,
    ⟨some 49, .faddr (.t 3) 13, none⟩,
    ⟨some 50, .load 1 false (.t 49), none⟩,
    ⟨some 51, .cp (.t 0), none⟩,
    ⟨some 52, .mkfn false i_encoding_Writer_Ref [(.t 51)] [], none⟩,
    ⟨some 53, .call false i_encoding_list_api_Ref [(.t 48), (.t 50), (.t 52)], none⟩] (none)))))))))) }
def x_encoding_magnitude : XF := { np := 1, results := [(.inl 2, .v)], body :=
  (.seq (.region [
    ⟨some 2, .cp (.c (.s (.int .u64 0))), none⟩] (none))
  (.seq (.seq (.region [
    ⟨some 3, .cp (.t 0), none⟩,
    ⟨some 4, .bin .lss (.t 3) (.c (.s (.int .i64 0))), none⟩] (none))
  (.cond (.t 4)
    (.seq (.region [
      ⟨some 5, .cp (.t 0), none⟩,
      ⟨some 6, .conv .u64 (.t 5), none⟩,
      ⟨some 7, .un .neg (.t 6), none⟩,
      ⟨some 2, .cp (.t 7), none⟩] (none))
    .ret)
    .skip))
  (.seq (.region [
    ⟨some 8, .cp (.t 0), none⟩,
    ⟨some 9, .conv .u64 (.t 8), none⟩,
    ⟨some 2, .cp (.t 9), none⟩] (none))
  .ret))) }
def x_encoding_Writer_Attr : XF := { np := 2, results := [], body :=
  (.seq (.region [
    ⟨some 3, .box false (.t 1), none⟩] (none))
  (.seq (.region [
    ⟨some 4, .cp (.t 0), none⟩,
    ⟨some 5, .faddr (.t 3) 0, none⟩,
    ⟨some 6, .load 1 false (.t 5), none⟩,
    ⟨some 7, .call false i_encoding_Writer_Text [(.t 4), (.t 6)], none⟩] (none))
  (.region [
    ⟨some 8, .cp (.t 0), none⟩,
    ⟨some 9, .faddr (.t 3) 1, none⟩,
    ⟨some 10, .load 3 true (.t 9), none⟩,
    ⟨some 11, .call false i_encoding_Writer_Value [(.t 8), (.t 10)], none⟩] (none)))) }
def x_encoding_Writer_Value : XF := { np := 2, results := [], body :=
  (.seq (.region [
    ⟨some 3, .box false (.t 1), none⟩] (none))
  (.seq (.region [
    ⟨some 4, .cp (.t 0), none⟩,
    ⟨some 5, .faddr (.t 3) 0, none⟩,
    ⟨some 6, .load 1 false (.t 5), none⟩,
    ⟨some 7, .call false i_encoding_Writer_Number [(.t 4), (.t 6)], none⟩] (none))
  (.seq (.region [
    ⟨some 8, .cp (.t 0), none⟩,
    ⟨some 9, .faddr (.t 3) 1, none⟩,
    ⟨some 10, .load 1 false (.t 9), none⟩,
    ⟨some 11, .call false i_encoding_Writer_Text [(.t 8), (.t 10)], none⟩] (none))
  (.region [
    ⟨some 12, .cp (.t 0), none⟩,
    ⟨some 13, .faddr (.t 3) 2, none⟩,
    ⟨some 14, .load 1 false (.t 13), none⟩,
    ⟨some 15, .call false i_encoding_Writer_Number [(.t 12), (.t 14)], none⟩] (none))))) }
def x_encoding_Writer_Ref : XF := { np := 2, results := [], body :=
  (.seq (.region [
    ⟨some 3, .box false (.t 1), none⟩] (none))
  (.region [
    ⟨some 4, .cp (.t 0), none⟩,
    ⟨some 5, .faddr (.t 3) 0, none⟩,
    ⟨some 6, .load 1 false (.t 5), none⟩,
    ⟨some 7, .faddr (.t 3) 1, none⟩,
    ⟨some 8, .load 1 false (.t 7), none⟩,
    ⟨some 9, .bslice false 1 [(.t 6), (.t 8)], none⟩,
    ⟨some 10, .call false i_encoding_Writer_numbers [(.t 4), (.t 9)], none⟩] (none))) }
def x_encoding_Writer_numbers_l0 : XC :=
  (.seq (.region [
    ⟨some 9, .bin .lss (.t 8) (.t 7), none⟩] (none))
  (.seq (.cond (.t 9)
    .skip
    (.exit 0))
  (.seq (.block 1
    (.seq (.region [
      ⟨some 10, .iaddr 1 (.t 6) (.t 8), none⟩,
      ⟨some 11, .load 1 false (.t 10), none⟩,
      ⟨some 5, .cp (.t 11), none⟩] (none))
    (.region [
      ⟨some 12, .cp (.t 0), none⟩,
      ⟨some 13, .cp (.t 5), none⟩,
      ⟨some 14, .call false i_encoding_Writer_Number [(.t 12), (.t 13)], none⟩] (none))))
  (.region [
    ⟨some 15, .bin .add (.t 8) (.c (.s (.int .i64 1))), none⟩,
    ⟨some 8, .cp (.t 15), none⟩] (none)))))
def x_encoding_Writer_numbers : XF := { np := 2, results := [], body :=
  (.seq (.region [
    ⟨some 6, .cp (.t 1), none⟩,
    ⟨some 7, .len false (.t 6), none⟩,
    ⟨some 8, .cp (.c (.s (.int .i64 0))), none⟩] (none))
  (.block 0
    (.loop x_encoding_Writer_numbers_l0))) }
def x_encoding_list_api_Attr_l0 : XC :=
  (.seq (.region [
    ⟨some 15, .bin .lss (.t 14) (.t 13), none⟩] (none))
  (.seq (.cond (.t 15)
    .skip
    (.exit 0))
  (.seq (.block 1
    (.seq (.region [
      ⟨some 16, .iaddr 4 (.t 12) (.t 14), none⟩,
      ⟨some 17, .load 4 true (.t 16), none⟩,
      ⟨some 7, .alloc [.s (.string ⟨#[]⟩), .s (.int .i64 0), .s (.string ⟨#[]⟩), .s (.int .i64 0)], none⟩,
      ⟨none, .store 4 (.t 7) (.t 17), none⟩] (none))
    (.region [
      ⟨some 18, .cp (.t 2), none⟩,
      ⟨some 19, .load 4 true (.t 7), none⟩,
      ⟨some 20, .callv false (.t 18) [(.t 19)], none⟩] (none))))
  (.region [
    ⟨some 21, .bin .add (.t 14) (.c (.s (.int .i64 1))), none⟩,
    ⟨some 14, .cp (.t 21), none⟩] (none)))))
def x_encoding_list_api_Attr : XF := { np := 3, results := [], body :=
  (.seq (.region [
    ⟨some 8, .cp (.t 0), none⟩,
    ⟨some 9, .cp (.t 1), none⟩,
    ⟨some 10, .len false (.t 9), none⟩,
    ⟨some 11, .call false i_encoding_Writer_Number [(.t 8), (.t 10)], none⟩] (none))
  (.seq (.region [
    ⟨some 12, .cp (.t 1), none⟩,
    ⟨some 13, .len false (.t 12), none⟩,
    ⟨some 14, .cp (.c (.s (.int .i64 0))), none⟩] (none))
  (.block 0
    (.loop x_encoding_list_api_Attr_l0)))) }
def x_encoding_list_api_Ref_l0 : XC :=
  (.seq (.region [
    ⟨some 15, .bin .lss (.t 14) (.t 13), none⟩] (none))
  (.seq (.cond (.t 15)
    .skip
    (.exit 0))
  (.seq (.block 1
    (.seq (.region [
      ⟨some 16, .iaddr 2 (.t 12) (.t 14), none⟩,
      ⟨some 17, .load 2 true (.t 16), none⟩,
      ⟨some 7, .alloc [.s (.int .i64 0), .s (.int .i64 0)], none⟩,
      ⟨none, .store 2 (.t 7) (.t 17), none⟩] (none))
    (.region [
      ⟨some 18, .cp (.t 2), none⟩,
      ⟨some 19, .load 2 true (.t 7), none⟩,
      ⟨some 20, .callv false (.t 18) [(.t 19)], none⟩] (none))))
  (.region [
    ⟨some 21, .bin .add (.t 14) (.c (.s (.int .i64 1))), none⟩,
    ⟨some 14, .cp (.t 21), none⟩] (none)))))
def x_encoding_list_api_Ref : XF := { np := 3, results := [], body :=
  (.seq (.region [
    ⟨some 8, .cp (.t 0), none⟩,
    ⟨some 9, .cp (.t 1), none⟩,
    ⟨some 10, .len false (.t 9), none⟩,
    ⟨some 11, .call false i_encoding_Writer_Number [(.t 8), (.t 10)], none⟩] (none))
  (.seq (.region [
    ⟨some 12, .cp (.t 1), none⟩,
    ⟨some 13, .len false (.t 12), none⟩,
    ⟨some 14, .cp (.c (.s (.int .i64 0))), none⟩] (none))
  (.block 0
    (.loop x_encoding_list_api_Ref_l0)))) }
def x_span_Check : XF := { np := 1, results := [(.inl 2, .v)], body :=
  (.seq (.region [
    ⟨some 1, .box false (.t 0), none⟩,
    ⟨some 2, .cp (.c (.s (.int .i64 0))), none⟩] (none))
  (.seq (.block 0
    (.seq (.region [
      ⟨some 4, .faddr (.t 1) 0, none⟩,
      ⟨some 5, .load 1 false (.t 4), none⟩,
      ⟨some 6, .call false i_span_badId [(.t 5)], none⟩,
      ⟨some 7, .cp (.t 6), none⟩,
      ⟨some 8, .faddr (.t 1) 1, some (7, false)⟩,
      ⟨some 9, .load 1 false (.t 8), some (7, false)⟩,
      ⟨some 10, .call false i_span_badId [(.t 9)], some (7, false)⟩,
      ⟨some 11, .pick (.t 7) (.c (.s (.bool true))) (.t 10), none⟩,
      ⟨some 12, .cp (.t 11), none⟩,
      ⟨some 13, .faddr (.t 1) 2, some (12, false)⟩,
      ⟨some 14, .load 1 false (.t 13), some (12, false)⟩,
      ⟨some 15, .bin .lss (.t 14) (.c (.s (.int .i64 0))), some (12, false)⟩,
      ⟨some 16, .pick (.t 12) (.c (.s (.bool true))) (.t 15), none⟩,
      ⟨some 17, .cp (.t 16), none⟩,
      ⟨some 18, .faddr (.t 1) 2, some (17, false)⟩,
      ⟨some 19, .load 1 false (.t 18), some (17, false)⟩,
      ⟨some 20, .bin .gtr (.t 19) (.c (.s (.int .i64 1099511627776))), some (17, false)⟩,
      ⟨some 21, .pick (.t 17) (.c (.s (.bool true))) (.t 20), none⟩,
      ⟨some 22, .cp (.t 21), none⟩,
      ⟨some 23, .faddr (.t 1) 3, some (22, false)⟩,
      ⟨some 24, .load 1 false (.t 23), some (22, false)⟩,
      ⟨some 25, .bin .lss (.t 24) (.c (.s (.int .i64 0))), some (22, false)⟩,
      ⟨some 26, .pick (.t 22) (.c (.s (.bool true))) (.t 25), none⟩,
      ⟨some 27, .cp (.t 26), none⟩,
      ⟨some 28, .faddr (.t 1) 3, some (27, false)⟩,
      ⟨some 29, .load 1 false (.t 28), some (27, false)⟩,
      ⟨some 30, .bin .gtr (.t 29) (.c (.s (.int .i64 1048576))), some (27, false)⟩,
      ⟨some 31, .pick (.t 27) (.c (.s (.bool true))) (.t 30), none⟩,
      ⟨some 32, .cp (.t 31), none⟩,
      ⟨some 33, .faddr (.t 1) 4, some (32, false)⟩,
      ⟨some 34, .load 1 false (.t 33), some (32, false)⟩,
      ⟨some 35, .bin .lss (.t 34) (.c (.s (.int .i64 1))), some (32, false)⟩,
      ⟨some 36, .pick (.t 32) (.c (.s (.bool true))) (.t 35), none⟩,
      ⟨some 37, .cp (.t 36), none⟩,
      ⟨some 38, .faddr (.t 1) 4, some (37, false)⟩,
      ⟨some 39, .load 1 false (.t 38), some (37, false)⟩,
      ⟨some 40, .bin .gtr (.t 39) (.c (.s (.int .i64 1048576))), some (37, false)⟩,
      ⟨some 41, .pick (.t 37) (.c (.s (.bool true))) (.t 40), none⟩,
      ⟨some 3, .cp (.t 41), none⟩] (none))
    (.cond (.t 3)
      (.seq (.region [
        ⟨some 2, .cp (.c (.s (.int .i64 2))), none⟩] (none))
      .ret)
      (.seq (.region [
        ⟨some 43, .faddr (.t 1) 5, none⟩,
        ⟨some 44, .load 1 false (.t 43), none⟩,
        ⟨some 45, .bin .lss (.t 44) (.c (.s (.int .i64 1))), none⟩,
        ⟨some 46, .cp (.t 45), none⟩,
        ⟨some 47, .faddr (.t 1) 5, some (46, false)⟩,
        ⟨some 48, .load 1 false (.t 47), some (46, false)⟩,
        ⟨some 49, .bin .gtr (.t 48) (.c (.s (.int .i64 5))), some (46, false)⟩,
        ⟨some 50, .pick (.t 46) (.c (.s (.bool true))) (.t 49), none⟩,
        ⟨some 42, .cp (.t 50), none⟩] (none))
      (.cond (.t 42)
        (.seq (.region [
          ⟨some 2, .cp (.c (.s (.int .i64 12))), none⟩] (none))
        .ret)
        (.seq (.region [
          ⟨some 52, .faddr (.t 1) 6, none⟩,
          ⟨some 53, .load 1 false (.t 52), none⟩,
          ⟨some 54, .call false i_attribute_IsName [(.t 53)], none⟩,
          ⟨some 55, .un .not (.t 54), none⟩,
          ⟨some 56, .cp (.t 55), none⟩,
          ⟨some 57, .faddr (.t 1) 8, some (56, false)⟩,
          ⟨some 58, .load 1 false (.t 57), some (56, false)⟩,
          ⟨some 59, .call false i_attribute_IsName [(.t 58)], some (56, false)⟩,
          ⟨some 60, .un .not (.t 59), some (56, false)⟩,
          ⟨some 61, .pick (.t 56) (.c (.s (.bool true))) (.t 60), none⟩,
          ⟨some 62, .cp (.t 61), none⟩,
          ⟨some 63, .faddr (.t 1) 7, some (62, false)⟩,
          ⟨some 64, .load 1 false (.t 63), some (62, false)⟩,
          ⟨some 65, .bin .neq (.t 64) (.c (.s (.string ⟨#[]⟩))), some (62, false)⟩,
          ⟨some 66, .cp (.t 65), some (62, false)⟩,
          ⟨some 67, .faddr (.t 1) 7, some (66, true)⟩,
          ⟨some 68, .load 1 false (.t 67), some (66, true)⟩,
          ⟨some 69, .call false i_attribute_IsName [(.t 68)], some (66, true)⟩,
          ⟨some 70, .un .not (.t 69), some (66, true)⟩,
          ⟨some 71, .pick (.t 66) (.t 70) (.c (.s (.bool false))), some (62, false)⟩,
          ⟨some 72, .pick (.t 62) (.c (.s (.bool true))) (.t 71), none⟩,
          ⟨some 51, .cp (.t 72), none⟩] (none))
        (.cond (.t 51)
          (.seq (.region [
            ⟨some 2, .cp (.c (.s (.int .i64 11))), none⟩] (none))
          .ret)
          (.seq (.region [
            ⟨some 74, .faddr (.t 1) 9, none⟩,
            ⟨some 75, .load 1 false (.t 74), none⟩,
            ⟨some 76, .faddr (.t 1) 10, none⟩,
            ⟨some 77, .load 1 false (.t 76), none⟩,
            ⟨some 78, .minmax false [(.t 75), (.t 77)], none⟩,
            ⟨some 79, .bin .lss (.t 78) (.c (.s (.int .i64 (-1099511627776)))), none⟩,
            ⟨some 80, .cp (.t 79), none⟩,
            ⟨some 81, .faddr (.t 1) 9, some (80, false)⟩,
            ⟨some 82, .load 1 false (.t 81), some (80, false)⟩,
            ⟨some 83, .faddr (.t 1) 10, some (80, false)⟩,
            ⟨some 84, .load 1 false (.t 83), some (80, false)⟩,
            ⟨some 85, .minmax true [(.t 82), (.t 84)], some (80, false)⟩,
            ⟨some 86, .bin .gtr (.t 85) (.c (.s (.int .i64 1099511627776))), some (80, false)⟩,
            ⟨some 87, .pick (.t 80) (.c (.s (.bool true))) (.t 86), none⟩,
            ⟨some 73, .cp (.t 87), none⟩] (none))
          (.cond (.t 73)
            (.seq (.region [
              ⟨some 2, .cp (.c (.s (.int .i64 32))), none⟩] (none))
            .ret)
            (.seq (.region [
              ⟨some 89, .faddr (.t 1) 10, none⟩,
              ⟨some 90, .load 1 false (.t 89), none⟩,
              ⟨some 91, .faddr (.t 1) 9, none⟩,
              ⟨some 92, .load 1 false (.t 91), none⟩,
              ⟨some 93, .bin .lss (.t 90) (.t 92), none⟩,
              ⟨some 88, .cp (.t 93), none⟩] (none))
            (.cond (.t 88)
              (.seq (.region [
                ⟨some 2, .cp (.c (.s (.int .i64 8))), none⟩] (none))
              .ret)
              (.seq (.region [
                ⟨some 95, .faddr (.t 1) 10, none⟩,
                ⟨some 96, .load 1 false (.t 95), none⟩,
                ⟨some 97, .faddr (.t 1) 9, none⟩,
                ⟨some 98, .load 1 false (.t 97), none⟩,
                ⟨some 99, .bin .sub (.t 96) (.t 98), none⟩,
                ⟨some 100, .bin .gtr (.t 99) (.c (.s (.int .i64 1099511627776))), none⟩,
                ⟨some 94, .cp (.t 100), none⟩] (none))
              (.cond (.t 94)
                (.seq (.region [
                  ⟨some 2, .cp (.c (.s (.int .i64 32))), none⟩] (none))
                .ret)
                .skip)))))))))))))
  (.seq (.region [
    ⟨some 101, .faddr (.t 1) 12, none⟩,
    ⟨some 102, .load 1 false (.t 101), none⟩,
    ⟨some 103, .call false i_attribute_CheckAttrs [(.t 102)], none⟩,
    ⟨some 104, .faddr (.t 1) 13, none⟩,
    ⟨some 105, .load 1 false (.t 104), none⟩,
    ⟨some 106, .call false i_span_checkLinks [(.t 105)], none⟩,
    ⟨some 107, .bslice false 1 [(.t 103), (.t 106)], none⟩,
    ⟨some 108, .call false i_cmp_Or_api_Errno [(.t 107)], none⟩,
    ⟨some 2, .cp (.t 108), none⟩] (some [(2, some 4)]))
  .ret))) }
def x_span_Compare : XF := { np := 2, results := [(.inl 4, .v)], body :=
  (.seq (.region [
    ⟨some 2, .box false (.t 0), none⟩,
    ⟨some 3, .box false (.t 1), none⟩,
    ⟨some 4, .cp (.c (.s (.int .i64 0))), none⟩] (none))
  (.seq (.region [
    ⟨some 7, .faddr (.t 2) 0, none⟩,
    ⟨some 8, .load 1 false (.t 7), none⟩,
    ⟨some 9, .faddr (.t 2) 1, none⟩,
    ⟨some 10, .load 1 false (.t 9), none⟩,
    ⟨some 11, .faddr (.t 2) 3, none⟩,
    ⟨some 12, .load 1 false (.t 11), none⟩,
    ⟨some 13, .faddr (.t 2) 2, none⟩,
    ⟨some 14, .load 1 false (.t 13), none⟩,
    ⟨some 15, .faddr (.t 2) 4, none⟩,
    ⟨some 16, .load 1 false (.t 15), none⟩,
    ⟨some 17, .faddr (.t 2) 5, none⟩,
    ⟨some 18, .load 1 false (.t 17), none⟩,
    ⟨some 19, .build false [.s (.int .i64 0), .s (.int .i64 0), .s (.int .i64 0), .s (.int .i64 0), .s (.int .i64 0), .s (.int .i64 0)] [(0, 1, (.t 8)), (1, 1, (.t 10)), (2, 1, (.t 12)), (3, 1, (.t 14)), (4, 1, (.t 16)), (5, 1, (.t 18))], none⟩,
    ⟨some 5, .alloc [.s (.int .i64 0), .s (.int .i64 0), .s (.int .i64 0), .s (.int .i64 0), .s (.int .i64 0), .s (.int .i64 0)], none⟩,
    ⟨none, .store 6 (.t 5) (.t 19), none⟩] (none))
  (.seq (.region [
    ⟨some 20, .faddr (.t 3) 0, none⟩,
    ⟨some 21, .load 1 false (.t 20), none⟩,
    ⟨some 22, .faddr (.t 3) 1, none⟩,
    ⟨some 23, .load 1 false (.t 22), none⟩,
    ⟨some 24, .faddr (.t 3) 3, none⟩,
    ⟨some 25, .load 1 false (.t 24), none⟩,
    ⟨some 26, .faddr (.t 3) 2, none⟩,
    ⟨some 27, .load 1 false (.t 26), none⟩,
    ⟨some 28, .faddr (.t 3) 4, none⟩,
    ⟨some 29, .load 1 false (.t 28), none⟩,
    ⟨some 30, .faddr (.t 3) 5, none⟩,
    ⟨some 31, .load 1 false (.t 30), none⟩,
    ⟨some 32, .build false [.s (.int .i64 0), .s (.int .i64 0), .s (.int .i64 0), .s (.int .i64 0), .s (.int .i64 0), .s (.int .i64 0)] [(0, 1, (.t 21)), (1, 1, (.t 23)), (2, 1, (.t 25)), (3, 1, (.t 27)), (4, 1, (.t 29)), (5, 1, (.t 31))], none⟩,
    ⟨some 6, .alloc [.s (.int .i64 0), .s (.int .i64 0), .s (.int .i64 0), .s (.int .i64 0), .s (.int .i64 0), .s (.int .i64 0)], none⟩,
    ⟨none, .store 6 (.t 6) (.t 32), none⟩] (none))
  (.seq (.region [
    ⟨some 33, .slBox 6 (.t 5), none⟩,
    ⟨some 34, .slBox 6 (.t 6), none⟩,
    ⟨some 35, .call false i_slices_Compare_int_int [(.t 33), (.t 34)], none⟩,
    ⟨some 36, .faddr (.t 2) 6, none⟩,
    ⟨some 37, .load 1 false (.t 36), none⟩,
    ⟨some 38, .faddr (.t 3) 6, none⟩,
    ⟨some 39, .load 1 false (.t 38), none⟩,
    ⟨some 40, .call false i_cmp_Compare_string [(.t 37), (.t 39)], none⟩,
    ⟨some 41, .faddr (.t 2) 7, none⟩,
    ⟨some 42, .load 1 false (.t 41), none⟩,
    ⟨some 43, .faddr (.t 3) 7, none⟩,
    ⟨some 44, .load 1 false (.t 43), none⟩,
    ⟨some 45, .call false i_cmp_Compare_string [(.t 42), (.t 44)], none⟩,
    ⟨some 46, .faddr (.t 2) 8, none⟩,
    ⟨some 47, .load 1 false (.t 46), none⟩,
    ⟨some 48, .faddr (.t 3) 8, none⟩,
    ⟨some 49, .load 1 false (.t 48), none⟩,
    ⟨some 50, .call false i_cmp_Compare_string [(.t 47), (.t 49)], none⟩,
    ⟨some 51, .faddr (.t 2) 9, none⟩,
    ⟨some 52, .load 1 false (.t 51), none⟩,
    ⟨some 53, .faddr (.t 3) 9, none⟩,
    ⟨some 54, .load 1 false (.t 53), none⟩,
    ⟨some 55, .call false i_cmp_Compare_int [(.t 52), (.t 54)], none⟩,
    ⟨some 56, .faddr (.t 2) 10, none⟩,
    ⟨some 57, .load 1 false (.t 56), none⟩,
    ⟨some 58, .faddr (.t 3) 10, none⟩,
    ⟨some 59, .load 1 false (.t 58), none⟩,
    ⟨some 60, .call false i_cmp_Compare_int [(.t 57), (.t 59)], none⟩,
    ⟨some 61, .faddr (.t 2) 11, none⟩,
    ⟨some 62, .load 1 false (.t 61), none⟩,
    ⟨some 63, .call false i_span_number [(.t 62)], none⟩,
    ⟨some 64, .faddr (.t 3) 11, none⟩,
    ⟨some 65, .load 1 false (.t 64), none⟩,
    ⟨some 66, .call false i_span_number [(.t 65)], none⟩,
    ⟨some 67, .bin .sub (.t 63) (.t 66), none⟩,
    ⟨some 68, .faddr (.t 2) 12, none⟩,
    ⟨some 69, .load 1 false (.t 68), none⟩,
    ⟨some 70, .faddr (.t 3) 12, none⟩,
    ⟨some 71, .load 1 false (.t 70), none⟩,
    ⟨some 72, .call false i_attribute_CompareAttrs [(.t 69), (.t 71)], none⟩,
    ⟨some 73, .faddr (.t 2) 13, none⟩,
    ⟨some 74, .load 1 false (.t 73), none⟩,
    ⟨some 75, .faddr (.t 3) 13, none⟩,
    ⟨some 76, .load 1 false (.t 75), none⟩,
    ⟨some 77, .call false i_slices_CompareFunc_api_Ref_api_Ref_api_Ref_api_Ref [(.t 74), (.t 76), (.c (.fn i_span_CompareRefs [] []))], none⟩,
    ⟨some 78, .bslice false 1 [(.t 35), (.t 40), (.t 45), (.t 50), (.t 55), (.t 60), (.t 67), (.t 72), (.t 77)], none⟩,
    ⟨some 79, .call false i_cmp_Or_int [(.t 78)], none⟩,
    ⟨some 4, .cp (.t 79), none⟩] (some [(2, none), (7, none), (12, none), (17, none), (22, none), (27, none), (30, none), (33, none), (39, some 41), (39, some 43)]))
  .ret)))) }
def x_span_Equal : XF := { np := 2, results := [(.inl 4, .v)], body :=
  (.seq (.region [
    ⟨some 2, .box false (.t 0), none⟩,
    ⟨some 3, .box false (.t 1), none⟩,
    ⟨some 4, .cp (.c (.s (.bool false))), none⟩] (none))
  (.seq (.region [
    ⟨some 5, .load 14 true (.t 2), none⟩,
    ⟨some 6, .load 14 true (.t 3), none⟩,
    ⟨some 7, .call false i_span_Compare [(.t 5), (.t 6)], none⟩,
    ⟨some 8, .bin .eql (.t 7) (.c (.s (.int .i64 0))), none⟩,
    ⟨some 4, .cp (.t 8), none⟩] (none))
  .ret)) }
def x_span_CompareRefs : XF := { np := 2, results := [(.inl 4, .v)], body :=
  (.seq (.region [
    ⟨some 2, .box false (.t 0), none⟩,
    ⟨some 3, .box false (.t 1), none⟩,
    ⟨some 4, .cp (.c (.s (.int .i64 0))), none⟩] (none))
  (.seq (.region [
    ⟨some 5, .faddr (.t 2) 0, none⟩,
    ⟨some 6, .load 1 false (.t 5), none⟩,
    ⟨some 7, .faddr (.t 3) 0, none⟩,
    ⟨some 8, .load 1 false (.t 7), none⟩,
    ⟨some 9, .call false i_cmp_Compare_int [(.t 6), (.t 8)], none⟩,
    ⟨some 10, .faddr (.t 2) 1, none⟩,
    ⟨some 11, .load 1 false (.t 10), none⟩,
    ⟨some 12, .faddr (.t 3) 1, none⟩,
    ⟨some 13, .load 1 false (.t 12), none⟩,
    ⟨some 14, .call false i_cmp_Compare_int [(.t 11), (.t 13)], none⟩,
    ⟨some 15, .bslice false 1 [(.t 9), (.t 14)], none⟩,
    ⟨some 16, .call false i_cmp_Or_int [(.t 15)], none⟩,
    ⟨some 4, .cp (.t 16), none⟩] (some [(4, some 6), (4, some 8)]))
  .ret)) }
def x_attribute_CheckValue : XF := { np := 1, results := [(.inl 2, .v)], body :=
  (.seq (.region [
    ⟨some 1, .box false (.t 0), none⟩,
    ⟨some 2, .cp (.c (.s (.int .i64 0))), none⟩] (none))
  (.seq (.region [
    ⟨some 3, .cp (.c (.s (.bool false))), none⟩] (none))
  (.seq (.seq (.region [
    ⟨some 4, .faddr (.t 1) 0, none⟩,
    ⟨some 5, .load 1 false (.t 4), none⟩] (none))
  (.block 0
    (.seq (.region [
      ⟨some 7, .bin .eql (.t 5) (.c (.s (.int .i64 1))), none⟩,
      ⟨some 6, .cp (.t 7), none⟩] (none))
    (.cond (.t 6)
      (.region [
        ⟨some 8, .faddr (.t 1) 1, none⟩,
        ⟨some 9, .load 1 false (.t 8), none⟩,
        ⟨some 10, .call false i_attribute_within [(.t 9), (.c (.s (.int .u8 32))), (.c (.s (.int .u8 126)))], none⟩,
        ⟨some 11, .cp (.t 10), none⟩,
        ⟨some 12, .faddr (.t 1) 2, some (11, true)⟩,
        ⟨some 13, .load 1 false (.t 12), some (11, true)⟩,
        ⟨some 14, .bin .eql (.t 13) (.c (.s (.int .i64 0))), some (11, true)⟩,
        ⟨some 15, .pick (.t 11) (.t 14) (.c (.s (.bool false))), none⟩,
        ⟨some 3, .cp (.t 15), none⟩] (none))
      (.seq (.region [
        ⟨some 17, .bin .eql (.t 5) (.c (.s (.int .i64 2))), none⟩,
        ⟨some 16, .cp (.t 17), none⟩] (none))
      (.cond (.t 16)
        (.region [
          ⟨some 18, .faddr (.t 1) 1, none⟩,
          ⟨some 19, .load 1 false (.t 18), none⟩,
          ⟨some 20, .bin .eql (.t 19) (.c (.s (.string ⟨#[]⟩))), none⟩,
          ⟨some 21, .cp (.t 20), none⟩,
          ⟨some 22, .faddr (.t 1) 2, some (21, true)⟩,
          ⟨some 23, .load 1 false (.t 22), some (21, true)⟩,
          ⟨some 24, .bin .geq (.t 23) (.c (.s (.int .i64 (-1099511627776)))), some (21, true)⟩,
          ⟨some 25, .pick (.t 21) (.t 24) (.c (.s (.bool false))), none⟩,
          ⟨some 26, .cp (.t 25), none⟩,
          ⟨some 27, .faddr (.t 1) 2, some (26, true)⟩,
          ⟨some 28, .load 1 false (.t 27), some (26, true)⟩,
          ⟨some 29, .bin .leq (.t 28) (.c (.s (.int .i64 1099511627776))), some (26, true)⟩,
          ⟨some 30, .pick (.t 26) (.t 29) (.c (.s (.bool false))), none⟩,
          ⟨some 3, .cp (.t 30), none⟩] (none))
        (.seq (.region [
          ⟨some 32, .bin .eql (.t 5) (.c (.s (.int .i64 3))), none⟩,
          ⟨some 31, .cp (.t 32), none⟩] (none))
        (.cond (.t 31)
          (.region [
            ⟨some 33, .faddr (.t 1) 1, none⟩,
            ⟨some 34, .load 1 false (.t 33), none⟩,
            ⟨some 35, .bin .eql (.t 34) (.c (.s (.string ⟨#[]⟩))), none⟩,
            ⟨some 36, .cp (.t 35), none⟩,
            ⟨some 37, .faddr (.t 1) 2, some (36, true)⟩,
            ⟨some 38, .load 1 false (.t 37), some (36, true)⟩,
            ⟨some 39, .bin .eql (.t 38) (.c (.s (.int .i64 0))), some (36, true)⟩,
            ⟨some 40, .cp (.t 39), some (36, true)⟩,
            ⟨some 41, .faddr (.t 1) 2, some (40, false)⟩,
            ⟨some 42, .load 1 false (.t 41), some (40, false)⟩,
            ⟨some 43, .bin .eql (.t 42) (.c (.s (.int .i64 1))), some (40, false)⟩,
            ⟨some 44, .pick (.t 40) (.c (.s (.bool true))) (.t 43), some (36, true)⟩,
            ⟨some 45, .pick (.t 36) (.t 44) (.c (.s (.bool false))), none⟩,
            ⟨some 3, .cp (.t 45), none⟩] (none))
          (.seq (.region [
            ⟨some 2, .cp (.c (.s (.int .i64 12))), none⟩] (none))
          .ret)))))))))
  (.seq (.block 1
    (.seq (.region [
      ⟨some 47, .faddr (.t 1) 1, none⟩,
      ⟨some 48, .load 1 false (.t 47), none⟩,
      ⟨some 49, .len true (.t 48), none⟩,
      ⟨some 50, .bin .gtr (.t 49) (.c (.s (.int .i64 4096))), none⟩,
      ⟨some 46, .cp (.t 50), none⟩] (none))
    (.cond (.t 46)
      (.seq (.region [
        ⟨some 2, .cp (.c (.s (.int .i64 5))), none⟩] (none))
      .ret)
      (.seq (.region [
        ⟨some 52, .cp (.t 3), none⟩,
        ⟨some 53, .un .not (.t 52), none⟩,
        ⟨some 51, .cp (.t 53), none⟩] (none))
      (.cond (.t 51)
        (.seq (.region [
          ⟨some 2, .cp (.c (.s (.int .i64 3))), none⟩] (none))
        .ret)
        .skip)))))
  (.seq (.region [
    ⟨some 2, .cp (.c (.s (.int .i64 0))), none⟩] (none))
  .ret))))) }
def x_span_Slot : XF := { np := 1, results := [(.inl 2, .v)], body :=
  (.seq (.region [
    ⟨some 2, .cp (.c (.s (.int .i64 0))), none⟩] (none))
  (.seq (.region [
    ⟨some 3, .cp (.t 0), none⟩,
    ⟨some 4, .bin .shr (.t 3) (.c (.s (.int .u64 20))), none⟩,
    ⟨some 2, .cp (.t 4), none⟩] (none))
  .ret)) }
def x_span_Partition : XF := { np := 1, results := [(.inl 2, .v)], body :=
  (.seq (.region [
    ⟨some 2, .cp (.c (.s (.int .i64 0))), none⟩] (none))
  (.seq (.region [
    ⟨some 3, .cp (.t 0), none⟩,
    ⟨some 4, .call false i_span_Slot [(.t 3)], none⟩,
    ⟨some 5, .bin .shr (.t 4) (.c (.s (.int .u64 4))), none⟩,
    ⟨some 2, .cp (.t 5), none⟩] (none))
  .ret)) }
def x_span_Set : XF := { np := 1, results := [(.inl 2, .v)], body :=
  (.seq (.region [
    ⟨some 2, .cp (.c (.s (.slice none 0 0))), none⟩] (none))
  (.seq (.region [
    ⟨some 3, .cp (.t 0), none⟩,
    ⟨some 4, .call false i_span_set [(.t 3)], none⟩,
    ⟨some 5, .call true i_span_chosen [(.t 4), (.c (.fn i_span_Set_1 [] []))], none⟩,
    ⟨some 2, .cp (.t 5), none⟩] (none))
  .ret)) }
def x_span_badId : XF := { np := 1, results := [(.inl 2, .v)], body :=
  (.seq (.region [
    ⟨some 2, .cp (.c (.s (.bool false))), none⟩] (none))
  (.seq (.region [
    ⟨some 3, .cp (.t 0), none⟩,
    ⟨some 4, .bin .lss (.t 3) (.c (.s (.int .i64 1))), none⟩,
    ⟨some 5, .cp (.t 4), none⟩,
    ⟨some 6, .cp (.t 0), some (5, false)⟩,
    ⟨some 7, .bin .gtr (.t 6) (.c (.s (.int .i64 1099511627776))), some (5, false)⟩,
    ⟨some 8, .pick (.t 5) (.c (.s (.bool true))) (.t 7), none⟩,
    ⟨some 2, .cp (.t 8), none⟩] (none))
  .ret)) }
def x_attribute_IsName : XF := { np := 1, results := [(.inl 2, .v)], body :=
  (.seq (.region [
    ⟨some 2, .cp (.c (.s (.bool false))), none⟩] (none))
  (.seq (.region [
    ⟨some 3, .cp (.t 0), none⟩,
    ⟨some 4, .bin .neq (.t 3) (.c (.s (.string ⟨#[]⟩))), none⟩,
    ⟨some 5, .cp (.t 4), none⟩,
    ⟨some 6, .cp (.t 0), some (5, true)⟩,
    ⟨some 7, .len true (.t 6), some (5, true)⟩,
    ⟨some 8, .bin .leq (.t 7) (.c (.s (.int .i64 64))), some (5, true)⟩,
    ⟨some 9, .pick (.t 5) (.t 8) (.c (.s (.bool false))), none⟩,
    ⟨some 10, .cp (.t 9), none⟩,
    ⟨some 11, .cp (.t 0), some (10, true)⟩,
    ⟨some 12, .call false i_attribute_within [(.t 11), (.c (.s (.int .u8 33))), (.c (.s (.int .u8 126)))], some (10, true)⟩,
    ⟨some 13, .pick (.t 10) (.t 12) (.c (.s (.bool false))), none⟩,
    ⟨some 2, .cp (.t 13), none⟩] (none))
  .ret)) }
def x_cmp_Or_api_Errno_l0 : XC :=
  (.seq (.region [
    ⟨some 9, .bin .lss (.t 8) (.t 7), none⟩] (none))
  (.seq (.cond (.t 9)
    .skip
    (.exit 0))
  (.seq (.block 1
    (.seq (.region [
      ⟨some 10, .iaddr 1 (.t 6) (.t 8), none⟩,
      ⟨some 11, .load 1 false (.t 10), none⟩,
      ⟨some 5, .cp (.t 11), none⟩] (none))
    (.seq (.region [
      ⟨some 12, .cp (.t 5), none⟩,
      ⟨some 13, .cp (.t 3), none⟩,
      ⟨some 14, .bin .neq (.t 12) (.t 13), none⟩] (none))
    (.cond (.t 14)
      (.seq (.region [
        ⟨some 15, .cp (.t 5), none⟩,
        ⟨some 2, .cp (.t 15), none⟩] (none))
      .ret)
      .skip))))
  (.region [
    ⟨some 16, .bin .add (.t 8) (.c (.s (.int .i64 1))), none⟩,
    ⟨some 8, .cp (.t 16), none⟩] (none)))))
def x_cmp_Or_api_Errno : XF := { np := 1, results := [(.inl 2, .v)], body :=
  (.seq (.region [
    ⟨some 2, .cp (.c (.s (.int .i64 0))), none⟩] (none))
  (.seq (.region [
    ⟨some 3, .cp (.c (.s (.int .i64 0))), none⟩] (none))
  (.seq (.seq (.region [
    ⟨some 6, .cp (.t 0), none⟩,
    ⟨some 7, .len false (.t 6), none⟩,
    ⟨some 8, .cp (.c (.s (.int .i64 0))), none⟩] (none))
  (.block 0
    (.loop x_cmp_Or_api_Errno_l0)))
  (.seq (.region [
    ⟨some 17, .cp (.t 3), none⟩,
    ⟨some 2, .cp (.t 17), none⟩] (none))
  .ret)))) }
def x_attribute_CheckAttrs_l0 : XC :=
  (.seq (.region [
    ⟨some 12, .bin .lss (.t 11) (.t 10), none⟩] (none))
  (.seq (.cond (.t 12)
    .skip
    (.exit 0))
  (.seq (.block 1
    (.seq (.region [
      ⟨some 13, .cp (.t 11), none⟩,
      ⟨some 14, .iaddr 4 (.t 9) (.t 11), none⟩,
      ⟨some 15, .load 4 true (.t 14), none⟩,
      ⟨some 4, .alloc [.s (.string ⟨#[]⟩), .s (.int .i64 0), .s (.string ⟨#[]⟩), .s (.int .i64 0)], none⟩,
      ⟨some 3, .cp (.t 13), none⟩,
      ⟨none, .store 4 (.t 4) (.t 15), none⟩] (none))
    (.seq (.block 2
      (.seq (.region [
        ⟨some 17, .faddr (.t 4) 0, none⟩,
        ⟨some 18, .load 1 false (.t 17), none⟩,
        ⟨some 19, .call false i_attribute_IsName [(.t 18)], none⟩,
        ⟨some 20, .un .not (.t 19), none⟩,
        ⟨some 16, .cp (.t 20), none⟩] (none))
      (.cond (.t 16)
        (.seq (.region [
          ⟨some 2, .cp (.c (.s (.int .i64 11))), none⟩] (none))
        .ret)
        (.seq (.region [
          ⟨some 22, .cp (.t 3), none⟩,
          ⟨some 23, .bin .gtr (.t 22) (.c (.s (.int .i64 0))), none⟩,
          ⟨some 24, .cp (.t 23), none⟩,
          ⟨some 25, .faddr (.t 4) 0, some (24, true)⟩,
          ⟨some 26, .load 1 false (.t 25), some (24, true)⟩,
          ⟨some 27, .cp (.t 0), some (24, true)⟩,
          ⟨some 28, .cp (.t 3), some (24, true)⟩,
          ⟨some 29, .bin .sub (.t 28) (.c (.s (.int .i64 1))), some (24, true)⟩,
          ⟨some 30, .iaddr 4 (.t 27) (.t 29), some (24, true)⟩,
          ⟨some 31, .faddr (.t 30) 0, some (24, true)⟩,
          ⟨some 32, .load 1 false (.t 31), some (24, true)⟩,
          ⟨some 33, .bin .leq (.t 26) (.t 32), some (24, true)⟩,
          ⟨some 34, .pick (.t 24) (.t 33) (.c (.s (.bool false))), none⟩,
          ⟨some 21, .cp (.t 34), none⟩] (some []))
        (.cond (.t 21)
          (.seq (.region [
            ⟨some 2, .cp (.c (.s (.int .i64 8))), none⟩] (none))
          .ret)
          .skip)))))
    (.seq (.region [
      ⟨some 35, .faddr (.t 4) 1, none⟩,
      ⟨some 36, .load 3 true (.t 35), none⟩,
      ⟨some 37, .call false i_attribute_CheckValue [(.t 36)], none⟩,
      ⟨some 5, .cp (.t 37), none⟩] (none))
    (.seq (.region [
      ⟨some 38, .cp (.t 5), none⟩,
      ⟨some 39, .bin .neq (.t 38) (.c (.s (.int .i64 0))), none⟩] (none))
    (.cond (.t 39)
      (.seq (.region [
        ⟨some 40, .cp (.t 5), none⟩,
        ⟨some 2, .cp (.t 40), none⟩] (none))
      .ret)
      .skip))))))
  (.region [
    ⟨some 41, .bin .add (.t 11) (.c (.s (.int .i64 1))), none⟩,
    ⟨some 11, .cp (.t 41), none⟩] (none)))))
def x_attribute_CheckAttrs : XF := { np := 1, results := [(.inl 2, .v)], body :=
  (.seq (.region [
    ⟨some 2, .cp (.c (.s (.int .i64 0))), none⟩] (none))
  (.seq (.seq (.region [
    ⟨some 6, .cp (.t 0), none⟩,
    ⟨some 7, .len false (.t 6), none⟩,
    ⟨some 8, .bin .gtr (.t 7) (.c (.s (.int .i64 32))), none⟩] (none))
  (.cond (.t 8)
    (.seq (.region [
      ⟨some 2, .cp (.c (.s (.int .i64 6))), none⟩] (none))
    .ret)
    .skip))
  (.seq (.seq (.region [
    ⟨some 9, .cp (.t 0), none⟩,
    ⟨some 10, .len false (.t 9), none⟩,
    ⟨some 11, .cp (.c (.s (.int .i64 0))), none⟩] (none))
  (.block 0
    (.loop x_attribute_CheckAttrs_l0)))
  (.seq (.region [
    ⟨some 2, .cp (.c (.s (.int .i64 0))), none⟩] (none))
  .ret)))) }
def x_span_checkLinks_l0 : XC :=
  (.seq (.region [
    ⟨some 11, .bin .lss (.t 10) (.t 9), none⟩] (none))
  (.seq (.cond (.t 11)
    .skip
    (.exit 0))
  (.seq (.block 1
    (.seq (.region [
      ⟨some 12, .cp (.t 10), none⟩,
      ⟨some 13, .iaddr 2 (.t 8) (.t 10), none⟩,
      ⟨some 14, .load 2 true (.t 13), none⟩,
      ⟨some 4, .alloc [.s (.int .i64 0), .s (.int .i64 0)], none⟩,
      ⟨some 3, .cp (.t 12), none⟩,
      ⟨none, .store 2 (.t 4) (.t 14), none⟩] (none))
    (.block 2
      (.seq (.region [
        ⟨some 16, .faddr (.t 4) 0, none⟩,
        ⟨some 17, .load 1 false (.t 16), none⟩,
        ⟨some 18, .call false i_span_badId [(.t 17)], none⟩,
        ⟨some 19, .cp (.t 18), none⟩,
        ⟨some 20, .faddr (.t 4) 1, some (19, false)⟩,
        ⟨some 21, .load 1 false (.t 20), some (19, false)⟩,
        ⟨some 22, .call false i_span_badId [(.t 21)], some (19, false)⟩,
        ⟨some 23, .pick (.t 19) (.c (.s (.bool true))) (.t 22), none⟩,
        ⟨some 15, .cp (.t 23), none⟩] (none))
      (.cond (.t 15)
        (.seq (.region [
          ⟨some 2, .cp (.c (.s (.int .i64 2))), none⟩] (none))
        .ret)
        (.seq (.region [
          ⟨some 25, .cp (.t 3), none⟩,
          ⟨some 26, .bin .gtr (.t 25) (.c (.s (.int .i64 0))), none⟩,
          ⟨some 27, .cp (.t 26), none⟩,
          ⟨some 28, .cp (.t 0), some (27, true)⟩,
          ⟨some 29, .cp (.t 3), some (27, true)⟩,
          ⟨some 30, .bin .sub (.t 29) (.c (.s (.int .i64 1))), some (27, true)⟩,
          ⟨some 31, .iaddr 2 (.t 28) (.t 30), some (27, true)⟩,
          ⟨some 32, .load 2 true (.t 31), some (27, true)⟩,
          ⟨some 33, .load 2 true (.t 4), some (27, true)⟩,
          ⟨some 34, .call false i_span_CompareRefs [(.t 32), (.t 33)], some (27, true)⟩,
          ⟨some 35, .bin .geq (.t 34) (.c (.s (.int .i64 0))), some (27, true)⟩,
          ⟨some 36, .pick (.t 27) (.t 35) (.c (.s (.bool false))), none⟩,
          ⟨some 24, .cp (.t 36), none⟩] (some []))
        (.cond (.t 24)
          (.seq (.region [
            ⟨some 2, .cp (.c (.s (.int .i64 8))), none⟩] (none))
          .ret)
          .skip)))))))
  (.region [
    ⟨some 37, .bin .add (.t 10) (.c (.s (.int .i64 1))), none⟩,
    ⟨some 10, .cp (.t 37), none⟩] (none)))))
def x_span_checkLinks : XF := { np := 1, results := [(.inl 2, .v)], body :=
  (.seq (.region [
    ⟨some 2, .cp (.c (.s (.int .i64 0))), none⟩] (none))
  (.seq (.seq (.region [
    ⟨some 5, .cp (.t 0), none⟩,
    ⟨some 6, .len false (.t 5), none⟩,
    ⟨some 7, .bin .gtr (.t 6) (.c (.s (.int .i64 16))), none⟩] (none))
  (.cond (.t 7)
    (.seq (.region [
      ⟨some 2, .cp (.c (.s (.int .i64 6))), none⟩] (none))
    .ret)
    .skip))
  (.seq (.seq (.region [
    ⟨some 8, .cp (.t 0), none⟩,
    ⟨some 9, .len false (.t 8), none⟩,
    ⟨some 10, .cp (.c (.s (.int .i64 0))), none⟩] (none))
  (.block 0
    (.loop x_span_checkLinks_l0)))
  (.seq (.region [
    ⟨some 2, .cp (.c (.s (.int .i64 0))), none⟩] (none))
  .ret)))) }
def x_cmp_Or_int_l0 : XC :=
  (.seq (.region [
    ⟨some 9, .bin .lss (.t 8) (.t 7), none⟩] (none))
  (.seq (.cond (.t 9)
    .skip
    (.exit 0))
  (.seq (.block 1
    (.seq (.region [
      ⟨some 10, .iaddr 1 (.t 6) (.t 8), none⟩,
      ⟨some 11, .load 1 false (.t 10), none⟩,
      ⟨some 5, .cp (.t 11), none⟩] (none))
    (.seq (.region [
      ⟨some 12, .cp (.t 5), none⟩,
      ⟨some 13, .cp (.t 3), none⟩,
      ⟨some 14, .bin .neq (.t 12) (.t 13), none⟩] (none))
    (.cond (.t 14)
      (.seq (.region [
        ⟨some 15, .cp (.t 5), none⟩,
        ⟨some 2, .cp (.t 15), none⟩] (none))
      .ret)
      .skip))))
  (.region [
    ⟨some 16, .bin .add (.t 8) (.c (.s (.int .i64 1))), none⟩,
    ⟨some 8, .cp (.t 16), none⟩] (none)))))
def x_cmp_Or_int : XF := { np := 1, results := [(.inl 2, .v)], body :=
  (.seq (.region [
    ⟨some 2, .cp (.c (.s (.int .i64 0))), none⟩] (none))
  (.seq (.region [
    ⟨some 3, .cp (.c (.s (.int .i64 0))), none⟩] (none))
  (.seq (.seq (.region [
    ⟨some 6, .cp (.t 0), none⟩,
    ⟨some 7, .len false (.t 6), none⟩,
    ⟨some 8, .cp (.c (.s (.int .i64 0))), none⟩] (none))
  (.block 0
    (.loop x_cmp_Or_int_l0)))
  (.seq (.region [
    ⟨some 17, .cp (.t 3), none⟩,
    ⟨some 2, .cp (.t 17), none⟩] (none))
  .ret)))) }
def x_slices_Compare_int_int_l0 : XC :=
  (.seq (.region [
    ⟨some 12, .bin .lss (.t 11) (.t 10), none⟩] (none))
  (.seq (.cond (.t 12)
    .skip
    (.exit 0))
  (.seq (.block 1
    (.seq (.region [
      ⟨some 13, .cp (.t 11), none⟩,
      ⟨some 14, .iaddr 1 (.t 9) (.t 11), none⟩,
      ⟨some 15, .load 1 false (.t 14), none⟩,
      ⟨some 5, .cp (.t 13), none⟩,
      ⟨some 6, .cp (.t 15), none⟩] (none))
    (.seq (.seq (.region [
      ⟨some 16, .cp (.t 5), none⟩,
      ⟨some 17, .cp (.t 1), none⟩,
      ⟨some 18, .len false (.t 17), none⟩,
      ⟨some 19, .bin .geq (.t 16) (.t 18), none⟩] (none))
    (.cond (.t 19)
      (.seq (.region [
        ⟨some 4, .cp (.c (.s (.int .i64 1))), none⟩] (none))
      .ret)
      .skip))
    (.seq (.region [
      ⟨some 20, .cp (.t 1), none⟩,
      ⟨some 21, .cp (.t 5), none⟩,
      ⟨some 22, .iaddr 1 (.t 20) (.t 21), none⟩,
      ⟨some 23, .load 1 false (.t 22), none⟩,
      ⟨some 7, .cp (.t 23), none⟩] (none))
    (.seq (.region [
      ⟨some 24, .cp (.t 6), none⟩,
      ⟨some 25, .cp (.t 7), none⟩,
      ⟨some 26, .call false i_cmp_Compare_int [(.t 24), (.t 25)], none⟩,
      ⟨some 8, .cp (.t 26), none⟩] (none))
    (.seq (.region [
      ⟨some 27, .cp (.t 8), none⟩,
      ⟨some 28, .bin .neq (.t 27) (.c (.s (.int .i64 0))), none⟩] (none))
    (.cond (.t 28)
      (.seq (.region [
        ⟨some 29, .cp (.t 8), none⟩,
        ⟨some 4, .cp (.t 29), none⟩] (none))
      .ret)
      .skip)))))))
  (.region [
    ⟨some 30, .bin .add (.t 11) (.c (.s (.int .i64 1))), none⟩,
    ⟨some 11, .cp (.t 30), none⟩] (none)))))
def x_slices_Compare_int_int : XF := { np := 2, results := [(.inl 4, .v)], body :=
  (.seq (.region [
    ⟨some 4, .cp (.c (.s (.int .i64 0))), none⟩] (none))
  (.seq (.seq (.region [
    ⟨some 9, .cp (.t 0), none⟩,
    ⟨some 10, .len false (.t 9), none⟩,
    ⟨some 11, .cp (.c (.s (.int .i64 0))), none⟩] (none))
  (.block 0
    (.loop x_slices_Compare_int_int_l0)))
  (.seq (.seq (.region [
    ⟨some 31, .cp (.t 0), none⟩,
    ⟨some 32, .len false (.t 31), none⟩,
    ⟨some 33, .cp (.t 1), none⟩,
    ⟨some 34, .len false (.t 33), none⟩,
    ⟨some 35, .bin .lss (.t 32) (.t 34), none⟩] (none))
  (.cond (.t 35)
    (.seq (.region [
      ⟨some 4, .cp (.c (.s (.int .i64 (-1)))), none⟩] (none))
    .ret)
    .skip))
  (.seq (.region [
    ⟨some 4, .cp (.c (.s (.int .i64 0))), none⟩] (none))
  .ret)))) }
def x_cmp_Compare_string : XF := { np := 2, results := [(.inl 4, .v)], body :=
  (.seq (.region [
    ⟨some 4, .cp (.c (.s (.int .i64 0))), none⟩] (none))
  (.seq (.region [
    ⟨some 7, .cp (.t 0), none⟩,
    ⟨some 8, .call false i_cmp_isNaN_string [(.t 7)], none⟩,
    ⟨some 5, .cp (.t 8), none⟩] (none))
  (.seq (.region [
    ⟨some 9, .cp (.t 1), none⟩,
    ⟨some 10, .call false i_cmp_isNaN_string [(.t 9)], none⟩,
    ⟨some 6, .cp (.t 10), none⟩] (none))
  (.seq (.seq (.region [
    ⟨some 11, .cp (.t 5), none⟩] (none))
  (.cond (.t 11)
    (.seq (.seq (.region [
      ⟨some 12, .cp (.t 6), none⟩] (none))
    (.cond (.t 12)
      (.seq (.region [
        ⟨some 4, .cp (.c (.s (.int .i64 0))), none⟩] (none))
      .ret)
      .skip))
    (.seq (.region [
      ⟨some 4, .cp (.c (.s (.int .i64 (-1)))), none⟩] (none))
    .ret))
    .skip))
  (.seq (.seq (.region [
    ⟨some 13, .cp (.t 6), none⟩] (none))
  (.cond (.t 13)
    (.seq (.region [
      ⟨some 4, .cp (.c (.s (.int .i64 1))), none⟩] (none))
    .ret)
    .skip))
  (.seq (.seq (.region [
    ⟨some 14, .cp (.t 0), none⟩,
    ⟨some 15, .cp (.t 1), none⟩,
    ⟨some 16, .bin .lss (.t 14) (.t 15), none⟩] (none))
  (.cond (.t 16)
    (.seq (.region [
      ⟨some 4, .cp (.c (.s (.int .i64 (-1)))), none⟩] (none))
    .ret)
    .skip))
  (.seq (.seq (.region [
    ⟨some 17, .cp (.t 0), none⟩,
    ⟨some 18, .cp (.t 1), none⟩,
    ⟨some 19, .bin .gtr (.t 17) (.t 18), none⟩] (none))
  (.cond (.t 19)
    (.seq (.region [
      ⟨some 4, .cp (.c (.s (.int .i64 1))), none⟩] (none))
    .ret)
    .skip))
  (.seq (.region [
    ⟨some 4, .cp (.c (.s (.int .i64 0))), none⟩] (none))
  .ret)))))))) }
def x_cmp_Compare_int : XF := { np := 2, results := [(.inl 4, .v)], body :=
  (.seq (.region [
    ⟨some 4, .cp (.c (.s (.int .i64 0))), none⟩] (none))
  (.seq (.region [
    ⟨some 7, .cp (.t 0), none⟩,
    ⟨some 8, .call false i_cmp_isNaN_int [(.t 7)], none⟩,
    ⟨some 5, .cp (.t 8), none⟩] (none))
  (.seq (.region [
    ⟨some 9, .cp (.t 1), none⟩,
    ⟨some 10, .call false i_cmp_isNaN_int [(.t 9)], none⟩,
    ⟨some 6, .cp (.t 10), none⟩] (none))
  (.seq (.seq (.region [
    ⟨some 11, .cp (.t 5), none⟩] (none))
  (.cond (.t 11)
    (.seq (.seq (.region [
      ⟨some 12, .cp (.t 6), none⟩] (none))
    (.cond (.t 12)
      (.seq (.region [
        ⟨some 4, .cp (.c (.s (.int .i64 0))), none⟩] (none))
      .ret)
      .skip))
    (.seq (.region [
      ⟨some 4, .cp (.c (.s (.int .i64 (-1)))), none⟩] (none))
    .ret))
    .skip))
  (.seq (.seq (.region [
    ⟨some 13, .cp (.t 6), none⟩] (none))
  (.cond (.t 13)
    (.seq (.region [
      ⟨some 4, .cp (.c (.s (.int .i64 1))), none⟩] (none))
    .ret)
    .skip))
  (.seq (.seq (.region [
    ⟨some 14, .cp (.t 0), none⟩,
    ⟨some 15, .cp (.t 1), none⟩,
    ⟨some 16, .bin .lss (.t 14) (.t 15), none⟩] (none))
  (.cond (.t 16)
    (.seq (.region [
      ⟨some 4, .cp (.c (.s (.int .i64 (-1)))), none⟩] (none))
    .ret)
    .skip))
  (.seq (.seq (.region [
    ⟨some 17, .cp (.t 0), none⟩,
    ⟨some 18, .cp (.t 1), none⟩,
    ⟨some 19, .bin .gtr (.t 17) (.t 18), none⟩] (none))
  (.cond (.t 19)
    (.seq (.region [
      ⟨some 4, .cp (.c (.s (.int .i64 1))), none⟩] (none))
    .ret)
    .skip))
  (.seq (.region [
    ⟨some 4, .cp (.c (.s (.int .i64 0))), none⟩] (none))
  .ret)))))))) }
def x_span_number : XF := { np := 1, results := [(.inl 2, .v)], body :=
  (.seq (.region [
    ⟨some 2, .cp (.c (.s (.int .i64 0))), none⟩] (none))
  (.seq (.seq (.region [
    ⟨some 3, .cp (.t 0), none⟩] (none))
  (.cond (.t 3)
    (.seq (.region [
      ⟨some 2, .cp (.c (.s (.int .i64 1))), none⟩] (none))
    .ret)
    .skip))
  (.seq (.region [
    ⟨some 2, .cp (.c (.s (.int .i64 0))), none⟩] (none))
  .ret))) }
def x_attribute_CompareAttrs : XF := { np := 2, results := [(.inl 4, .v)], body :=
  (.seq (.region [
    ⟨some 4, .cp (.c (.s (.int .i64 0))), none⟩] (none))
  (.seq (.region [
    ⟨some 5, .cp (.t 0), none⟩,
    ⟨some 6, .cp (.t 1), none⟩,
    ⟨some 7, .call false i_slices_CompareFunc_api_Attr_api_Attr_api_Attr_api_Attr [(.t 5), (.t 6), (.c (.fn i_attribute_CompareAttrs_1 [] []))], none⟩,
    ⟨some 4, .cp (.t 7), none⟩] (none))
  .ret)) }
def x_slices_CompareFunc_api_Ref_api_Ref_api_Ref_api_Ref_l0 : XC :=
  (.seq (.region [
    ⟨some 14, .bin .lss (.t 13) (.t 12), none⟩] (none))
  (.seq (.cond (.t 14)
    .skip
    (.exit 0))
  (.seq (.block 1
    (.seq (.region [
      ⟨some 15, .cp (.t 13), none⟩,
      ⟨some 16, .iaddr 2 (.t 11) (.t 13), none⟩,
      ⟨some 17, .load 2 true (.t 16), none⟩,
      ⟨some 8, .alloc [.s (.int .i64 0), .s (.int .i64 0)], none⟩,
      ⟨some 7, .cp (.t 15), none⟩,
      ⟨none, .store 2 (.t 8) (.t 17), none⟩] (none))
    (.seq (.seq (.region [
      ⟨some 18, .cp (.t 7), none⟩,
      ⟨some 19, .cp (.t 1), none⟩,
      ⟨some 20, .len false (.t 19), none⟩,
      ⟨some 21, .bin .geq (.t 18) (.t 20), none⟩] (none))
    (.cond (.t 21)
      (.seq (.region [
        ⟨some 6, .cp (.c (.s (.int .i64 1))), none⟩] (none))
      .ret)
      .skip))
    (.seq (.region [
      ⟨some 22, .cp (.t 1), none⟩,
      ⟨some 23, .cp (.t 7), none⟩,
      ⟨some 24, .iaddr 2 (.t 22) (.t 23), none⟩,
      ⟨some 25, .load 2 true (.t 24), none⟩,
      ⟨some 9, .alloc [.s (.int .i64 0), .s (.int .i64 0)], none⟩,
      ⟨none, .store 2 (.t 9) (.t 25), none⟩] (none))
    (.seq (.region [
      ⟨some 26, .cp (.t 2), none⟩,
      ⟨some 27, .load 2 true (.t 8), none⟩,
      ⟨some 28, .load 2 true (.t 9), none⟩,
      ⟨some 29, .callv false (.t 26) [(.t 27), (.t 28)], none⟩,
      ⟨some 10, .cp (.t 29), none⟩] (none))
    (.seq (.region [
      ⟨some 30, .cp (.t 10), none⟩,
      ⟨some 31, .bin .neq (.t 30) (.c (.s (.int .i64 0))), none⟩] (none))
    (.cond (.t 31)
      (.seq (.region [
        ⟨some 32, .cp (.t 10), none⟩,
        ⟨some 6, .cp (.t 32), none⟩] (none))
      .ret)
      .skip)))))))
  (.region [
    ⟨some 33, .bin .add (.t 13) (.c (.s (.int .i64 1))), none⟩,
    ⟨some 13, .cp (.t 33), none⟩] (none)))))
def x_slices_CompareFunc_api_Ref_api_Ref_api_Ref_api_Ref : XF := { np := 3, results := [(.inl 6, .v)], body :=
  (.seq (.region [
    ⟨some 6, .cp (.c (.s (.int .i64 0))), none⟩] (none))
  (.seq (.seq (.region [
    ⟨some 11, .cp (.t 0), none⟩,
    ⟨some 12, .len false (.t 11), none⟩,
    ⟨some 13, .cp (.c (.s (.int .i64 0))), none⟩] (none))
  (.block 0
    (.loop x_slices_CompareFunc_api_Ref_api_Ref_api_Ref_api_Ref_l0)))
  (.seq (.seq (.region [
    ⟨some 34, .cp (.t 0), none⟩,
    ⟨some 35, .len false (.t 34), none⟩,
    ⟨some 36, .cp (.t 1), none⟩,
    ⟨some 37, .len false (.t 36), none⟩,
    ⟨some 38, .bin .lss (.t 35) (.t 37), none⟩] (none))
  (.cond (.t 38)
    (.seq (.region [
      ⟨some 6, .cp (.c (.s (.int .i64 (-1)))), none⟩] (none))
    .ret)
    .skip))
  (.seq (.region [
    ⟨some 6, .cp (.c (.s (.int .i64 0))), none⟩] (none))
  .ret)))) }
def x_attribute_within_l0 : XC :=
  (.seq (.region [
    ⟨some 11, .bin .lss (.t 10) (.t 9), none⟩] (none))
  (.seq (.cond (.t 11)
    .skip
    (.exit 0))
  (.seq (.block 1
    (.seq (.region [
      ⟨some 12, .cp (.t 10), none⟩,
      ⟨some 7, .cp (.t 12), none⟩] (none))
    (.seq (.region [
      ⟨some 13, .cp (.t 0), none⟩,
      ⟨some 14, .cp (.t 7), none⟩,
      ⟨some 15, .idxS (.t 13) (.t 14), none⟩,
      ⟨some 16, .cp (.t 1), none⟩,
      ⟨some 17, .bin .lss (.t 15) (.t 16), none⟩,
      ⟨some 18, .cp (.t 17), none⟩,
      ⟨some 19, .cp (.t 0), some (18, false)⟩,
      ⟨some 20, .cp (.t 7), some (18, false)⟩,
      ⟨some 21, .idxS (.t 19) (.t 20), some (18, false)⟩,
      ⟨some 22, .cp (.t 2), some (18, false)⟩,
      ⟨some 23, .bin .gtr (.t 21) (.t 22), some (18, false)⟩,
      ⟨some 24, .pick (.t 18) (.c (.s (.bool true))) (.t 23), none⟩] (none))
    (.cond (.t 24)
      (.seq (.region [
        ⟨some 6, .cp (.c (.s (.bool false))), none⟩] (none))
      .ret)
      .skip))))
  (.region [
    ⟨some 25, .bin .add (.t 10) (.c (.s (.int .i64 1))), none⟩,
    ⟨some 10, .cp (.t 25), none⟩] (none)))))
def x_attribute_within : XF := { np := 3, results := [(.inl 6, .v)], body :=
  (.seq (.region [
    ⟨some 6, .cp (.c (.s (.bool false))), none⟩] (none))
  (.seq (.seq (.region [
    ⟨some 8, .cp (.t 0), none⟩,
    ⟨some 9, .len true (.t 8), none⟩,
    ⟨some 10, .cp (.c (.s (.int .i64 0))), none⟩] (none))
  (.block 0
    (.loop x_attribute_within_l0)))
  (.seq (.region [
    ⟨some 6, .cp (.c (.s (.bool true))), none⟩] (none))
  .ret))) }
def x_span_chosen_l0 : XC :=
  (.seq (.region [
    ⟨some 11, .bin .lss (.t 10) (.t 9), none⟩] (none))
  (.seq (.cond (.t 11)
    .skip
    (.exit 0))
  (.seq (.block 1
    (.seq (.region [
      ⟨some 12, .cp (.t 10), none⟩,
      ⟨some 13, .iaddr 14 (.t 8) (.t 10), none⟩,
      ⟨some 14, .load 14 true (.t 13), none⟩,
      ⟨some 7, .alloc [.s (.int .i64 0), .s (.int .i64 0), .s (.int .i64 0), .s (.int .i64 0), .s (.int .i64 0), .s (.int .i64 0), .s (.string ⟨#[]⟩), .s (.string ⟨#[]⟩), .s (.string ⟨#[]⟩), .s (.int .i64 0), .s (.int .i64 0), .s (.bool false), .s (.slice none 0 0), .s (.slice none 0 0)], none⟩,
      ⟨some 6, .cp (.t 12), none⟩,
      ⟨none, .store 14 (.t 7) (.t 14), none⟩] (none))
    (.seq (.region [
      ⟨some 15, .cp (.t 1), none⟩,
      ⟨some 16, .cp (.t 6), none⟩,
      ⟨some 17, .callv false (.t 15) [(.t 16)], none⟩] (none))
    (.cond (.t 17)
      (.region [
        ⟨some 18, .cp (.t 5), none⟩,
        ⟨some 19, .load 14 true (.t 7), none⟩,
        ⟨some 20, .call false i_span_copied [(.t 19)], none⟩,
        ⟨some 21, .bslice false 14 [(.t 20)], none⟩,
        ⟨some 22, .append 14 837723144972 (.t 18) (.t 21), none⟩,
        ⟨some 5, .cp (.t 22), none⟩] (none))
      .skip))))
  (.region [
    ⟨some 23, .bin .add (.t 10) (.c (.s (.int .i64 1))), none⟩,
    ⟨some 10, .cp (.t 23), none⟩] (none)))))
def x_span_chosen : XF := { np := 2, results := [(.inl 4, .v)], body :=
  (.seq (.region [
    ⟨some 4, .cp (.c (.s (.slice none 0 0))), none⟩] (none))
  (.seq (.region [
    ⟨some 5, .cp (.c (.s (.slice none 0 0))), none⟩] (none))
  (.seq (.seq (.region [
    ⟨some 8, .cp (.t 0), none⟩,
    ⟨some 9, .len false (.t 8), none⟩,
    ⟨some 10, .cp (.c (.s (.int .i64 0))), none⟩] (none))
  (.block 0
    (.loop x_span_chosen_l0)))
  (.seq (.region [
    ⟨some 24, .cp (.t 5), none⟩,
    ⟨some 4, .cp (.t 24), none⟩] (none))
  .ret)))) }
def x_span_set : XF := { np := 1, results := [(.inl 2, .v)], body :=
  (.seq (.region [
    ⟨some 2, .cp (.c (.s (.slice none 0 0))), none⟩] (none))
  (.seq (.region [
    ⟨some 3, .cp (.t 0), none⟩,
    ⟨some 4, .call false i_slices_Values_api_Span_api_Span [(.t 3)], none⟩,
    ⟨some 5, .call true i_slices_SortedFunc_api_Span [(.t 4), (.c (.fn i_span_Compare [] []))], none⟩,
    ⟨some 6, .call false i_slices_CompactFunc_api_Span_api_Span [(.t 5), (.c (.fn i_span_Equal [] []))], none⟩,
    ⟨some 2, .cp (.t 6), none⟩] (none))
  .ret)) }
def x_span_Set_1 : XF := { np := 1, results := [(.inl 2, .v)], body :=
  (.seq (.region [
    ⟨some 2, .cp (.c (.s (.bool false))), none⟩] (none))
  (.seq (.region [
    ⟨some 2, .cp (.c (.s (.bool true))), none⟩] (none))
  .ret)) }
def x_cmp_isNaN_string : XF := { np := 1, results := [(.inl 2, .v)], body :=
  (.seq (.region [
    ⟨some 2, .cp (.c (.s (.bool false))), none⟩] (none))
  (.seq (.region [
    ⟨some 3, .cp (.t 0), none⟩,
    ⟨some 4, .cp (.t 0), none⟩,
    ⟨some 5, .bin .neq (.t 3) (.t 4), none⟩,
    ⟨some 2, .cp (.t 5), none⟩] (none))
  .ret)) }
def x_cmp_isNaN_int : XF := { np := 1, results := [(.inl 2, .v)], body :=
  (.seq (.region [
    ⟨some 2, .cp (.c (.s (.bool false))), none⟩] (none))
  (.seq (.region [
    ⟨some 3, .cp (.t 0), none⟩,
    ⟨some 4, .cp (.t 0), none⟩,
    ⟨some 5, .bin .neq (.t 3) (.t 4), none⟩,
    ⟨some 2, .cp (.t 5), none⟩] (none))
  .ret)) }
def x_slices_CompareFunc_api_Attr_api_Attr_api_Attr_api_Attr_l0 : XC :=
  (.seq (.region [
    ⟨some 14, .bin .lss (.t 13) (.t 12), none⟩] (none))
  (.seq (.cond (.t 14)
    .skip
    (.exit 0))
  (.seq (.block 1
    (.seq (.region [
      ⟨some 15, .cp (.t 13), none⟩,
      ⟨some 16, .iaddr 4 (.t 11) (.t 13), none⟩,
      ⟨some 17, .load 4 true (.t 16), none⟩,
      ⟨some 8, .alloc [.s (.string ⟨#[]⟩), .s (.int .i64 0), .s (.string ⟨#[]⟩), .s (.int .i64 0)], none⟩,
      ⟨some 7, .cp (.t 15), none⟩,
      ⟨none, .store 4 (.t 8) (.t 17), none⟩] (none))
    (.seq (.seq (.region [
      ⟨some 18, .cp (.t 7), none⟩,
      ⟨some 19, .cp (.t 1), none⟩,
      ⟨some 20, .len false (.t 19), none⟩,
      ⟨some 21, .bin .geq (.t 18) (.t 20), none⟩] (none))
    (.cond (.t 21)
      (.seq (.region [
        ⟨some 6, .cp (.c (.s (.int .i64 1))), none⟩] (none))
      .ret)
      .skip))
    (.seq (.region [
      ⟨some 22, .cp (.t 1), none⟩,
      ⟨some 23, .cp (.t 7), none⟩,
      ⟨some 24, .iaddr 4 (.t 22) (.t 23), none⟩,
      ⟨some 25, .load 4 true (.t 24), none⟩,
      ⟨some 9, .alloc [.s (.string ⟨#[]⟩), .s (.int .i64 0), .s (.string ⟨#[]⟩), .s (.int .i64 0)], none⟩,
      ⟨none, .store 4 (.t 9) (.t 25), none⟩] (none))
    (.seq (.region [
      ⟨some 26, .cp (.t 2), none⟩,
      ⟨some 27, .load 4 true (.t 8), none⟩,
      ⟨some 28, .load 4 true (.t 9), none⟩,
      ⟨some 29, .callv false (.t 26) [(.t 27), (.t 28)], none⟩,
      ⟨some 10, .cp (.t 29), none⟩] (none))
    (.seq (.region [
      ⟨some 30, .cp (.t 10), none⟩,
      ⟨some 31, .bin .neq (.t 30) (.c (.s (.int .i64 0))), none⟩] (none))
    (.cond (.t 31)
      (.seq (.region [
        ⟨some 32, .cp (.t 10), none⟩,
        ⟨some 6, .cp (.t 32), none⟩] (none))
      .ret)
      .skip)))))))
  (.region [
    ⟨some 33, .bin .add (.t 13) (.c (.s (.int .i64 1))), none⟩,
    ⟨some 13, .cp (.t 33), none⟩] (none)))))
def x_slices_CompareFunc_api_Attr_api_Attr_api_Attr_api_Attr : XF := { np := 3, results := [(.inl 6, .v)], body :=
  (.seq (.region [
    ⟨some 6, .cp (.c (.s (.int .i64 0))), none⟩] (none))
  (.seq (.seq (.region [
    ⟨some 11, .cp (.t 0), none⟩,
    ⟨some 12, .len false (.t 11), none⟩,
    ⟨some 13, .cp (.c (.s (.int .i64 0))), none⟩] (none))
  (.block 0
    (.loop x_slices_CompareFunc_api_Attr_api_Attr_api_Attr_api_Attr_l0)))
  (.seq (.seq (.region [
    ⟨some 34, .cp (.t 0), none⟩,
    ⟨some 35, .len false (.t 34), none⟩,
    ⟨some 36, .cp (.t 1), none⟩,
    ⟨some 37, .len false (.t 36), none⟩,
    ⟨some 38, .bin .lss (.t 35) (.t 37), none⟩] (none))
  (.cond (.t 38)
    (.seq (.region [
      ⟨some 6, .cp (.c (.s (.int .i64 (-1)))), none⟩] (none))
    .ret)
    .skip))
  (.seq (.region [
    ⟨some 6, .cp (.c (.s (.int .i64 0))), none⟩] (none))
  .ret)))) }
def x_attribute_CompareAttrs_1 : XF := { np := 2, results := [(.inl 4, .v)], body :=
  (.seq (.region [
    ⟨some 2, .box false (.t 0), none⟩,
    ⟨some 3, .box false (.t 1), none⟩,
    ⟨some 4, .cp (.c (.s (.int .i64 0))), none⟩] (none))
  (.seq (.region [
    ⟨some 5, .faddr (.t 2) 0, none⟩,
    ⟨some 6, .load 1 false (.t 5), none⟩,
    ⟨some 7, .faddr (.t 3) 0, none⟩,
    ⟨some 8, .load 1 false (.t 7), none⟩,
    ⟨some 9, .call false i_cmp_Compare_string [(.t 6), (.t 8)], none⟩,
    ⟨some 10, .faddr (.t 2) 1, none⟩,
    ⟨some 11, .load 3 true (.t 10), none⟩,
    ⟨some 12, .faddr (.t 3) 1, none⟩,
    ⟨some 13, .load 3 true (.t 12), none⟩,
    ⟨some 14, .call false i_attribute_CompareValues [(.t 11), (.t 13)], none⟩,
    ⟨some 15, .bslice false 1 [(.t 9), (.t 14)], none⟩,
    ⟨some 16, .call false i_cmp_Or_int [(.t 15)], none⟩,
    ⟨some 4, .cp (.t 16), none⟩] (some [(4, some 6), (4, some 8)]))
  .ret)) }
def x_attribute_CompareValues : XF := { np := 2, results := [(.inl 4, .v)], body :=
  (.seq (.region [
    ⟨some 2, .box false (.t 0), none⟩,
    ⟨some 3, .box false (.t 1), none⟩,
    ⟨some 4, .cp (.c (.s (.int .i64 0))), none⟩] (none))
  (.seq (.region [
    ⟨some 5, .faddr (.t 2) 0, none⟩,
    ⟨some 6, .load 1 false (.t 5), none⟩,
    ⟨some 7, .faddr (.t 3) 0, none⟩,
    ⟨some 8, .load 1 false (.t 7), none⟩,
    ⟨some 9, .call false i_cmp_Compare_int [(.t 6), (.t 8)], none⟩,
    ⟨some 10, .faddr (.t 2) 1, none⟩,
    ⟨some 11, .load 1 false (.t 10), none⟩,
    ⟨some 12, .faddr (.t 3) 1, none⟩,
    ⟨some 13, .load 1 false (.t 12), none⟩,
    ⟨some 14, .call false i_cmp_Compare_string [(.t 11), (.t 13)], none⟩,
    ⟨some 15, .faddr (.t 2) 2, none⟩,
    ⟨some 16, .load 1 false (.t 15), none⟩,
    ⟨some 17, .faddr (.t 3) 2, none⟩,
    ⟨some 18, .load 1 false (.t 17), none⟩,
    ⟨some 19, .call false i_cmp_Compare_int [(.t 16), (.t 18)], none⟩,
    ⟨some 20, .bslice false 1 [(.t 9), (.t 14), (.t 19)], none⟩,
    ⟨some 21, .call false i_cmp_Or_int [(.t 20)], none⟩,
    ⟨some 4, .cp (.t 21), none⟩] (some [(4, none), (9, some 11), (9, some 13)]))
  .ret)) }
def x_span_copied : XF := { np := 1, results := [(.inr (2, 14, true), .v)], body :=
  (.seq (.region [
    ⟨some 1, .box false (.t 0), none⟩,
    ⟨some 2, .alloc [.s (.int .i64 0), .s (.int .i64 0), .s (.int .i64 0), .s (.int .i64 0), .s (.int .i64 0), .s (.int .i64 0), .s (.string ⟨#[]⟩), .s (.string ⟨#[]⟩), .s (.string ⟨#[]⟩), .s (.int .i64 0), .s (.int .i64 0), .s (.bool false), .s (.slice none 0 0), .s (.slice none 0 0)], none⟩] (none))
  (.seq (.region [
    ⟨some 3, .faddr (.t 1) 12, none⟩,
    ⟨some 4, .load 1 false (.t 3), none⟩,
    ⟨some 5, .call false i_slices_Clone_api_Attr_api_Attr [(.t 4)], none⟩,
    ⟨some 6, .faddr (.t 1) 13, none⟩,
    ⟨some 7, .load 1 false (.t 6), none⟩,
    ⟨some 8, .call false i_slices_Clone_api_Ref_api_Ref [(.t 7)], none⟩,
    ⟨some 9, .faddr (.t 1) 12, none⟩,
    ⟨none, .store 1 (.t 9) (.t 5), none⟩,
    ⟨some 10, .faddr (.t 1) 13, none⟩,
    ⟨none, .store 1 (.t 10) (.t 8), none⟩] (some [(2, some 4)]))
  (.seq (.region [
    ⟨some 11, .load 14 true (.t 1), none⟩,
    ⟨none, .store 14 (.t 2) (.t 11), none⟩] (none))
  .ret))) }
def x_slices_CompactFunc_api_Span_api_Span_l0 : XC :=
  (.seq (.seq (.region [
    ⟨some 32, .cp (.t 7), none⟩,
    ⟨some 33, .cp (.t 6), none⟩,
    ⟨some 34, .len false (.t 33), none⟩,
    ⟨some 35, .bin .lss (.t 32) (.t 34), none⟩] (none))
  (.cond (.t 35)
    .skip
    (.exit 2)))
  (.seq (.block 3
    (.seq (.region [
      ⟨some 38, .cp (.t 1), none⟩,
      ⟨some 39, .cp (.t 6), none⟩,
      ⟨some 40, .cp (.t 7), none⟩,
      ⟨some 41, .iaddr 14 (.t 39) (.t 40), none⟩,
      ⟨some 42, .load 14 true (.t 41), none⟩,
      ⟨some 43, .cp (.t 6), none⟩,
      ⟨some 44, .cp (.t 7), none⟩,
      ⟨some 45, .bin .sub (.t 44) (.c (.s (.int .i64 1))), none⟩,
      ⟨some 46, .iaddr 14 (.t 43) (.t 45), none⟩,
      ⟨some 47, .load 14 true (.t 46), none⟩,
      ⟨some 48, .callv false (.t 38) [(.t 42), (.t 47)], none⟩,
      ⟨some 49, .un .not (.t 48), none⟩] (some []))
    (.cond (.t 49)
      (.seq (.region [
        ⟨some 50, .cp (.t 0), none⟩,
        ⟨some 51, .cp (.t 5), none⟩,
        ⟨some 52, .cp (.t 6), none⟩,
        ⟨some 53, .cp (.t 7), none⟩,
        ⟨some 54, .iaddr 14 (.t 52) (.t 53), none⟩,
        ⟨some 55, .load 14 true (.t 54), none⟩,
        ⟨some 56, .iaddr 14 (.t 50) (.t 51), none⟩,
        ⟨none, .store 14 (.t 56) (.t 55), none⟩] (none))
      (.region [
        ⟨some 57, .cp (.t 5), none⟩,
        ⟨some 58, .bin .add (.t 57) (.c (.s (.int .i64 1))), none⟩,
        ⟨some 5, .cp (.t 58), none⟩] (none)))
      .skip)))
  (.region [
    ⟨some 36, .cp (.t 7), none⟩,
    ⟨some 37, .bin .add (.t 36) (.c (.s (.int .i64 1))), none⟩,
    ⟨some 7, .cp (.t 37), none⟩] (none))))
def x_slices_CompactFunc_api_Span_api_Span_l1 : XC :=
  (.seq (.seq (.region [
    ⟨some 12, .cp (.t 5), none⟩,
    ⟨some 13, .cp (.t 0), none⟩,
    ⟨some 14, .len false (.t 13), none⟩,
    ⟨some 15, .bin .lss (.t 12) (.t 14), none⟩] (none))
  (.cond (.t 15)
    .skip
    (.exit 0)))
  (.seq (.block 1
    (.seq (.region [
      ⟨some 18, .cp (.t 1), none⟩,
      ⟨some 19, .cp (.t 0), none⟩,
      ⟨some 20, .cp (.t 5), none⟩,
      ⟨some 21, .iaddr 14 (.t 19) (.t 20), none⟩,
      ⟨some 22, .load 14 true (.t 21), none⟩,
      ⟨some 23, .cp (.t 0), none⟩,
      ⟨some 24, .cp (.t 5), none⟩,
      ⟨some 25, .bin .sub (.t 24) (.c (.s (.int .i64 1))), none⟩,
      ⟨some 26, .iaddr 14 (.t 23) (.t 25), none⟩,
      ⟨some 27, .load 14 true (.t 26), none⟩,
      ⟨some 28, .callv false (.t 18) [(.t 22), (.t 27)], none⟩] (some []))
    (.cond (.t 28)
      (.seq (.region [
        ⟨some 29, .cp (.t 0), none⟩,
        ⟨some 30, .cp (.t 5), none⟩,
        ⟨some 31, .slLst 14 (.t 29) (some (.t 30)) none, none⟩,
        ⟨some 6, .cp (.t 31), none⟩] (none))
      (.seq (.seq (.region [
        ⟨some 7, .cp (.c (.s (.int .i64 1))), none⟩] (none))
      (.block 2
        (.loop x_slices_CompactFunc_api_Span_api_Span_l0)))
      (.seq (.region [
        ⟨some 59, .cp (.t 0), none⟩,
        ⟨some 60, .cp (.t 5), none⟩,
        ⟨some 61, .slLst 14 (.t 59) (some (.t 60)) none, none⟩,
        ⟨none, .clear 14 (.agg [.s (.int .i64 0), .s (.int .i64 0), .s (.int .i64 0), .s (.int .i64 0), .s (.int .i64 0), .s (.int .i64 0), .s (.string ⟨#[]⟩), .s (.string ⟨#[]⟩), .s (.string ⟨#[]⟩), .s (.int .i64 0), .s (.int .i64 0), .s (.bool false), .s (.slice none 0 0), .s (.slice none 0 0)]) (.t 61), none⟩] (none))
      (.seq (.region [
        ⟨some 62, .cp (.t 0), none⟩,
        ⟨some 63, .cp (.t 5), none⟩,
        ⟨some 64, .slFrz 14 (.t 62) none (some (.t 63)), none⟩,
        ⟨some 4, .cp (.t 64), none⟩] (none))
      .ret))))
      .skip)))
  (.region [
    ⟨some 16, .cp (.t 5), none⟩,
    ⟨some 17, .bin .add (.t 16) (.c (.s (.int .i64 1))), none⟩,
    ⟨some 5, .cp (.t 17), none⟩] (none))))
def x_slices_CompactFunc_api_Span_api_Span : XF := { np := 2, results := [(.inl 4, .v)], body :=
  (.seq (.region [
    ⟨some 4, .cp (.c (.s (.slice none 0 0))), none⟩] (none))
  (.seq (.seq (.region [
    ⟨some 8, .cp (.t 0), none⟩,
    ⟨some 9, .len false (.t 8), none⟩,
    ⟨some 10, .bin .lss (.t 9) (.c (.s (.int .i64 2))), none⟩] (none))
  (.cond (.t 10)
    (.seq (.region [
      ⟨some 11, .cp (.t 0), none⟩,
      ⟨some 4, .cp (.t 11), none⟩] (none))
    .ret)
    .skip))
  (.seq (.seq (.region [
    ⟨some 5, .cp (.c (.s (.int .i64 1))), none⟩] (none))
  (.block 0
    (.loop x_slices_CompactFunc_api_Span_api_Span_l1)))
  (.seq (.region [
    ⟨some 65, .cp (.t 0), none⟩,
    ⟨some 4, .cp (.t 65), none⟩] (none))
  .ret)))) }
def x_slices_SortedFunc_api_Span : XF := { np := 2, results := [(.inl 4, .v)], body :=
  (.seq (.region [
    ⟨some 4, .cp (.c (.s (.slice none 0 0))), none⟩] (none))
  (.seq (.region [
    ⟨some 6, .cp (.t 0), none⟩,
    ⟨some 7, .call true i_slices_Collect_api_Span [(.t 6)], none⟩,
    ⟨some 5, .cp (.t 7), none⟩] (none))
  (.seq (.region [
    ⟨some 8, .cp (.t 5), none⟩,
    ⟨some 9, .cp (.t 1), none⟩,
    ⟨some 10, .call false i_slices_SortFunc_api_Span_api_Span [(.t 8), (.t 9)], none⟩] (none))
  (.seq (.region [
    ⟨some 11, .cp (.t 5), none⟩,
    ⟨some 4, .cp (.t 11), none⟩] (none))
  .ret)))) }
def x_slices_Values_api_Span_api_Span : XF := { np := 1, results := [(.inl 2, .c)], body :=
  (.seq (.region [
    ⟨some 1, .box true (.t 0), none⟩,
    ⟨some 2, .cp (.c (.s .nilFunc)), none⟩] (none))
  (.seq (.region [
    ⟨some 3, .mkfn false i_slices_Values_api_Span_api_Span_1 [] [(.t 1)], none⟩,
    ⟨some 2, .cp (.t 3), none⟩] (none))
  .ret)) }
def x_slices_Clone_api_Attr_api_Attr : XF := { np := 1, results := [(.inl 2, .v)], body :=
  (.seq (.region [
    ⟨some 2, .cp (.c (.s (.slice none 0 0))), none⟩] (none))
  (.seq (.seq (.region [
    ⟨some 3, .cp (.t 0), none⟩,
    ⟨some 4, .eqv .s false (.t 3) (.c (.s (.slice none 0 0))), none⟩] (none))
  (.cond (.t 4)
    (.seq (.region [
      ⟨some 2, .cp (.c (.s (.slice none 0 0))), none⟩] (none))
    .ret)
    .skip))
  (.seq (.region [
    ⟨some 5, .bslice true 4 [], none⟩,
    ⟨some 6, .cp (.t 0), none⟩,
    ⟨some 7, .append 4 2932031007402 (.t 5) (.t 6), none⟩,
    ⟨some 2, .cp (.t 7), none⟩] (none))
  .ret))) }
def x_slices_Clone_api_Ref_api_Ref : XF := { np := 1, results := [(.inl 2, .v)], body :=
  (.seq (.region [
    ⟨some 2, .cp (.c (.s (.slice none 0 0))), none⟩] (none))
  (.seq (.seq (.region [
    ⟨some 3, .cp (.t 0), none⟩,
    ⟨some 4, .eqv .s false (.t 3) (.c (.s (.slice none 0 0))), none⟩] (none))
  (.cond (.t 4)
    (.seq (.region [
      ⟨some 2, .cp (.c (.s (.slice none 0 0))), none⟩] (none))
    .ret)
    .skip))
  (.seq (.region [
    ⟨some 5, .bslice true 2 [], none⟩,
    ⟨some 6, .cp (.t 0), none⟩,
    ⟨some 7, .append 2 8796093022208 (.t 5) (.t 6), none⟩,
    ⟨some 2, .cp (.t 7), none⟩] (none))
  .ret))) }
def x_slices_Collect_api_Span : XF := { np := 1, results := [(.inl 2, .v)], body :=
  (.seq (.region [
    ⟨some 2, .cp (.c (.s (.slice none 0 0))), none⟩] (none))
  (.seq (.region [
    ⟨some 3, .cp (.t 0), none⟩,
    ⟨some 4, .call true i_slices_AppendSeq_api_Span_api_Span [(.c (.s (.slice none 0 0))), (.t 3)], none⟩,
    ⟨some 2, .cp (.t 4), none⟩] (none))
  .ret)) }
def x_slices_SortFunc_api_Span_api_Span : XF := { np := 2, results := [], body := .skip, nat := some (.sort 14) }
def x_slices_Values_api_Span_api_Span_1_l0 : XC :=
  (.seq (.region [
    ⟨some 8, .bin .lss (.t 7) (.t 6), none⟩] (none))
  (.seq (.cond (.t 8)
    .skip
    (.exit 0))
  (.seq (.block 1
    (.seq (.region [
      ⟨some 9, .iaddr 14 (.t 5) (.t 7), none⟩,
      ⟨some 10, .load 14 true (.t 9), none⟩,
      ⟨some 4, .alloc [.s (.int .i64 0), .s (.int .i64 0), .s (.int .i64 0), .s (.int .i64 0), .s (.int .i64 0), .s (.int .i64 0), .s (.string ⟨#[]⟩), .s (.string ⟨#[]⟩), .s (.string ⟨#[]⟩), .s (.int .i64 0), .s (.int .i64 0), .s (.bool false), .s (.slice none 0 0), .s (.slice none 0 0)], none⟩,
      ⟨none, .store 14 (.t 4) (.t 10), none⟩] (none))
    (.seq (.region [
      ⟨some 11, .cp (.t 0), none⟩,
      ⟨some 12, .load 14 true (.t 4), none⟩,
      ⟨some 13, .callv false (.t 11) [(.t 12)], none⟩,
      ⟨some 14, .un .not (.t 13), none⟩] (none))
    (.cond (.t 14)
      .ret
      .skip))))
  (.region [
    ⟨some 15, .bin .add (.t 7) (.c (.s (.int .i64 1))), none⟩,
    ⟨some 7, .cp (.t 15), none⟩] (none)))))
def x_slices_Values_api_Span_api_Span_1 : XF := { np := 2, results := [], body :=
  (.seq (.region [
    ⟨some 5, .load 1 false (.t 1), none⟩,
    ⟨some 6, .len false (.t 5), none⟩,
    ⟨some 7, .cp (.c (.s (.int .i64 0))), none⟩] (none))
  (.block 0
    (.loop x_slices_Values_api_Span_api_Span_1_l0))) }
def x_slices_AppendSeq_api_Span_api_Span : XF := { np := 2, results := [], body := .skip, nat := some (.seq i_slices_Values_api_Span_api_Span_1 14 837723144972) }
def x_sleuthlaw31_PartitionRefuses : XF := { np := 2, results := [(.inl 4, .v)], body :=
  (.seq (.region [
    ⟨some 3, .box false (.t 1), none⟩,
    ⟨some 4, .cp (.c (.s (.bool false))), none⟩] (none))
  (.seq (.seq (.region [
    ⟨some 17, .call false i_sleuthlaw31_known [], none⟩,
    ⟨some 18, .un .not (.t 17), none⟩,
    ⟨some 19, .cp (.t 18), none⟩,
    ⟨some 20, .faddr (.t 3) 12, some (19, false)⟩,
    ⟨some 21, .load 1 false (.t 20), some (19, false)⟩,
    ⟨some 22, .len false (.t 21), some (19, false)⟩,
    ⟨some 23, .bin .gtr (.t 22) (.c (.s (.int .i64 40))), some (19, false)⟩,
    ⟨some 24, .pick (.t 19) (.c (.s (.bool true))) (.t 23), none⟩,
    ⟨some 25, .cp (.t 24), none⟩,
    ⟨some 26, .faddr (.t 3) 13, some (25, false)⟩,
    ⟨some 27, .load 1 false (.t 26), some (25, false)⟩,
    ⟨some 28, .len false (.t 27), some (25, false)⟩,
    ⟨some 29, .bin .gtr (.t 28) (.c (.s (.int .i64 20))), some (25, false)⟩,
    ⟨some 30, .pick (.t 25) (.c (.s (.bool true))) (.t 29), none⟩] (none))
  (.cond (.t 30)
    (.seq (.region [
      ⟨some 31, .call false i_sleuthlaw31_known [], none⟩,
      ⟨some 4, .cp (.t 31), none⟩] (none))
    .ret)
    .skip))
  (.seq (.region [
    ⟨some 33, .cp (.t 0), none⟩,
    ⟨some 34, .call false i_partition_New [(.t 33)], none⟩,
    ⟨some 32, .cp (.t 34), none⟩,
    ⟨some 35, .extract (.t 32) 0, none⟩,
    ⟨some 36, .extract (.t 32) 1, none⟩,
    ⟨some 5, .cp (.t 35), none⟩,
    ⟨some 6, .cp (.t 36), none⟩] (none))
  (.seq (.seq (.region [
    ⟨some 37, .cp (.t 0), none⟩,
    ⟨some 38, .bin .geq (.t 37) (.c (.s (.int .i64 0))), none⟩,
    ⟨some 39, .cp (.t 38), none⟩,
    ⟨some 40, .cp (.t 0), some (39, true)⟩,
    ⟨some 41, .bin .leq (.t 40) (.c (.s (.int .i64 65536))), some (39, true)⟩,
    ⟨some 42, .pick (.t 39) (.t 41) (.c (.s (.bool false))), none⟩,
    ⟨some 7, .cp (.t 42), none⟩] (none))
  (.seq (.region [
    ⟨some 43, .cp (.t 7), none⟩,
    ⟨some 44, .cp (.t 6), none⟩,
    ⟨some 45, .bin .eql (.t 44) (.c (.s (.int .i64 0))), none⟩,
    ⟨some 46, .eqv .b true (.t 43) (.t 45), none⟩,
    ⟨some 47, .cp (.t 46), none⟩,
    ⟨some 48, .cp (.t 7), some (47, false)⟩,
    ⟨some 49, .cp (.t 5), some (47, false)⟩,
    ⟨some 50, .eqv .p true (.t 49) (.c (.s (.pointer none))), some (47, false)⟩,
    ⟨some 51, .eqv .b true (.t 48) (.t 50), some (47, false)⟩,
    ⟨some 52, .pick (.t 47) (.c (.s (.bool true))) (.t 51), none⟩,
    ⟨some 53, .cp (.t 52), none⟩,
    ⟨some 54, .cp (.t 7), some (53, false)⟩,
    ⟨some 55, .un .not (.t 54), some (53, false)⟩,
    ⟨some 56, .cp (.t 55), some (53, false)⟩,
    ⟨some 57, .cp (.t 6), some (56, true)⟩,
    ⟨some 58, .bin .neq (.t 57) (.c (.s (.int .i64 2))), some (56, true)⟩,
    ⟨some 59, .pick (.t 56) (.t 58) (.c (.s (.bool false))), some (53, false)⟩,
    ⟨some 60, .pick (.t 53) (.c (.s (.bool true))) (.t 59), none⟩] (none))
  (.cond (.t 60)
    (.seq (.region [
      ⟨some 4, .cp (.c (.s (.bool false))), none⟩] (none))
    .ret)
    .skip)))
  (.seq (.region [
    ⟨some 62, .call false i_partition_New [(.c (.s (.int .i64 1)))], none⟩,
    ⟨some 61, .cp (.t 62), none⟩,
    ⟨some 63, .extract (.t 61) 0, none⟩,
    ⟨some 64, .extract (.t 61) 1, none⟩,
    ⟨some 8, .cp (.t 63), none⟩,
    ⟨some 9, .cp (.t 64), none⟩] (none))
  (.seq (.region [
    ⟨some 66, .build false [.s (.slice none 0 0), .s (.bool false)] [], none⟩,
    ⟨some 67, .call false i_sleuthlaw31_record [(.c (.s (.int .i64 1)))], none⟩,
    ⟨some 68, .load 14 true (.t 3), none⟩,
    ⟨some 69, .bslice false 14 [(.t 67), (.t 68)], none⟩,
    ⟨some 70, .call false i_sleuthlaw31_state_insert [(.t 66), (.t 69)], none⟩,
    ⟨some 65, .cp (.t 70), none⟩,
    ⟨some 71, .extract (.t 65) 0, none⟩,
    ⟨some 72, .extract (.t 65) 1, none⟩,
    ⟨some 73, .extract (.t 65) 2, none⟩,
    ⟨some 10, .alloc [.s (.slice none 0 0), .s (.bool false)], none⟩,
    ⟨none, .store 2 (.t 10) (.t 71), none⟩,
    ⟨some 11, .cp (.t 72), none⟩,
    ⟨some 12, .cp (.t 73), none⟩] (some [(1, some 2), (9, some 2)]))
  (.seq (.region [
    ⟨some 75, .cp (.t 8), none⟩,
    ⟨some 76, .call false i_sleuthlaw31_record [(.c (.s (.int .i64 1)))], none⟩,
    ⟨some 77, .load 14 true (.t 3), none⟩,
    ⟨some 78, .bslice false 14 [(.t 76), (.t 77)], none⟩,
    ⟨some 79, .call false i_partition_Partition_Insert [(.t 75), (.t 78)], none⟩,
    ⟨some 74, .cp (.t 79), none⟩,
    ⟨some 80, .extract (.t 74) 0, none⟩,
    ⟨some 81, .extract (.t 74) 1, none⟩,
    ⟨some 13, .cp (.t 80), none⟩,
    ⟨some 14, .cp (.t 81), none⟩] (some [(1, some 2)]))
  (.seq (.seq (.region [
    ⟨some 82, .cp (.t 13), none⟩,
    ⟨some 83, .cp (.t 11), none⟩,
    ⟨some 84, .bin .neq (.t 82) (.t 83), none⟩,
    ⟨some 85, .cp (.t 84), none⟩,
    ⟨some 86, .cp (.t 14), some (85, false)⟩,
    ⟨some 87, .cp (.t 12), some (85, false)⟩,
    ⟨some 88, .bin .neq (.t 86) (.t 87), some (85, false)⟩,
    ⟨some 89, .pick (.t 85) (.c (.s (.bool true))) (.t 88), none⟩,
    ⟨some 90, .cp (.t 89), none⟩,
    ⟨some 91, .load 2 true (.t 10), some (90, false)⟩,
    ⟨some 92, .cp (.t 8), some (90, false)⟩,
    ⟨some 93, .call false i_sleuthlaw31_state_agrees [(.t 91), (.t 92)], some (90, false)⟩,
    ⟨some 94, .un .not (.t 93), some (90, false)⟩,
    ⟨some 95, .pick (.t 90) (.c (.s (.bool true))) (.t 94), none⟩] (none))
  (.cond (.t 95)
    (.seq (.region [
      ⟨some 4, .cp (.c (.s (.bool false))), none⟩] (none))
    .ret)
    .skip))
  (.seq (.seq (.region [
    ⟨some 96, .cp (.t 5), none⟩,
    ⟨some 97, .eqv .p false (.t 96) (.c (.s (.pointer none))), none⟩] (none))
  (.cond (.t 97)
    (.seq (.region [
      ⟨some 4, .cp (.c (.s (.bool true))), none⟩] (none))
    .ret)
    .skip))
  (.seq (.region [
    ⟨some 99, .cp (.t 5), none⟩,
    ⟨some 100, .cp (.t 8), none⟩,
    ⟨some 101, .call false i_partition_Partition_Merge [(.t 99), (.t 100)], none⟩,
    ⟨some 98, .cp (.t 101), none⟩,
    ⟨some 102, .extract (.t 98) 0, none⟩,
    ⟨some 103, .extract (.t 98) 1, none⟩,
    ⟨some 15, .cp (.t 102), none⟩,
    ⟨some 16, .cp (.t 103), none⟩] (none))
  (.seq (.region [
    ⟨some 104, .cp (.t 16), none⟩,
    ⟨some 105, .bin .eql (.t 104) (.c (.s (.int .i64 17))), none⟩,
    ⟨some 106, .cp (.t 0), none⟩,
    ⟨some 107, .bin .neq (.t 106) (.c (.s (.int .i64 1))), none⟩,
    ⟨some 108, .eqv .b false (.t 105) (.t 107), none⟩,
    ⟨some 109, .cp (.t 108), none⟩,
    ⟨some 110, .cp (.t 0), some (109, true)⟩,
    ⟨some 111, .bin .neq (.t 110) (.c (.s (.int .i64 1))), some (109, true)⟩,
    ⟨some 112, .cp (.t 111), some (109, true)⟩,
    ⟨some 113, .cp (.t 5), some (112, false)⟩,
    ⟨some 114, .cp (.t 8), some (112, false)⟩,
    ⟨some 115, .call false i_partition_Partition_Equal [(.t 113), (.t 114)], some (112, false)⟩,
    ⟨some 116, .pick (.t 112) (.c (.s (.bool true))) (.t 115), some (109, true)⟩,
    ⟨some 117, .pick (.t 109) (.t 116) (.c (.s (.bool false))), none⟩,
    ⟨some 4, .cp (.t 117), none⟩] (none))
  .ret))))))))))) }
def x_sleuthlaw31_known : XF := { np := 0, results := [(.inl 0, .v)], body :=
  (.seq (.region [
    ⟨some 0, .cp (.c (.s (.bool false))), none⟩] (none))
  (.seq (.region [
    ⟨some 8, .call false i_partition_New [(.c (.s (.int .i64 1)))], none⟩,
    ⟨some 7, .cp (.t 8), none⟩,
    ⟨some 9, .extract (.t 7) 0, none⟩,
    ⟨some 10, .extract (.t 7) 1, none⟩,
    ⟨some 1, .cp (.t 9), none⟩,
    ⟨some 2, .cp (.t 10), none⟩] (none))
  (.seq (.seq (.region [
    ⟨some 11, .cp (.t 2), none⟩,
    ⟨some 12, .bin .neq (.t 11) (.c (.s (.int .i64 0))), none⟩,
    ⟨some 13, .cp (.t 12), none⟩,
    ⟨some 14, .cp (.t 1), some (13, false)⟩,
    ⟨some 15, .eqv .p false (.t 14) (.c (.s (.pointer none))), some (13, false)⟩,
    ⟨some 16, .pick (.t 13) (.c (.s (.bool true))) (.t 15), none⟩] (none))
  (.cond (.t 16)
    (.seq (.region [
      ⟨some 0, .cp (.c (.s (.bool false))), none⟩] (none))
    .ret)
    .skip))
  (.seq (.region [
    ⟨some 18, .cp (.t 1), none⟩,
    ⟨some 19, .call false i_sleuthlaw31_record [(.c (.s (.int .i64 1)))], none⟩,
    ⟨some 20, .call false i_sleuthlaw31_record [(.c (.s (.int .i64 2)))], none⟩,
    ⟨some 21, .bslice false 14 [(.t 19), (.t 20)], none⟩,
    ⟨some 22, .call false i_partition_Partition_Insert [(.t 18), (.t 21)], none⟩,
    ⟨some 17, .cp (.t 22), none⟩,
    ⟨some 23, .extract (.t 17) 0, none⟩,
    ⟨some 24, .extract (.t 17) 1, none⟩,
    ⟨some 3, .cp (.t 23), none⟩,
    ⟨some 4, .cp (.t 24), none⟩] (none))
  (.seq (.region [
    ⟨some 26, .cp (.t 1), none⟩,
    ⟨some 27, .call false i_sleuthlaw31_record [(.c (.s (.int .i64 2)))], none⟩,
    ⟨some 28, .call false i_sleuthlaw31_record [(.c (.s (.int .i64 3)))], none⟩,
    ⟨some 29, .bslice false 14 [(.t 27), (.t 28)], none⟩,
    ⟨some 30, .call false i_partition_Partition_Insert [(.t 26), (.t 29)], none⟩,
    ⟨some 25, .cp (.t 30), none⟩,
    ⟨some 31, .extract (.t 25) 0, none⟩,
    ⟨some 32, .extract (.t 25) 1, none⟩,
    ⟨some 5, .cp (.t 31), none⟩,
    ⟨some 6, .cp (.t 32), none⟩] (none))
  (.seq (.region [
    ⟨some 33, .cp (.t 4), none⟩,
    ⟨some 34, .bin .eql (.t 33) (.c (.s (.int .i64 0))), none⟩,
    ⟨some 35, .cp (.t 34), none⟩,
    ⟨some 36, .cp (.t 6), some (35, true)⟩,
    ⟨some 37, .bin .eql (.t 36) (.c (.s (.int .i64 0))), some (35, true)⟩,
    ⟨some 38, .pick (.t 35) (.t 37) (.c (.s (.bool false))), none⟩,
    ⟨some 39, .cp (.t 38), none⟩,
    ⟨some 40, .cp (.t 3), some (39, true)⟩,
    ⟨some 41, .bin .eql (.t 40) (.c (.s (.int .i64 2))), some (39, true)⟩,
    ⟨some 42, .pick (.t 39) (.t 41) (.c (.s (.bool false))), none⟩,
    ⟨some 43, .cp (.t 42), none⟩,
    ⟨some 44, .cp (.t 5), some (43, true)⟩,
    ⟨some 45, .bin .eql (.t 44) (.c (.s (.int .i64 1))), some (43, true)⟩,
    ⟨some 46, .pick (.t 43) (.t 45) (.c (.s (.bool false))), none⟩,
    ⟨some 47, .cp (.t 46), none⟩,
    ⟨some 48, .cp (.t 1), some (47, true)⟩,
    ⟨some 49, .call false i_partition_Partition_Blocks [(.t 48)], some (47, true)⟩,
    ⟨some 50, .len false (.t 49), some (47, true)⟩,
    ⟨some 51, .bin .eql (.t 50) (.c (.s (.int .i64 2))), some (47, true)⟩,
    ⟨some 52, .pick (.t 47) (.t 51) (.c (.s (.bool false))), none⟩,
    ⟨some 53, .cp (.t 52), none⟩,
    ⟨some 54, .cp (.t 1), some (53, true)⟩,
    ⟨some 55, .call false i_partition_Partition_Records [(.t 54)], some (53, true)⟩,
    ⟨some 56, .len false (.t 55), some (53, true)⟩,
    ⟨some 57, .bin .eql (.t 56) (.c (.s (.int .i64 3))), some (53, true)⟩,
    ⟨some 58, .pick (.t 53) (.t 57) (.c (.s (.bool false))), none⟩,
    ⟨some 59, .cp (.t 58), none⟩,
    ⟨some 60, .cp (.t 1), some (59, true)⟩,
    ⟨some 61, .call false i_partition_Partition_Digest [(.t 60)], some (59, true)⟩,
    ⟨some 62, .bin .neq (.t 61) (.c (.s (.int .u32 0))), some (59, true)⟩,
    ⟨some 63, .pick (.t 59) (.t 62) (.c (.s (.bool false))), none⟩,
    ⟨some 0, .cp (.t 63), none⟩] (none))
  .ret)))))) }
def x_partition_New : XF := { np := 1, results := [(.inl 2, .o), (.inl 3, .v)], body :=
  (.seq (.region [
    ⟨some 2, .cp (.c (.s (.pointer none))), none⟩,
    ⟨some 3, .cp (.c (.s (.int .i64 0))), none⟩] (none))
  (.seq (.seq (.region [
    ⟨some 4, .cp (.t 0), none⟩,
    ⟨some 5, .bin .lss (.t 4) (.c (.s (.int .i64 0))), none⟩,
    ⟨some 6, .cp (.t 5), none⟩,
    ⟨some 7, .cp (.t 0), some (6, false)⟩,
    ⟨some 8, .bin .gtr (.t 7) (.c (.s (.int .i64 65536))), some (6, false)⟩,
    ⟨some 9, .pick (.t 6) (.c (.s (.bool true))) (.t 8), none⟩] (none))
  (.cond (.t 9)
    (.seq (.region [
      ⟨some 2, .cp (.c (.s (.pointer none))), none⟩,
      ⟨some 3, .cp (.c (.s (.int .i64 2))), none⟩] (none))
    .ret)
    .skip))
  (.seq (.region [
    ⟨some 10, .cp (.t 0), none⟩,
    ⟨some 11, .build false [.s (.int .i64 0), .s (.bool false), .s (.slice none 0 0)] [(0, 1, (.t 10))], none⟩,
    ⟨some 12, .box false (.t 11), none⟩,
    ⟨some 2, .cp (.t 12), none⟩,
    ⟨some 3, .cp (.c (.s (.int .i64 0))), none⟩] (none))
  .ret))) }
def x_partition_Partition_Insert_l0 : XC :=
  (.seq (.region [
    ⟨some 24, .bin .lss (.t 23) (.t 22), none⟩] (none))
  (.seq (.cond (.t 24)
    .skip
    (.exit 1))
  (.seq (.block 2
    (.seq (.region [
      ⟨some 25, .iaddr 14 (.t 21) (.t 23), none⟩,
      ⟨some 26, .load 14 true (.t 25), none⟩,
      ⟨some 7, .alloc [.s (.int .i64 0), .s (.int .i64 0), .s (.int .i64 0), .s (.int .i64 0), .s (.int .i64 0), .s (.int .i64 0), .s (.string ⟨#[]⟩), .s (.string ⟨#[]⟩), .s (.string ⟨#[]⟩), .s (.int .i64 0), .s (.int .i64 0), .s (.bool false), .s (.slice none 0 0), .s (.slice none 0 0)], none⟩,
      ⟨none, .store 14 (.t 7) (.t 26), none⟩] (none))
    (.seq (.region [
      ⟨some 27, .load 14 true (.t 7), none⟩,
      ⟨some 28, .call false i_span_Check [(.t 27)], none⟩,
      ⟨some 8, .cp (.t 28), none⟩] (none))
    (.seq (.region [
      ⟨some 29, .cp (.t 8), none⟩,
      ⟨some 30, .bin .neq (.t 29) (.c (.s (.int .i64 0))), none⟩] (none))
    (.cond (.t 30)
      (.seq (.region [
        ⟨some 31, .cp (.t 8), none⟩,
        ⟨some 4, .cp (.c (.s (.int .i64 0))), none⟩,
        ⟨some 5, .cp (.t 31), none⟩] (none))
      .ret)
      .skip)))))
  (.region [
    ⟨some 32, .bin .add (.t 23) (.c (.s (.int .i64 1))), none⟩,
    ⟨some 23, .cp (.t 32), none⟩] (none)))))
def x_partition_Partition_Insert : XF := { np := 2, results := [(.inl 4, .v), (.inl 5, .v)], body :=
  (.seq (.region [
    ⟨some 4, .cp (.c (.s (.int .i64 0))), none⟩,
    ⟨some 5, .cp (.c (.s (.int .i64 0))), none⟩] (none))
  (.seq (.block 0
    (.seq (.region [
      ⟨some 14, .cp (.t 0), none⟩,
      ⟨some 15, .eqv .p false (.t 14) (.c (.s (.pointer none))), none⟩,
      ⟨some 13, .cp (.t 15), none⟩] (none))
    (.cond (.t 13)
      (.seq (.region [
        ⟨some 4, .cp (.c (.s (.int .i64 0))), none⟩,
        ⟨some 5, .cp (.c (.s (.int .i64 1))), none⟩] (none))
      .ret)
      (.seq (.region [
        ⟨some 17, .cp (.t 0), none⟩,
        ⟨some 18, .nilchk (.t 17), none⟩,
        ⟨some 19, .faddr (.t 18) 1, none⟩,
        ⟨some 20, .load 1 false (.t 19), none⟩,
        ⟨some 16, .cp (.t 20), none⟩] (none))
      (.cond (.t 16)
        (.seq (.region [
          ⟨some 4, .cp (.c (.s (.int .i64 0))), none⟩,
          ⟨some 5, .cp (.c (.s (.int .i64 31))), none⟩] (none))
        .ret)
        .skip)))))
  (.seq (.seq (.region [
    ⟨some 21, .cp (.t 1), none⟩,
    ⟨some 22, .len false (.t 21), none⟩,
    ⟨some 23, .cp (.c (.s (.int .i64 0))), none⟩] (none))
  (.block 1
    (.loop x_partition_Partition_Insert_l0)))
  (.seq (.seq (.region [
    ⟨some 33, .cp (.t 1), none⟩,
    ⟨some 34, .cp (.t 0), none⟩,
    ⟨some 35, .mkfn false i_partition_Partition_foreign [(.t 34)] [], none⟩,
    ⟨some 36, .call false i_slices_ContainsFunc_api_Span_api_Span [(.t 33), (.t 35)], none⟩] (none))
  (.cond (.t 36)
    (.seq (.region [
      ⟨some 4, .cp (.c (.s (.int .i64 0))), none⟩,
      ⟨some 5, .cp (.c (.s (.int .i64 17))), none⟩] (none))
    .ret)
    .skip))
  (.seq (.region [
    ⟨some 37, .cp (.t 0), none⟩,
    ⟨some 38, .call false i_partition_Partition_Records [(.t 37)], none⟩,
    ⟨some 9, .alloc [.s (.slice none 0 0)], none⟩,
    ⟨none, .store 1 (.t 9) (.t 38), none⟩] (none))
  (.seq (.region [
    ⟨some 39, .cp (.t 1), none⟩,
    ⟨some 40, .call true i_span_Set [(.t 39)], none⟩,
    ⟨some 41, .mkfn false i_partition_Partition_Insert_1 [] [(.t 9)], none⟩,
    ⟨some 42, .call false i_slices_DeleteFunc_api_Span_api_Span [(.t 40), (.t 41)], none⟩,
    ⟨some 10, .cp (.t 42), none⟩] (none))
  (.seq (.region [
    ⟨some 44, .cp (.t 10), none⟩,
    ⟨some 45, .call false i_block_Build [(.t 44)], none⟩,
    ⟨some 43, .cp (.t 45), none⟩,
    ⟨some 46, .extract (.t 43) 0, none⟩,
    ⟨some 47, .extract (.t 43) 1, none⟩,
    ⟨some 11, .cp (.t 46), none⟩,
    ⟨some 12, .cp (.t 47), none⟩] (none))
  (.seq (.block 3
    (.seq (.region [
      ⟨some 49, .cp (.t 12), none⟩,
      ⟨some 50, .bin .neq (.t 49) (.c (.s (.int .i64 0))), none⟩,
      ⟨some 48, .cp (.t 50), none⟩] (none))
    (.cond (.t 48)
      (.seq (.region [
        ⟨some 51, .cp (.t 12), none⟩,
        ⟨some 4, .cp (.c (.s (.int .i64 0))), none⟩,
        ⟨some 5, .cp (.t 51), none⟩] (none))
      .ret)
      (.seq (.region [
        ⟨some 53, .cp (.t 10), none⟩,
        ⟨some 54, .len false (.t 53), none⟩,
        ⟨some 55, .bin .eql (.t 54) (.c (.s (.int .i64 0))), none⟩,
        ⟨some 52, .cp (.t 55), none⟩] (none))
      (.cond (.t 52)
        (.seq (.region [
          ⟨some 4, .cp (.c (.s (.int .i64 0))), none⟩,
          ⟨some 5, .cp (.c (.s (.int .i64 0))), none⟩] (none))
        .ret)
        (.seq (.region [
          ⟨some 57, .cp (.t 0), none⟩,
          ⟨some 58, .nilchk (.t 57), none⟩,
          ⟨some 59, .faddr (.t 58) 2, none⟩,
          ⟨some 60, .load 1 false (.t 59), none⟩,
          ⟨some 61, .len false (.t 60), none⟩,
          ⟨some 62, .bin .geq (.t 61) (.c (.s (.int .i64 64))), none⟩,
          ⟨some 56, .cp (.t 62), none⟩] (none))
        (.cond (.t 56)
          (.seq (.region [
            ⟨some 4, .cp (.c (.s (.int .i64 0))), none⟩,
            ⟨some 5, .cp (.c (.s (.int .i64 6))), none⟩] (none))
          .ret)
          .skip)))))))
  (.seq (.region [
    ⟨some 63, .cp (.t 0), none⟩,
    ⟨some 64, .cp (.t 0), none⟩,
    ⟨some 65, .nilchk (.t 64), none⟩,
    ⟨some 66, .faddr (.t 65) 2, none⟩,
    ⟨some 67, .load 1 false (.t 66), none⟩,
    ⟨some 68, .cp (.t 11), none⟩,
    ⟨some 69, .bslice true 1 [(.t 68)], none⟩,
    ⟨some 70, .append 1 17592186044416 (.t 67) (.t 69), none⟩,
    ⟨some 71, .nilchk (.t 63), none⟩,
    ⟨some 72, .faddr (.t 71) 2, none⟩,
    ⟨none, .store 1 (.t 72) (.t 70), none⟩] (none))
  (.seq (.region [
    ⟨some 73, .cp (.t 10), none⟩,
    ⟨some 74, .len false (.t 73), none⟩,
    ⟨some 4, .cp (.t 74), none⟩,
    ⟨some 5, .cp (.c (.s (.int .i64 0))), none⟩] (none))
  .ret)))))))))) }
def x_partition_Partition_Merge : XF := { np := 2, results := [(.inl 4, .v), (.inl 5, .v)], body :=
  (.seq (.region [
    ⟨some 4, .cp (.c (.s (.int .i64 0))), none⟩,
    ⟨some 5, .cp (.c (.s (.int .i64 0))), none⟩] (none))
  (.seq (.block 0
    (.seq (.region [
      ⟨some 7, .cp (.t 0), none⟩,
      ⟨some 8, .eqv .p false (.t 7) (.c (.s (.pointer none))), none⟩,
      ⟨some 9, .cp (.t 8), none⟩,
      ⟨some 10, .cp (.t 1), some (9, false)⟩,
      ⟨some 11, .eqv .p false (.t 10) (.c (.s (.pointer none))), some (9, false)⟩,
      ⟨some 12, .pick (.t 9) (.c (.s (.bool true))) (.t 11), none⟩,
      ⟨some 6, .cp (.t 12), none⟩] (none))
    (.cond (.t 6)
      (.seq (.region [
        ⟨some 4, .cp (.c (.s (.int .i64 0))), none⟩,
        ⟨some 5, .cp (.c (.s (.int .i64 1))), none⟩] (none))
      .ret)
      (.seq (.region [
        ⟨some 14, .cp (.t 0), none⟩,
        ⟨some 15, .nilchk (.t 14), none⟩,
        ⟨some 16, .faddr (.t 15) 0, none⟩,
        ⟨some 17, .load 1 false (.t 16), none⟩,
        ⟨some 18, .cp (.t 1), none⟩,
        ⟨some 19, .nilchk (.t 18), none⟩,
        ⟨some 20, .faddr (.t 19) 0, none⟩,
        ⟨some 21, .load 1 false (.t 20), none⟩,
        ⟨some 22, .bin .neq (.t 17) (.t 21), none⟩,
        ⟨some 13, .cp (.t 22), none⟩] (some []))
      (.cond (.t 13)
        (.seq (.region [
          ⟨some 4, .cp (.c (.s (.int .i64 0))), none⟩,
          ⟨some 5, .cp (.c (.s (.int .i64 17))), none⟩] (none))
        .ret)
        .skip)))))
  (.seq (.region [
    ⟨some 23, .cp (.t 0), none⟩,
    ⟨some 24, .cp (.t 1), none⟩,
    ⟨some 25, .call false i_partition_Partition_Records [(.t 24)], none⟩,
    ⟨some 26, .call false i_partition_Partition_Insert [(.t 23), (.t 25)], none⟩,
    ⟨some 27, .extract (.t 26) 0, none⟩,
    ⟨some 28, .extract (.t 26) 1, none⟩,
    ⟨some 4, .cp (.t 27), none⟩,
    ⟨some 5, .cp (.t 28), none⟩] (none))
  .ret))) }
def x_partition_Partition_Equal : XF := { np := 2, results := [(.inl 4, .v)], body :=
  (.seq (.region [
    ⟨some 4, .cp (.c (.s (.bool false))), none⟩] (none))
  (.seq (.seq (.region [
    ⟨some 5, .cp (.t 0), none⟩,
    ⟨some 6, .eqv .p false (.t 5) (.c (.s (.pointer none))), none⟩,
    ⟨some 7, .cp (.t 6), none⟩,
    ⟨some 8, .cp (.t 1), some (7, false)⟩,
    ⟨some 9, .eqv .p false (.t 8) (.c (.s (.pointer none))), some (7, false)⟩,
    ⟨some 10, .pick (.t 7) (.c (.s (.bool true))) (.t 9), none⟩] (none))
  (.cond (.t 10)
    (.seq (.region [
      ⟨some 11, .cp (.t 0), none⟩,
      ⟨some 12, .cp (.t 1), none⟩,
      ⟨some 13, .eqv .p false (.t 11) (.t 12), none⟩,
      ⟨some 4, .cp (.t 13), none⟩] (none))
    .ret)
    .skip))
  (.seq (.region [
    ⟨some 14, .cp (.t 0), none⟩,
    ⟨some 15, .nilchk (.t 14), none⟩,
    ⟨some 16, .faddr (.t 15) 0, none⟩,
    ⟨some 17, .load 1 false (.t 16), none⟩,
    ⟨some 18, .cp (.t 1), none⟩,
    ⟨some 19, .nilchk (.t 18), none⟩,
    ⟨some 20, .faddr (.t 19) 0, none⟩,
    ⟨some 21, .load 1 false (.t 20), none⟩,
    ⟨some 22, .bin .eql (.t 17) (.t 21), none⟩,
    ⟨some 23, .cp (.t 22), none⟩,
    ⟨some 24, .cp (.t 0), some (23, true)⟩,
    ⟨some 25, .nilchk (.t 24), some (23, true)⟩,
    ⟨some 26, .faddr (.t 25) 1, some (23, true)⟩,
    ⟨some 27, .load 1 false (.t 26), some (23, true)⟩,
    ⟨some 28, .cp (.t 1), some (23, true)⟩,
    ⟨some 29, .nilchk (.t 28), some (23, true)⟩,
    ⟨some 30, .faddr (.t 29) 1, some (23, true)⟩,
    ⟨some 31, .load 1 false (.t 30), some (23, true)⟩,
    ⟨some 32, .eqv .b false (.t 27) (.t 31), some (23, true)⟩,
    ⟨some 33, .pick (.t 23) (.t 32) (.c (.s (.bool false))), none⟩,
    ⟨some 34, .cp (.t 33), none⟩,
    ⟨some 35, .cp (.t 0), some (34, true)⟩,
    ⟨some 36, .call false i_partition_Partition_Records [(.t 35)], some (34, true)⟩,
    ⟨some 37, .cp (.t 1), some (34, true)⟩,
    ⟨some 38, .call false i_partition_Partition_Records [(.t 37)], some (34, true)⟩,
    ⟨some 39, .call false i_slices_EqualFunc_api_Span_api_Span_api_Span_api_Span [(.t 36), (.t 38), (.c (.fn i_span_Equal [] []))], some (34, true)⟩,
    ⟨some 40, .pick (.t 34) (.t 39) (.c (.s (.bool false))), none⟩,
    ⟨some 4, .cp (.t 40), none⟩] (some []))
  .ret))) }
def x_partition_Partition_Digest_l0 : XC :=
  (.seq (.region [
    ⟨some 10, .bin .lss (.t 9) (.t 8), none⟩] (none))
  (.seq (.cond (.t 10)
    .skip
    (.exit 0))
  (.seq (.block 1
    (.seq (.region [
      ⟨some 11, .iaddr 14 (.t 7) (.t 9), none⟩,
      ⟨some 12, .load 14 true (.t 11), none⟩,
      ⟨some 5, .alloc [.s (.int .i64 0), .s (.int .i64 0), .s (.int .i64 0), .s (.int .i64 0), .s (.int .i64 0), .s (.int .i64 0), .s (.string ⟨#[]⟩), .s (.string ⟨#[]⟩), .s (.string ⟨#[]⟩), .s (.int .i64 0), .s (.int .i64 0), .s (.bool false), .s (.slice none 0 0), .s (.slice none 0 0)], none⟩,
      ⟨none, .store 14 (.t 5) (.t 12), none⟩] (none))
    (.region [
      ⟨some 13, .cp (.t 3), none⟩,
      ⟨some 14, .load 14 true (.t 5), none⟩,
      ⟨some 15, .call false i_encoding_EncodeSpan [(.t 14)], none⟩,
      ⟨some 16, .bslice false 1 [(.t 15)], none⟩,
      ⟨some 17, .append 1 8796093022208 (.t 13) (.t 16), none⟩,
      ⟨some 3, .cp (.t 17), none⟩] (none))))
  (.region [
    ⟨some 18, .bin .add (.t 9) (.c (.s (.int .i64 1))), none⟩,
    ⟨some 9, .cp (.t 18), none⟩] (none)))))
def x_partition_Partition_Digest : XF := { np := 1, results := [(.inl 2, .v)], body :=
  (.seq (.region [
    ⟨some 2, .cp (.c (.s (.int .u32 0))), none⟩] (none))
  (.seq (.region [
    ⟨some 3, .cp (.c (.s (.slice none 0 0))), none⟩] (none))
  (.seq (.seq (.region [
    ⟨some 6, .cp (.t 0), none⟩,
    ⟨some 7, .call false i_partition_Partition_Records [(.t 6)], none⟩,
    ⟨some 8, .len false (.t 7), none⟩,
    ⟨some 9, .cp (.c (.s (.int .i64 0))), none⟩] (none))
  (.block 0
    (.loop x_partition_Partition_Digest_l0)))
  (.seq (.seq (.region [
    ⟨some 19, .cp (.t 3), none⟩,
    ⟨some 20, .len false (.t 19), none⟩,
    ⟨some 21, .bin .eql (.t 20) (.c (.s (.int .i64 0))), none⟩] (none))
  (.cond (.t 21)
    (.seq (.region [
      ⟨some 2, .cp (.c (.s (.int .u32 0))), none⟩] (none))
    .ret)
    .skip))
  (.seq (.region [
    ⟨some 22, .cp (.t 3), none⟩,
    ⟨some 23, .call false i_checksum_Chain [(.t 22)], none⟩,
    ⟨some 24, .cp (.t 3), none⟩,
    ⟨some 25, .len false (.t 24), none⟩,
    ⟨some 26, .bin .sub (.t 25) (.c (.s (.int .i64 1))), none⟩,
    ⟨some 27, .iaddr 1 (.t 23) (.t 26), none⟩,
    ⟨some 28, .load 1 false (.t 27), none⟩,
    ⟨some 2, .cp (.t 28), none⟩] (none))
  .ret))))) }
def x_partition_Partition_Records : XF := { np := 1, results := [(.inl 2, .v)], body :=
  (.seq (.region [
    ⟨some 2, .cp (.c (.s (.slice none 0 0))), none⟩] (none))
  (.seq (.seq (.region [
    ⟨some 3, .cp (.t 0), none⟩,
    ⟨some 4, .eqv .p false (.t 3) (.c (.s (.pointer none))), none⟩] (none))
  (.cond (.t 4)
    (.seq (.region [
      ⟨some 2, .cp (.c (.s (.slice none 0 0))), none⟩] (none))
    .ret)
    .skip))
  (.seq (.region [
    ⟨some 5, .cp (.t 0), none⟩,
    ⟨some 6, .nilchk (.t 5), none⟩,
    ⟨some 7, .faddr (.t 6) 2, none⟩,
    ⟨some 8, .load 1 false (.t 7), none⟩,
    ⟨some 9, .call false i_partition_records [(.t 8)], none⟩,
    ⟨some 2, .cp (.t 9), none⟩] (none))
  .ret))) }
def x_sleuthlaw31_state_insert_l0 : XC :=
  (.seq (.seq (.region [
    ⟨some 19, .cp (.t 7), none⟩,
    ⟨some 20, .cp (.t 1), none⟩,
    ⟨some 21, .len false (.t 20), none⟩,
    ⟨some 22, .bin .lss (.t 19) (.t 21), none⟩] (none))
  (.cond (.t 22)
    .skip
    (.exit 0)))
  (.seq (.block 1
    (.seq (.region [
      ⟨some 25, .cp (.t 1), none⟩,
      ⟨some 26, .cp (.t 7), none⟩,
      ⟨some 27, .iaddr 14 (.t 25) (.t 26), none⟩,
      ⟨some 28, .load 14 true (.t 27), none⟩,
      ⟨some 29, .call false i_span_Check [(.t 28)], none⟩,
      ⟨some 8, .cp (.t 29), none⟩] (none))
    (.seq (.region [
      ⟨some 30, .cp (.t 8), none⟩,
      ⟨some 31, .bin .neq (.t 30) (.c (.s (.int .i64 0))), none⟩] (none))
    (.cond (.t 31)
      (.seq (.region [
        ⟨some 32, .load 2 true (.t 2), none⟩,
        ⟨some 33, .cp (.t 8), none⟩,
        ⟨none, .store 2 (.t 4) (.t 32), none⟩,
        ⟨some 5, .cp (.c (.s (.int .i64 0))), none⟩,
        ⟨some 6, .cp (.t 33), none⟩] (none))
      .ret)
      .skip))))
  (.region [
    ⟨some 23, .cp (.t 7), none⟩,
    ⟨some 24, .bin .add (.t 23) (.c (.s (.int .i64 1))), none⟩,
    ⟨some 7, .cp (.t 24), none⟩] (none))))
def x_sleuthlaw31_state_insert_l1 : XC :=
  (.seq (.seq (.region [
    ⟨some 34, .cp (.t 9), none⟩,
    ⟨some 35, .cp (.t 1), none⟩,
    ⟨some 36, .len false (.t 35), none⟩,
    ⟨some 37, .bin .lss (.t 34) (.t 36), none⟩] (none))
  (.cond (.t 37)
    .skip
    (.exit 2)))
  (.seq (.block 3
    (.seq (.region [
      ⟨some 40, .cp (.t 1), none⟩,
      ⟨some 41, .cp (.t 9), none⟩,
      ⟨some 42, .iaddr 14 (.t 40) (.t 41), none⟩,
      ⟨some 43, .faddr (.t 42) 0, none⟩,
      ⟨some 44, .load 1 false (.t 43), none⟩,
      ⟨some 45, .call false i_span_Partition [(.t 44)], none⟩,
      ⟨some 46, .bin .neq (.t 45) (.c (.s (.int .i64 1))), none⟩] (none))
    (.cond (.t 46)
      (.seq (.region [
        ⟨some 47, .load 2 true (.t 2), none⟩,
        ⟨none, .store 2 (.t 4) (.t 47), none⟩,
        ⟨some 5, .cp (.c (.s (.int .i64 0))), none⟩,
        ⟨some 6, .cp (.c (.s (.int .i64 17))), none⟩] (none))
      .ret)
      .skip)))
  (.region [
    ⟨some 38, .cp (.t 9), none⟩,
    ⟨some 39, .bin .add (.t 38) (.c (.s (.int .i64 1))), none⟩,
    ⟨some 9, .cp (.t 39), none⟩] (none))))
def x_sleuthlaw31_state_insert_l2 : XC :=
  (.seq (.seq (.region [
    ⟨some 52, .cp (.t 13), none⟩,
    ⟨some 53, .cp (.t 12), none⟩,
    ⟨some 54, .len false (.t 53), none⟩,
    ⟨some 55, .bin .lss (.t 52) (.t 54), none⟩] (none))
  (.cond (.t 55)
    .skip
    (.exit 4)))
  (.seq (.block 5
    (.seq (.region [
      ⟨some 58, .cp (.t 10), none⟩,
      ⟨some 59, .cp (.t 12), none⟩,
      ⟨some 60, .cp (.t 13), none⟩,
      ⟨some 61, .iaddr 14 (.t 59) (.t 60), none⟩,
      ⟨some 62, .load 14 true (.t 61), none⟩,
      ⟨some 63, .call false i_sleuthlaw31_within [(.t 58), (.t 62)], none⟩,
      ⟨some 64, .un .not (.t 63), none⟩] (none))
    (.cond (.t 64)
      (.region [
        ⟨some 65, .cp (.t 11), none⟩,
        ⟨some 66, .cp (.t 12), none⟩,
        ⟨some 67, .cp (.t 13), none⟩,
        ⟨some 68, .iaddr 14 (.t 66) (.t 67), none⟩,
        ⟨some 69, .load 14 true (.t 68), none⟩,
        ⟨some 70, .bslice false 14 [(.t 69)], none⟩,
        ⟨some 71, .append 14 837723144972 (.t 65) (.t 70), none⟩,
        ⟨some 11, .cp (.t 71), none⟩] (none))
      .skip)))
  (.region [
    ⟨some 56, .cp (.t 13), none⟩,
    ⟨some 57, .bin .add (.t 56) (.c (.s (.int .i64 1))), none⟩,
    ⟨some 13, .cp (.t 57), none⟩] (none))))
def x_sleuthlaw31_state_insert : XF := { np := 2, results := [(.inr (4, 2, true), .v), (.inl 5, .v), (.inl 6, .v)], body :=
  (.seq (.region [
    ⟨some 2, .box false (.t 0), none⟩,
    ⟨some 4, .alloc [.s (.slice none 0 0), .s (.bool false)], none⟩,
    ⟨some 5, .cp (.c (.s (.int .i64 0))), none⟩,
    ⟨some 6, .cp (.c (.s (.int .i64 0))), none⟩] (none))
  (.seq (.seq (.region [
    ⟨some 16, .faddr (.t 2) 1, none⟩,
    ⟨some 17, .load 1 false (.t 16), none⟩] (none))
  (.cond (.t 17)
    (.seq (.region [
      ⟨some 18, .load 2 true (.t 2), none⟩,
      ⟨none, .store 2 (.t 4) (.t 18), none⟩,
      ⟨some 5, .cp (.c (.s (.int .i64 0))), none⟩,
      ⟨some 6, .cp (.c (.s (.int .i64 31))), none⟩] (none))
    .ret)
    .skip))
  (.seq (.seq (.region [
    ⟨some 7, .cp (.c (.s (.int .i64 0))), none⟩] (none))
  (.block 0
    (.loop x_sleuthlaw31_state_insert_l0)))
  (.seq (.seq (.region [
    ⟨some 9, .cp (.c (.s (.int .i64 0))), none⟩] (none))
  (.block 2
    (.loop x_sleuthlaw31_state_insert_l1)))
  (.seq (.region [
    ⟨some 48, .load 2 true (.t 2), none⟩,
    ⟨some 49, .call false i_sleuthlaw31_state_records [(.t 48)], none⟩,
    ⟨some 10, .cp (.t 49), none⟩] (none))
  (.seq (.region [
    ⟨some 11, .cp (.c (.s (.slice none 0 0))), none⟩] (none))
  (.seq (.region [
    ⟨some 50, .cp (.t 1), none⟩,
    ⟨some 51, .call false i_span_Set [(.t 50)], none⟩,
    ⟨some 12, .cp (.t 51), none⟩] (none))
  (.seq (.seq (.region [
    ⟨some 13, .cp (.c (.s (.int .i64 0))), none⟩] (none))
  (.block 4
    (.loop x_sleuthlaw31_state_insert_l2)))
  (.seq (.seq (.region [
    ⟨some 72, .cp (.t 11), none⟩,
    ⟨some 73, .len false (.t 72), none⟩,
    ⟨some 74, .bin .eql (.t 73) (.c (.s (.int .i64 0))), none⟩] (none))
  (.cond (.t 74)
    (.seq (.region [
      ⟨some 75, .load 2 true (.t 2), none⟩,
      ⟨none, .store 2 (.t 4) (.t 75), none⟩,
      ⟨some 5, .cp (.c (.s (.int .i64 0))), none⟩,
      ⟨some 6, .cp (.c (.s (.int .i64 0))), none⟩] (none))
    .ret)
    .skip))
  (.seq (.seq (.region [
    ⟨some 77, .cp (.t 11), none⟩,
    ⟨some 78, .call false i_block_Build [(.t 77)], none⟩,
    ⟨some 76, .cp (.t 78), none⟩,
    ⟨some 79, .extract (.t 76) 0, none⟩,
    ⟨some 80, .extract (.t 76) 1, none⟩,
    ⟨some 14, .cp (.t 79), none⟩,
    ⟨some 15, .cp (.t 80), none⟩] (none))
  (.seq (.region [
    ⟨some 81, .cp (.t 15), none⟩,
    ⟨some 82, .bin .neq (.t 81) (.c (.s (.int .i64 0))), none⟩] (none))
  (.cond (.t 82)
    (.seq (.region [
      ⟨some 83, .load 2 true (.t 2), none⟩,
      ⟨some 84, .cp (.t 15), none⟩,
      ⟨none, .store 2 (.t 4) (.t 83), none⟩,
      ⟨some 5, .cp (.c (.s (.int .i64 0))), none⟩,
      ⟨some 6, .cp (.t 84), none⟩] (none))
    .ret)
    .skip)))
  (.seq (.region [
    ⟨some 85, .bslice true 1 [], none⟩,
    ⟨some 86, .faddr (.t 2) 0, none⟩,
    ⟨some 87, .load 1 false (.t 86), none⟩,
    ⟨some 88, .append 1 5864062014805 (.t 85) (.t 87), none⟩,
    ⟨some 89, .cp (.t 11), none⟩,
    ⟨some 90, .bslice true 1 [(.t 89)], none⟩,
    ⟨some 91, .append 1 5864062014805 (.t 88) (.t 90), none⟩,
    ⟨some 92, .faddr (.t 2) 0, none⟩,
    ⟨none, .store 1 (.t 92) (.t 91), none⟩] (none))
  (.seq (.region [
    ⟨some 93, .load 2 true (.t 2), none⟩,
    ⟨some 94, .cp (.t 11), none⟩,
    ⟨some 95, .len false (.t 94), none⟩,
    ⟨none, .store 2 (.t 4) (.t 93), none⟩,
    ⟨some 5, .cp (.t 95), none⟩,
    ⟨some 6, .cp (.c (.s (.int .i64 0))), none⟩] (none))
  .ret)))))))))))) }
def x_sleuthlaw31_record : XF := { np := 1, results := [(.inr (2, 14, true), .v)], body :=
  (.seq (.region [
    ⟨some 2, .alloc [.s (.int .i64 0), .s (.int .i64 0), .s (.int .i64 0), .s (.int .i64 0), .s (.int .i64 0), .s (.int .i64 0), .s (.string ⟨#[]⟩), .s (.string ⟨#[]⟩), .s (.string ⟨#[]⟩), .s (.int .i64 0), .s (.int .i64 0), .s (.bool false), .s (.slice none 0 0), .s (.slice none 0 0)], none⟩] (none))
  (.seq (.region [
    ⟨some 3, .cp (.t 0), none⟩,
    ⟨some 4, .build false [.s (.int .i64 0), .s (.int .i64 0), .s (.int .i64 0), .s (.int .i64 0), .s (.int .i64 0), .s (.int .i64 0), .s (.string ⟨#[]⟩), .s (.string ⟨#[]⟩), .s (.string ⟨#[]⟩), .s (.int .i64 0), .s (.int .i64 0), .s (.bool false), .s (.slice none 0 0), .s (.slice none 0 0)] [(0, 1, (.c (.s (.int .i64 16777217)))), (1, 1, (.t 3)), (4, 1, (.c (.s (.int .i64 1)))), (5, 1, (.c (.s (.int .i64 3)))), (6, 1, (.c (.s (.string ⟨#[115]⟩)))), (8, 1, (.c (.s (.string ⟨#[111]⟩))))], none⟩,
    ⟨none, .store 14 (.t 2) (.t 4), none⟩] (none))
  .ret)) }
def x_sleuthlaw31_state_agrees_l0 : XC :=
  (.seq (.seq (.region [
    ⟨some 35, .cp (.t 6), none⟩,
    ⟨some 36, .cp (.t 5), none⟩,
    ⟨some 37, .len false (.t 36), none⟩,
    ⟨some 38, .bin .lss (.t 35) (.t 37), none⟩] (none))
  (.cond (.t 38)
    .skip
    (.exit 0)))
  (.seq (.block 1
    (.seq (.region [
      ⟨some 41, .cp (.t 5), none⟩,
      ⟨some 42, .cp (.t 6), none⟩,
      ⟨some 43, .iaddr 1 (.t 41) (.t 42), none⟩,
      ⟨some 44, .load 1 false (.t 43), none⟩,
      ⟨some 45, .call false i_block_Block_Spans [(.t 44)], none⟩,
      ⟨some 46, .faddr (.t 2) 0, none⟩,
      ⟨some 47, .load 1 false (.t 46), none⟩,
      ⟨some 48, .cp (.t 6), none⟩,
      ⟨some 49, .iaddr 1 (.t 47) (.t 48), none⟩,
      ⟨some 50, .load 1 false (.t 49), none⟩,
      ⟨some 51, .call false i_sleuthlaw31_same [(.t 45), (.t 50)], none⟩,
      ⟨some 52, .un .not (.t 51), none⟩] (some [(4, none)]))
    (.cond (.t 52)
      (.seq (.region [
        ⟨some 4, .cp (.c (.s (.bool false))), none⟩] (none))
      .ret)
      .skip)))
  (.region [
    ⟨some 39, .cp (.t 6), none⟩,
    ⟨some 40, .bin .add (.t 39) (.c (.s (.int .i64 1))), none⟩,
    ⟨some 6, .cp (.t 40), none⟩] (none))))
def x_sleuthlaw31_state_agrees : XF := { np := 2, results := [(.inl 4, .v)], body :=
  (.seq (.region [
    ⟨some 2, .box false (.t 0), none⟩,
    ⟨some 4, .cp (.c (.s (.bool false))), none⟩] (none))
  (.seq (.region [
    ⟨some 7, .cp (.t 1), none⟩,
    ⟨some 8, .call false i_partition_Partition_Blocks [(.t 7)], none⟩,
    ⟨some 5, .cp (.t 8), none⟩] (none))
  (.seq (.seq (.region [
    ⟨some 9, .cp (.t 1), none⟩,
    ⟨some 10, .call false i_partition_Partition_Number [(.t 9)], none⟩,
    ⟨some 11, .bin .neq (.t 10) (.c (.s (.int .i64 1))), none⟩,
    ⟨some 12, .cp (.t 11), none⟩,
    ⟨some 13, .cp (.t 1), some (12, false)⟩,
    ⟨some 14, .call false i_partition_Partition_Sealed [(.t 13)], some (12, false)⟩,
    ⟨some 15, .faddr (.t 2) 1, some (12, false)⟩,
    ⟨some 16, .load 1 false (.t 15), some (12, false)⟩,
    ⟨some 17, .eqv .b true (.t 14) (.t 16), some (12, false)⟩,
    ⟨some 18, .pick (.t 12) (.c (.s (.bool true))) (.t 17), none⟩,
    ⟨some 19, .cp (.t 18), none⟩,
    ⟨some 20, .cp (.t 5), some (19, false)⟩,
    ⟨some 21, .len false (.t 20), some (19, false)⟩,
    ⟨some 22, .faddr (.t 2) 0, some (19, false)⟩,
    ⟨some 23, .load 1 false (.t 22), some (19, false)⟩,
    ⟨some 24, .len false (.t 23), some (19, false)⟩,
    ⟨some 25, .bin .neq (.t 21) (.t 24), some (19, false)⟩,
    ⟨some 26, .pick (.t 19) (.c (.s (.bool true))) (.t 25), none⟩,
    ⟨some 27, .cp (.t 26), none⟩,
    ⟨some 28, .cp (.t 1), some (27, false)⟩,
    ⟨some 29, .call false i_partition_Partition_Records [(.t 28)], some (27, false)⟩,
    ⟨some 30, .load 2 true (.t 2), some (27, false)⟩,
    ⟨some 31, .call false i_sleuthlaw31_state_records [(.t 30)], some (27, false)⟩,
    ⟨some 32, .call false i_sleuthlaw31_same [(.t 29), (.t 31)], some (27, false)⟩,
    ⟨some 33, .un .not (.t 32), some (27, false)⟩,
    ⟨some 34, .pick (.t 27) (.c (.s (.bool true))) (.t 33), none⟩] (some [(5, some 7), (20, some 21)]))
  (.cond (.t 34)
    (.seq (.region [
      ⟨some 4, .cp (.c (.s (.bool false))), none⟩] (none))
    .ret)
    .skip))
  (.seq (.seq (.region [
    ⟨some 6, .cp (.c (.s (.int .i64 0))), none⟩] (none))
  (.block 0
    (.loop x_sleuthlaw31_state_agrees_l0)))
  (.seq (.region [
    ⟨some 4, .cp (.c (.s (.bool true))), none⟩] (none))
  .ret))))) }
def x_sleuthlaw31_same_l0 : XC :=
  (.seq (.seq (.region [
    ⟨some 11, .cp (.t 5), none⟩,
    ⟨some 12, .cp (.t 0), none⟩,
    ⟨some 13, .len false (.t 12), none⟩,
    ⟨some 14, .bin .lss (.t 11) (.t 13), none⟩] (none))
  (.cond (.t 14)
    .skip
    (.exit 0)))
  (.seq (.block 1
    (.seq (.region [
      ⟨some 17, .cp (.t 0), none⟩,
      ⟨some 18, .cp (.t 5), none⟩,
      ⟨some 19, .iaddr 14 (.t 17) (.t 18), none⟩,
      ⟨some 20, .load 14 true (.t 19), none⟩,
      ⟨some 21, .cp (.t 1), none⟩,
      ⟨some 22, .cp (.t 5), none⟩,
      ⟨some 23, .iaddr 14 (.t 21) (.t 22), none⟩,
      ⟨some 24, .load 14 true (.t 23), none⟩,
      ⟨some 25, .call false i_span_Equal [(.t 20), (.t 24)], none⟩,
      ⟨some 26, .un .not (.t 25), none⟩] (some []))
    (.cond (.t 26)
      (.seq (.region [
        ⟨some 4, .cp (.c (.s (.bool false))), none⟩] (none))
      .ret)
      .skip)))
  (.region [
    ⟨some 15, .cp (.t 5), none⟩,
    ⟨some 16, .bin .add (.t 15) (.c (.s (.int .i64 1))), none⟩,
    ⟨some 5, .cp (.t 16), none⟩] (none))))
def x_sleuthlaw31_same : XF := { np := 2, results := [(.inl 4, .v)], body :=
  (.seq (.region [
    ⟨some 4, .cp (.c (.s (.bool false))), none⟩] (none))
  (.seq (.seq (.region [
    ⟨some 6, .cp (.t 0), none⟩,
    ⟨some 7, .len false (.t 6), none⟩,
    ⟨some 8, .cp (.t 1), none⟩,
    ⟨some 9, .len false (.t 8), none⟩,
    ⟨some 10, .bin .neq (.t 7) (.t 9), none⟩] (none))
  (.cond (.t 10)
    (.seq (.region [
      ⟨some 4, .cp (.c (.s (.bool false))), none⟩] (none))
    .ret)
    .skip))
  (.seq (.seq (.region [
    ⟨some 5, .cp (.c (.s (.int .i64 0))), none⟩] (none))
  (.block 0
    (.loop x_sleuthlaw31_same_l0)))
  (.seq (.region [
    ⟨some 4, .cp (.c (.s (.bool true))), none⟩] (none))
  .ret)))) }
def x_sleuthlaw31_state_records_l0 : XC :=
  (.seq (.seq (.region [
    ⟨some 5, .cp (.t 4), none⟩,
    ⟨some 6, .faddr (.t 1) 0, none⟩,
    ⟨some 7, .load 1 false (.t 6), none⟩,
    ⟨some 8, .len false (.t 7), none⟩,
    ⟨some 9, .bin .lss (.t 5) (.t 8), none⟩] (none))
  (.cond (.t 9)
    .skip
    (.exit 0)))
  (.seq (.block 1
    (.region [
      ⟨some 12, .cp (.t 3), none⟩,
      ⟨some 13, .faddr (.t 1) 0, none⟩,
      ⟨some 14, .load 1 false (.t 13), none⟩,
      ⟨some 15, .cp (.t 4), none⟩,
      ⟨some 16, .iaddr 1 (.t 14) (.t 15), none⟩,
      ⟨some 17, .load 1 false (.t 16), none⟩,
      ⟨some 18, .append 14 837723144972 (.t 12) (.t 17), none⟩,
      ⟨some 3, .cp (.t 18), none⟩] (none)))
  (.region [
    ⟨some 10, .cp (.t 4), none⟩,
    ⟨some 11, .bin .add (.t 10) (.c (.s (.int .i64 1))), none⟩,
    ⟨some 4, .cp (.t 11), none⟩] (none))))
def x_sleuthlaw31_state_records : XF := { np := 1, results := [(.inl 2, .v)], body :=
  (.seq (.region [
    ⟨some 1, .box false (.t 0), none⟩,
    ⟨some 2, .cp (.c (.s (.slice none 0 0))), none⟩] (none))
  (.seq (.region [
    ⟨some 3, .cp (.c (.s (.slice none 0 0))), none⟩] (none))
  (.seq (.seq (.region [
    ⟨some 4, .cp (.c (.s (.int .i64 0))), none⟩] (none))
  (.block 0
    (.loop x_sleuthlaw31_state_records_l0)))
  (.seq (.region [
    ⟨some 19, .cp (.t 3), none⟩,
    ⟨some 20, .call false i_span_Set [(.t 19)], none⟩,
    ⟨some 2, .cp (.t 20), none⟩] (none))
  .ret)))) }
def x_partition_Partition_Sealed : XF := { np := 1, results := [(.inl 2, .v)], body :=
  (.seq (.region [
    ⟨some 2, .cp (.c (.s (.bool false))), none⟩] (none))
  (.seq (.region [
    ⟨some 3, .cp (.t 0), none⟩,
    ⟨some 4, .eqv .p true (.t 3) (.c (.s (.pointer none))), none⟩,
    ⟨some 5, .cp (.t 4), none⟩,
    ⟨some 6, .cp (.t 0), some (5, true)⟩,
    ⟨some 7, .nilchk (.t 6), some (5, true)⟩,
    ⟨some 8, .faddr (.t 7) 1, some (5, true)⟩,
    ⟨some 9, .load 1 false (.t 8), some (5, true)⟩,
    ⟨some 10, .pick (.t 5) (.t 9) (.c (.s (.bool false))), none⟩,
    ⟨some 2, .cp (.t 10), none⟩] (none))
  .ret)) }
def x_partition_Partition_Number : XF := { np := 1, results := [(.inl 2, .v)], body :=
  (.seq (.region [
    ⟨some 2, .cp (.c (.s (.int .i64 0))), none⟩] (none))
  (.seq (.seq (.region [
    ⟨some 3, .cp (.t 0), none⟩,
    ⟨some 4, .eqv .p false (.t 3) (.c (.s (.pointer none))), none⟩] (none))
  (.cond (.t 4)
    (.seq (.region [
      ⟨some 2, .cp (.c (.s (.int .i64 0))), none⟩] (none))
    .ret)
    .skip))
  (.seq (.region [
    ⟨some 5, .cp (.t 0), none⟩,
    ⟨some 6, .nilchk (.t 5), none⟩,
    ⟨some 7, .faddr (.t 6) 0, none⟩,
    ⟨some 8, .load 1 false (.t 7), none⟩,
    ⟨some 2, .cp (.t 8), none⟩] (none))
  .ret))) }
def x_partition_Partition_Blocks : XF := { np := 1, results := [(.inl 2, .v)], body :=
  (.seq (.region [
    ⟨some 2, .cp (.c (.s (.slice none 0 0))), none⟩] (none))
  (.seq (.seq (.region [
    ⟨some 3, .cp (.t 0), none⟩,
    ⟨some 4, .eqv .p false (.t 3) (.c (.s (.pointer none))), none⟩] (none))
  (.cond (.t 4)
    (.seq (.region [
      ⟨some 2, .cp (.c (.s (.slice none 0 0))), none⟩] (none))
    .ret)
    .skip))
  (.seq (.region [
    ⟨some 5, .cp (.t 0), none⟩,
    ⟨some 6, .nilchk (.t 5), none⟩,
    ⟨some 7, .faddr (.t 6) 2, none⟩,
    ⟨some 8, .load 1 false (.t 7), none⟩,
    ⟨some 9, .call false i_slices_Clone_block_Block_block_Block [(.t 8)], none⟩,
    ⟨some 2, .cp (.t 9), none⟩] (none))
  .ret))) }
def x_block_Build_l0 : XC :=
  (.seq (.region [
    ⟨some 15, .bin .lss (.t 14) (.t 13), none⟩] (none))
  (.seq (.cond (.t 15)
    .skip
    (.exit 0))
  (.seq (.block 1
    (.seq (.region [
      ⟨some 16, .iaddr 14 (.t 12) (.t 14), none⟩,
      ⟨some 17, .load 14 true (.t 16), none⟩,
      ⟨some 5, .alloc [.s (.int .i64 0), .s (.int .i64 0), .s (.int .i64 0), .s (.int .i64 0), .s (.int .i64 0), .s (.int .i64 0), .s (.string ⟨#[]⟩), .s (.string ⟨#[]⟩), .s (.string ⟨#[]⟩), .s (.int .i64 0), .s (.int .i64 0), .s (.bool false), .s (.slice none 0 0), .s (.slice none 0 0)], none⟩,
      ⟨none, .store 14 (.t 5) (.t 17), none⟩] (none))
    (.seq (.region [
      ⟨some 18, .load 14 true (.t 5), none⟩,
      ⟨some 19, .call false i_span_Check [(.t 18)], none⟩,
      ⟨some 6, .cp (.t 19), none⟩] (none))
    (.seq (.region [
      ⟨some 20, .cp (.t 6), none⟩,
      ⟨some 21, .bin .neq (.t 20) (.c (.s (.int .i64 0))), none⟩] (none))
    (.cond (.t 21)
      (.seq (.region [
        ⟨some 22, .cp (.t 6), none⟩,
        ⟨some 2, .cp (.c (.s (.pointer none))), none⟩,
        ⟨some 3, .cp (.t 22), none⟩] (none))
      .ret)
      .skip)))))
  (.region [
    ⟨some 23, .bin .add (.t 14) (.c (.s (.int .i64 1))), none⟩,
    ⟨some 14, .cp (.t 23), none⟩] (none)))))
def x_block_Build_l1 : XC :=
  (.seq (.region [
    ⟨some 27, .bin .lss (.t 26) (.t 25), none⟩] (none))
  (.seq (.cond (.t 27)
    .skip
    (.exit 2))
  (.seq (.block 3
    (.seq (.region [
      ⟨some 28, .iaddr 14 (.t 24) (.t 26), none⟩,
      ⟨some 29, .load 14 true (.t 28), none⟩,
      ⟨some 8, .alloc [.s (.int .i64 0), .s (.int .i64 0), .s (.int .i64 0), .s (.int .i64 0), .s (.int .i64 0), .s (.int .i64 0), .s (.string ⟨#[]⟩), .s (.string ⟨#[]⟩), .s (.string ⟨#[]⟩), .s (.int .i64 0), .s (.int .i64 0), .s (.bool false), .s (.slice none 0 0), .s (.slice none 0 0)], none⟩,
      ⟨none, .store 14 (.t 8) (.t 29), none⟩] (none))
    (.seq (.region [
      ⟨some 30, .faddr (.t 8) 12, none⟩,
      ⟨some 31, .load 1 false (.t 30), none⟩,
      ⟨some 32, .call false i_slices_ContainsFunc_api_Attr_api_Attr [(.t 31), (.c (.fn i_block_Build_1 [] []))], none⟩] (none))
    (.cond (.t 32)
      (.seq (.region [
        ⟨some 2, .cp (.c (.s (.pointer none))), none⟩,
        ⟨some 3, .cp (.c (.s (.int .i64 5))), none⟩] (none))
      .ret)
      .skip))))
  (.region [
    ⟨some 33, .bin .add (.t 26) (.c (.s (.int .i64 1))), none⟩,
    ⟨some 26, .cp (.t 33), none⟩] (none)))))
def x_block_Build : XF := { np := 1, results := [(.inl 2, .f), (.inl 3, .v)], body :=
  (.seq (.region [
    ⟨some 2, .cp (.c (.s (.pointer none))), none⟩,
    ⟨some 3, .cp (.c (.s (.int .i64 0))), none⟩] (none))
  (.seq (.seq (.region [
    ⟨some 9, .cp (.t 0), none⟩,
    ⟨some 10, .len false (.t 9), none⟩,
    ⟨some 11, .bin .gtr (.t 10) (.c (.s (.int .i64 4096))), none⟩] (none))
  (.cond (.t 11)
    (.seq (.region [
      ⟨some 2, .cp (.c (.s (.pointer none))), none⟩,
      ⟨some 3, .cp (.c (.s (.int .i64 6))), none⟩] (none))
    .ret)
    .skip))
  (.seq (.seq (.region [
    ⟨some 12, .cp (.t 0), none⟩,
    ⟨some 13, .len false (.t 12), none⟩,
    ⟨some 14, .cp (.c (.s (.int .i64 0))), none⟩] (none))
  (.block 0
    (.loop x_block_Build_l0)))
  (.seq (.seq (.region [
    ⟨some 24, .cp (.t 0), none⟩,
    ⟨some 25, .len false (.t 24), none⟩,
    ⟨some 26, .cp (.c (.s (.int .i64 0))), none⟩] (none))
  (.block 2
    (.loop x_block_Build_l1)))
  (.seq (.region [
    ⟨some 34, .cp (.t 0), none⟩,
    ⟨some 35, .call false i_span_Set [(.t 34)], none⟩,
    ⟨some 36, .call false i_block_made [(.t 35)], none⟩,
    ⟨some 37, .extract (.t 36) 0, none⟩,
    ⟨some 38, .extract (.t 36) 1, none⟩,
    ⟨some 2, .cp (.t 37), none⟩,
    ⟨some 3, .cp (.t 38), none⟩] (none))
  .ret))))) }
def x_slices_ContainsFunc_api_Span_api_Span : XF := { np := 2, results := [(.inl 4, .v)], body :=
  (.seq (.region [
    ⟨some 4, .cp (.c (.s (.bool false))), none⟩] (none))
  (.seq (.region [
    ⟨some 5, .cp (.t 0), none⟩,
    ⟨some 6, .cp (.t 1), none⟩,
    ⟨some 7, .call false i_slices_IndexFunc_api_Span_api_Span [(.t 5), (.t 6)], none⟩,
    ⟨some 8, .bin .geq (.t 7) (.c (.s (.int .i64 0))), none⟩,
    ⟨some 4, .cp (.t 8), none⟩] (none))
  .ret)) }
def x_partition_Partition_foreign : XF := { np := 2, results := [(.inl 4, .v)], body :=
  (.seq (.region [
    ⟨some 3, .box false (.t 1), none⟩,
    ⟨some 4, .cp (.c (.s (.bool false))), none⟩] (none))
  (.seq (.region [
    ⟨some 5, .faddr (.t 3) 0, none⟩,
    ⟨some 6, .load 1 false (.t 5), none⟩,
    ⟨some 7, .call false i_span_Partition [(.t 6)], none⟩,
    ⟨some 8, .cp (.t 0), none⟩,
    ⟨some 9, .nilchk (.t 8), none⟩,
    ⟨some 10, .faddr (.t 9) 0, none⟩,
    ⟨some 11, .load 1 false (.t 10), none⟩,
    ⟨some 12, .bin .neq (.t 7) (.t 11), none⟩,
    ⟨some 4, .cp (.t 12), none⟩] (some [(2, some 6)]))
  .ret)) }
def x_slices_DeleteFunc_api_Span_api_Span_l0 : XC :=
  (.seq (.seq (.region [
    ⟨some 16, .cp (.t 6), none⟩,
    ⟨some 17, .cp (.t 0), none⟩,
    ⟨some 18, .len false (.t 17), none⟩,
    ⟨some 19, .bin .lss (.t 16) (.t 18), none⟩] (none))
  (.cond (.t 19)
    .skip
    (.exit 0)))
  (.seq (.block 1
    (.seq (.region [
      ⟨some 22, .cp (.t 0), none⟩,
      ⟨some 23, .cp (.t 6), none⟩,
      ⟨some 24, .iaddr 14 (.t 22) (.t 23), none⟩,
      ⟨some 25, .load 14 true (.t 24), none⟩,
      ⟨some 7, .alloc [.s (.int .i64 0), .s (.int .i64 0), .s (.int .i64 0), .s (.int .i64 0), .s (.int .i64 0), .s (.int .i64 0), .s (.string ⟨#[]⟩), .s (.string ⟨#[]⟩), .s (.string ⟨#[]⟩), .s (.int .i64 0), .s (.int .i64 0), .s (.bool false), .s (.slice none 0 0), .s (.slice none 0 0)], none⟩,
      ⟨none, .store 14 (.t 7) (.t 25), none⟩] (none))
    (.seq (.region [
      ⟨some 26, .cp (.t 1), none⟩,
      ⟨some 27, .load 14 true (.t 7), none⟩,
      ⟨some 28, .callv false (.t 26) [(.t 27)], none⟩,
      ⟨some 29, .un .not (.t 28), none⟩] (none))
    (.cond (.t 29)
      (.seq (.region [
        ⟨some 30, .cp (.t 0), none⟩,
        ⟨some 31, .cp (.t 5), none⟩,
        ⟨some 32, .load 14 true (.t 7), none⟩,
        ⟨some 33, .iaddr 14 (.t 30) (.t 31), none⟩,
        ⟨none, .store 14 (.t 33) (.t 32), none⟩] (none))
      (.region [
        ⟨some 34, .cp (.t 5), none⟩,
        ⟨some 35, .bin .add (.t 34) (.c (.s (.int .i64 1))), none⟩,
        ⟨some 5, .cp (.t 35), none⟩] (none)))
      .skip))))
  (.region [
    ⟨some 20, .cp (.t 6), none⟩,
    ⟨some 21, .bin .add (.t 20) (.c (.s (.int .i64 1))), none⟩,
    ⟨some 6, .cp (.t 21), none⟩] (none))))
def x_slices_DeleteFunc_api_Span_api_Span : XF := { np := 2, results := [(.inl 4, .v)], body :=
  (.seq (.region [
    ⟨some 4, .cp (.c (.s (.slice none 0 0))), none⟩] (none))
  (.seq (.region [
    ⟨some 8, .cp (.t 0), none⟩,
    ⟨some 9, .cp (.t 1), none⟩,
    ⟨some 10, .call false i_slices_IndexFunc_api_Span_api_Span [(.t 8), (.t 9)], none⟩,
    ⟨some 5, .cp (.t 10), none⟩] (none))
  (.seq (.seq (.region [
    ⟨some 11, .cp (.t 5), none⟩,
    ⟨some 12, .bin .eql (.t 11) (.c (.s (.int .i64 (-1)))), none⟩] (none))
  (.cond (.t 12)
    (.seq (.region [
      ⟨some 13, .cp (.t 0), none⟩,
      ⟨some 4, .cp (.t 13), none⟩] (none))
    .ret)
    .skip))
  (.seq (.seq (.region [
    ⟨some 14, .cp (.t 5), none⟩,
    ⟨some 15, .bin .add (.t 14) (.c (.s (.int .i64 1))), none⟩,
    ⟨some 6, .cp (.t 15), none⟩] (none))
  (.block 0
    (.loop x_slices_DeleteFunc_api_Span_api_Span_l0)))
  (.seq (.region [
    ⟨some 36, .cp (.t 0), none⟩,
    ⟨some 37, .cp (.t 5), none⟩,
    ⟨some 38, .slLst 14 (.t 36) (some (.t 37)) none, none⟩,
    ⟨none, .clear 14 (.agg [.s (.int .i64 0), .s (.int .i64 0), .s (.int .i64 0), .s (.int .i64 0), .s (.int .i64 0), .s (.int .i64 0), .s (.string ⟨#[]⟩), .s (.string ⟨#[]⟩), .s (.string ⟨#[]⟩), .s (.int .i64 0), .s (.int .i64 0), .s (.bool false), .s (.slice none 0 0), .s (.slice none 0 0)]) (.t 38), none⟩] (none))
  (.seq (.region [
    ⟨some 39, .cp (.t 0), none⟩,
    ⟨some 40, .cp (.t 5), none⟩,
    ⟨some 41, .slFrz 14 (.t 39) none (some (.t 40)), none⟩,
    ⟨some 4, .cp (.t 41), none⟩] (none))
  .ret)))))) }
def x_partition_Partition_Insert_1 : XF := { np := 2, results := [(.inl 3, .v)], body :=
  (.seq (.region [
    ⟨some 2, .box false (.t 0), none⟩,
    ⟨some 3, .cp (.c (.s (.bool false))), none⟩] (none))
  (.seq (.region [
    ⟨some 7, .load 1 false (.t 1), none⟩,
    ⟨some 8, .load 14 true (.t 2), none⟩,
    ⟨some 9, .call false i_slices_BinarySearchFunc_api_Span_api_Span_api_Span [(.t 7), (.t 8), (.c (.fn i_span_Compare [] []))], none⟩,
    ⟨some 6, .cp (.t 9), none⟩,
    ⟨some 10, .extract (.t 6) 0, none⟩,
    ⟨some 11, .extract (.t 6) 1, none⟩,
    ⟨some 4, .cp (.t 10), none⟩,
    ⟨some 5, .cp (.t 11), none⟩] (none))
  (.seq (.region [
    ⟨some 12, .cp (.t 5), none⟩,
    ⟨some 3, .cp (.t 12), none⟩] (none))
  .ret))) }
def x_slices_BinarySearchFunc_api_Span_api_Span_api_Span_l0 : XC :=
  (.seq (.seq (.region [
    ⟨some 15, .cp (.t 9), none⟩,
    ⟨some 16, .cp (.t 10), none⟩,
    ⟨some 17, .bin .lss (.t 15) (.t 16), none⟩] (none))
  (.cond (.t 17)
    .skip
    (.exit 0)))
  (.block 1
    (.seq (.region [
      ⟨some 18, .cp (.t 9), none⟩,
      ⟨some 19, .cp (.t 10), none⟩,
      ⟨some 20, .bin .add (.t 18) (.t 19), none⟩,
      ⟨some 21, .conv .u64 (.t 20), none⟩,
      ⟨some 22, .bin .shr (.t 21) (.c (.s (.int .u64 1))), none⟩,
      ⟨some 23, .conv .i64 (.t 22), none⟩,
      ⟨some 11, .cp (.t 23), none⟩] (none))
    (.seq (.region [
      ⟨some 24, .cp (.t 2), none⟩,
      ⟨some 25, .cp (.t 0), none⟩,
      ⟨some 26, .cp (.t 11), none⟩,
      ⟨some 27, .iaddr 14 (.t 25) (.t 26), none⟩,
      ⟨some 28, .load 14 true (.t 27), none⟩,
      ⟨some 29, .load 14 true (.t 4), none⟩,
      ⟨some 30, .callv false (.t 24) [(.t 28), (.t 29)], none⟩,
      ⟨some 31, .bin .lss (.t 30) (.c (.s (.int .i64 0))), none⟩] (some []))
    (.cond (.t 31)
      (.region [
        ⟨some 32, .cp (.t 11), none⟩,
        ⟨some 33, .bin .add (.t 32) (.c (.s (.int .i64 1))), none⟩,
        ⟨some 9, .cp (.t 33), none⟩] (none))
      (.region [
        ⟨some 34, .cp (.t 11), none⟩,
        ⟨some 10, .cp (.t 34), none⟩] (none)))))))
def x_slices_BinarySearchFunc_api_Span_api_Span_api_Span : XF := { np := 3, results := [(.inl 6, .v), (.inl 7, .v)], body :=
  (.seq (.region [
    ⟨some 4, .box false (.t 1), none⟩,
    ⟨some 6, .cp (.c (.s (.int .i64 0))), none⟩,
    ⟨some 7, .cp (.c (.s (.bool false))), none⟩] (none))
  (.seq (.region [
    ⟨some 12, .cp (.t 0), none⟩,
    ⟨some 13, .len false (.t 12), none⟩,
    ⟨some 8, .cp (.t 13), none⟩] (none))
  (.seq (.region [
    ⟨some 14, .cp (.t 8), none⟩,
    ⟨some 9, .cp (.c (.s (.int .i64 0))), none⟩,
    ⟨some 10, .cp (.t 14), none⟩] (none))
  (.seq (.block 0
    (.loop x_slices_BinarySearchFunc_api_Span_api_Span_api_Span_l0))
  (.seq (.region [
    ⟨some 35, .cp (.t 9), none⟩,
    ⟨some 36, .cp (.t 9), none⟩,
    ⟨some 37, .cp (.t 8), none⟩,
    ⟨some 38, .bin .lss (.t 36) (.t 37), none⟩,
    ⟨some 39, .cp (.t 38), none⟩,
    ⟨some 40, .cp (.t 2), some (39, true)⟩,
    ⟨some 41, .cp (.t 0), some (39, true)⟩,
    ⟨some 42, .cp (.t 9), some (39, true)⟩,
    ⟨some 43, .iaddr 14 (.t 41) (.t 42), some (39, true)⟩,
    ⟨some 44, .load 14 true (.t 43), some (39, true)⟩,
    ⟨some 45, .load 14 true (.t 4), some (39, true)⟩,
    ⟨some 46, .callv false (.t 40) [(.t 44), (.t 45)], some (39, true)⟩,
    ⟨some 47, .bin .eql (.t 46) (.c (.s (.int .i64 0))), some (39, true)⟩,
    ⟨some 48, .pick (.t 39) (.t 47) (.c (.s (.bool false))), none⟩,
    ⟨some 6, .cp (.t 35), none⟩,
    ⟨some 7, .cp (.t 48), none⟩] (some []))
  .ret))))) }
def x_slices_Clone_block_Block_block_Block : XF := { np := 1, results := [(.inl 2, .v)], body :=
  (.seq (.region [
    ⟨some 2, .cp (.c (.s (.slice none 0 0))), none⟩] (none))
  (.seq (.seq (.region [
    ⟨some 3, .cp (.t 0), none⟩,
    ⟨some 4, .eqv .s false (.t 3) (.c (.s (.slice none 0 0))), none⟩] (none))
  (.cond (.t 4)
    (.seq (.region [
      ⟨some 2, .cp (.c (.s (.slice none 0 0))), none⟩] (none))
    .ret)
    .skip))
  (.seq (.region [
    ⟨some 5, .bslice true 1 [], none⟩,
    ⟨some 6, .cp (.t 0), none⟩,
    ⟨some 7, .append 1 17592186044416 (.t 5) (.t 6), none⟩,
    ⟨some 2, .cp (.t 7), none⟩] (none))
  .ret))) }
def x_slices_EqualFunc_api_Span_api_Span_api_Span_api_Span_l0 : XC :=
  (.seq (.region [
    ⟨some 18, .bin .lss (.t 17) (.t 16), none⟩] (none))
  (.seq (.cond (.t 18)
    .skip
    (.exit 0))
  (.seq (.block 1
    (.seq (.region [
      ⟨some 19, .cp (.t 17), none⟩,
      ⟨some 20, .iaddr 14 (.t 15) (.t 17), none⟩,
      ⟨some 21, .load 14 true (.t 20), none⟩,
      ⟨some 8, .alloc [.s (.int .i64 0), .s (.int .i64 0), .s (.int .i64 0), .s (.int .i64 0), .s (.int .i64 0), .s (.int .i64 0), .s (.string ⟨#[]⟩), .s (.string ⟨#[]⟩), .s (.string ⟨#[]⟩), .s (.int .i64 0), .s (.int .i64 0), .s (.bool false), .s (.slice none 0 0), .s (.slice none 0 0)], none⟩,
      ⟨some 7, .cp (.t 19), none⟩,
      ⟨none, .store 14 (.t 8) (.t 21), none⟩] (none))
    (.seq (.region [
      ⟨some 22, .cp (.t 1), none⟩,
      ⟨some 23, .cp (.t 7), none⟩,
      ⟨some 24, .iaddr 14 (.t 22) (.t 23), none⟩,
      ⟨some 25, .load 14 true (.t 24), none⟩,
      ⟨some 9, .alloc [.s (.int .i64 0), .s (.int .i64 0), .s (.int .i64 0), .s (.int .i64 0), .s (.int .i64 0), .s (.int .i64 0), .s (.string ⟨#[]⟩), .s (.string ⟨#[]⟩), .s (.string ⟨#[]⟩), .s (.int .i64 0), .s (.int .i64 0), .s (.bool false), .s (.slice none 0 0), .s (.slice none 0 0)], none⟩,
      ⟨none, .store 14 (.t 9) (.t 25), none⟩] (none))
    (.seq (.region [
      ⟨some 26, .cp (.t 2), none⟩,
      ⟨some 27, .load 14 true (.t 8), none⟩,
      ⟨some 28, .load 14 true (.t 9), none⟩,
      ⟨some 29, .callv false (.t 26) [(.t 27), (.t 28)], none⟩,
      ⟨some 30, .un .not (.t 29), none⟩] (none))
    (.cond (.t 30)
      (.seq (.region [
        ⟨some 6, .cp (.c (.s (.bool false))), none⟩] (none))
      .ret)
      .skip)))))
  (.region [
    ⟨some 31, .bin .add (.t 17) (.c (.s (.int .i64 1))), none⟩,
    ⟨some 17, .cp (.t 31), none⟩] (none)))))
def x_slices_EqualFunc_api_Span_api_Span_api_Span_api_Span : XF := { np := 3, results := [(.inl 6, .v)], body :=
  (.seq (.region [
    ⟨some 6, .cp (.c (.s (.bool false))), none⟩] (none))
  (.seq (.seq (.region [
    ⟨some 10, .cp (.t 0), none⟩,
    ⟨some 11, .len false (.t 10), none⟩,
    ⟨some 12, .cp (.t 1), none⟩,
    ⟨some 13, .len false (.t 12), none⟩,
    ⟨some 14, .bin .neq (.t 11) (.t 13), none⟩] (none))
  (.cond (.t 14)
    (.seq (.region [
      ⟨some 6, .cp (.c (.s (.bool false))), none⟩] (none))
    .ret)
    .skip))
  (.seq (.seq (.region [
    ⟨some 15, .cp (.t 0), none⟩,
    ⟨some 16, .len false (.t 15), none⟩,
    ⟨some 17, .cp (.c (.s (.int .i64 0))), none⟩] (none))
  (.block 0
    (.loop x_slices_EqualFunc_api_Span_api_Span_api_Span_api_Span_l0)))
  (.seq (.region [
    ⟨some 6, .cp (.c (.s (.bool true))), none⟩] (none))
  .ret)))) }
def x_checksum_Chain_l0 : XC :=
  (.seq (.region [
    ⟨some 13, .bin .lss (.t 12) (.t 11), none⟩] (none))
  (.seq (.cond (.t 13)
    .skip
    (.exit 0))
  (.seq (.block 1
    (.seq (.region [
      ⟨some 14, .iaddr 1 (.t 10) (.t 12), none⟩,
      ⟨some 15, .load 1 false (.t 14), none⟩,
      ⟨some 6, .cp (.t 15), none⟩] (none))
    (.seq (.region [
      ⟨some 16, .cp (.t 4), none⟩,
      ⟨some 17, .cp (.t 6), none⟩,
      ⟨some 18, .call false i_checksum_Link [(.t 16), (.t 17)], none⟩,
      ⟨some 4, .cp (.t 18), none⟩] (none))
    (.region [
      ⟨some 19, .cp (.t 3), none⟩,
      ⟨some 20, .cp (.t 4), none⟩,
      ⟨some 21, .bslice false 1 [(.t 20)], none⟩,
      ⟨some 22, .append 1 35184372088832 (.t 19) (.t 21), none⟩,
      ⟨some 3, .cp (.t 22), none⟩] (none)))))
  (.region [
    ⟨some 23, .bin .add (.t 12) (.c (.s (.int .i64 1))), none⟩,
    ⟨some 12, .cp (.t 23), none⟩] (none)))))
def x_checksum_Chain : XF := { np := 1, results := [(.inl 2, .v)], body :=
  (.seq (.region [
    ⟨some 2, .cp (.c (.s (.slice none 0 0))), none⟩] (none))
  (.seq (.region [
    ⟨some 7, .cp (.t 0), none⟩,
    ⟨some 8, .len false (.t 7), none⟩,
    ⟨some 9, .mkslice 1 (.s (.int .u32 0)) 35184372088832 (.c (.s (.int .i64 0))) (.t 8), none⟩,
    ⟨some 3, .cp (.t 9), none⟩] (none))
  (.seq (.region [
    ⟨some 4, .cp (.c (.s (.int .u32 0))), none⟩] (none))
  (.seq (.seq (.region [
    ⟨some 10, .cp (.t 0), none⟩,
    ⟨some 11, .len false (.t 10), none⟩,
    ⟨some 12, .cp (.c (.s (.int .i64 0))), none⟩] (none))
  (.block 0
    (.loop x_checksum_Chain_l0)))
  (.seq (.region [
    ⟨some 24, .cp (.t 3), none⟩,
    ⟨some 2, .cp (.t 24), none⟩] (none))
  .ret))))) }
def x_partition_records_l0 : XC :=
  (.seq (.region [
    ⟨some 9, .bin .lss (.t 8) (.t 7), none⟩] (none))
  (.seq (.cond (.t 9)
    .skip
    (.exit 0))
  (.seq (.block 1
    (.seq (.region [
      ⟨some 10, .iaddr 1 (.t 6) (.t 8), none⟩,
      ⟨some 11, .load 1 false (.t 10), none⟩,
      ⟨some 5, .cp (.t 11), none⟩] (none))
    (.region [
      ⟨some 12, .cp (.t 3), none⟩,
      ⟨some 13, .cp (.t 5), none⟩,
      ⟨some 14, .call false i_block_Block_Spans [(.t 13)], none⟩,
      ⟨some 15, .append 14 837723144972 (.t 12) (.t 14), none⟩,
      ⟨some 3, .cp (.t 15), none⟩] (none))))
  (.region [
    ⟨some 16, .bin .add (.t 8) (.c (.s (.int .i64 1))), none⟩,
    ⟨some 8, .cp (.t 16), none⟩] (none)))))
def x_partition_records : XF := { np := 1, results := [(.inl 2, .v)], body :=
  (.seq (.region [
    ⟨some 2, .cp (.c (.s (.slice none 0 0))), none⟩] (none))
  (.seq (.region [
    ⟨some 3, .cp (.c (.s (.slice none 0 0))), none⟩] (none))
  (.seq (.seq (.region [
    ⟨some 6, .cp (.t 0), none⟩,
    ⟨some 7, .len false (.t 6), none⟩,
    ⟨some 8, .cp (.c (.s (.int .i64 0))), none⟩] (none))
  (.block 0
    (.loop x_partition_records_l0)))
  (.seq (.region [
    ⟨some 17, .cp (.t 3), none⟩,
    ⟨some 18, .call false i_span_Set [(.t 17)], none⟩,
    ⟨some 2, .cp (.t 18), none⟩] (none))
  .ret)))) }
def x_sleuthlaw31_within_l0 : XC :=
  (.seq (.seq (.region [
    ⟨some 6, .cp (.t 5), none⟩,
    ⟨some 7, .cp (.t 0), none⟩,
    ⟨some 8, .len false (.t 7), none⟩,
    ⟨some 9, .bin .lss (.t 6) (.t 8), none⟩] (none))
  (.cond (.t 9)
    .skip
    (.exit 0)))
  (.seq (.block 1
    (.seq (.region [
      ⟨some 12, .cp (.t 0), none⟩,
      ⟨some 13, .cp (.t 5), none⟩,
      ⟨some 14, .iaddr 14 (.t 12) (.t 13), none⟩,
      ⟨some 15, .load 14 true (.t 14), none⟩,
      ⟨some 16, .load 14 true (.t 3), none⟩,
      ⟨some 17, .call false i_span_Equal [(.t 15), (.t 16)], none⟩] (some []))
    (.cond (.t 17)
      (.seq (.region [
        ⟨some 4, .cp (.c (.s (.bool true))), none⟩] (none))
      .ret)
      .skip)))
  (.region [
    ⟨some 10, .cp (.t 5), none⟩,
    ⟨some 11, .bin .add (.t 10) (.c (.s (.int .i64 1))), none⟩,
    ⟨some 5, .cp (.t 11), none⟩] (none))))
def x_sleuthlaw31_within : XF := { np := 2, results := [(.inl 4, .v)], body :=
  (.seq (.region [
    ⟨some 3, .box false (.t 1), none⟩,
    ⟨some 4, .cp (.c (.s (.bool false))), none⟩] (none))
  (.seq (.seq (.region [
    ⟨some 5, .cp (.c (.s (.int .i64 0))), none⟩] (none))
  (.block 0
    (.loop x_sleuthlaw31_within_l0)))
  (.seq (.region [
    ⟨some 4, .cp (.c (.s (.bool false))), none⟩] (none))
  .ret))) }
def x_block_Block_Spans_l0 : XC :=
  (.seq (.region [
    ⟨some 10, .bin .lss (.t 9) (.t 8), none⟩] (none))
  (.seq (.cond (.t 10)
    .skip
    (.exit 0))
  (.seq (.block 1
    (.seq (.region [
      ⟨some 11, .cp (.t 9), none⟩,
      ⟨some 4, .cp (.t 11), none⟩] (none))
    (.seq (.region [
      ⟨some 13, .cp (.t 0), none⟩,
      ⟨some 14, .cp (.t 4), none⟩,
      ⟨some 15, .call false i_block_Block_At [(.t 13), (.t 14)], none⟩,
      ⟨some 12, .cp (.t 15), none⟩,
      ⟨some 16, .extract (.t 12) 0, none⟩,
      ⟨some 17, .extract (.t 12) 1, none⟩,
      ⟨some 5, .alloc [.s (.int .i64 0), .s (.int .i64 0), .s (.int .i64 0), .s (.int .i64 0), .s (.int .i64 0), .s (.int .i64 0), .s (.string ⟨#[]⟩), .s (.string ⟨#[]⟩), .s (.string ⟨#[]⟩), .s (.int .i64 0), .s (.int .i64 0), .s (.bool false), .s (.slice none 0 0), .s (.slice none 0 0)], none⟩,
      ⟨none, .store 14 (.t 5) (.t 16), none⟩,
      ⟨some 6, .cp (.t 17), none⟩] (none))
    (.region [
      ⟨some 18, .cp (.t 3), none⟩,
      ⟨some 19, .load 14 true (.t 5), none⟩,
      ⟨some 20, .bslice false 14 [(.t 19)], none⟩,
      ⟨some 21, .append 14 837723144972 (.t 18) (.t 20), none⟩,
      ⟨some 3, .cp (.t 21), none⟩] (none)))))
  (.region [
    ⟨some 22, .bin .add (.t 9) (.c (.s (.int .i64 1))), none⟩,
    ⟨some 9, .cp (.t 22), none⟩] (none)))))
def x_block_Block_Spans : XF := { np := 1, results := [(.inl 2, .v)], body :=
  (.seq (.region [
    ⟨some 2, .cp (.c (.s (.slice none 0 0))), none⟩] (none))
  (.seq (.region [
    ⟨some 3, .cp (.c (.s (.slice none 0 0))), none⟩] (none))
  (.seq (.seq (.region [
    ⟨some 7, .cp (.t 0), none⟩,
    ⟨some 8, .call false i_block_Block_Len [(.t 7)], none⟩,
    ⟨some 9, .cp (.c (.s (.int .i64 0))), none⟩] (none))
  (.block 0
    (.loop x_block_Block_Spans_l0)))
  (.seq (.region [
    ⟨some 23, .cp (.t 3), none⟩,
    ⟨some 2, .cp (.t 23), none⟩] (none))
  .ret)))) }
def x_block_Block_Len : XF := { np := 1, results := [(.inl 2, .v)], body :=
  (.seq (.region [
    ⟨some 2, .cp (.c (.s (.int .i64 0))), none⟩] (none))
  (.seq (.seq (.region [
    ⟨some 3, .cp (.t 0), none⟩,
    ⟨some 4, .eqv .p false (.t 3) (.c (.s (.pointer none))), none⟩] (none))
  (.cond (.t 4)
    (.seq (.region [
      ⟨some 2, .cp (.c (.s (.int .i64 0))), none⟩] (none))
    .ret)
    .skip))
  (.seq (.region [
    ⟨some 5, .cp (.t 0), none⟩,
    ⟨some 6, .nilchk (.t 5), none⟩,
    ⟨some 7, .faddr (.t 6) 0, none⟩,
    ⟨some 8, .load 1 false (.t 7), none⟩,
    ⟨some 9, .len false (.t 8), none⟩,
    ⟨some 2, .cp (.t 9), none⟩] (none))
  .ret))) }
def x_slices_ContainsFunc_api_Attr_api_Attr : XF := { np := 2, results := [(.inl 4, .v)], body :=
  (.seq (.region [
    ⟨some 4, .cp (.c (.s (.bool false))), none⟩] (none))
  (.seq (.region [
    ⟨some 5, .cp (.t 0), none⟩,
    ⟨some 6, .cp (.t 1), none⟩,
    ⟨some 7, .call false i_slices_IndexFunc_api_Attr_api_Attr [(.t 5), (.t 6)], none⟩,
    ⟨some 8, .bin .geq (.t 7) (.c (.s (.int .i64 0))), none⟩,
    ⟨some 4, .cp (.t 8), none⟩] (none))
  .ret)) }
def x_block_Build_1 : XF := { np := 1, results := [(.inl 2, .v)], body :=
  (.seq (.region [
    ⟨some 1, .box false (.t 0), none⟩,
    ⟨some 2, .cp (.c (.s (.bool false))), none⟩] (none))
  (.seq (.region [
    ⟨some 3, .faddr (.t 1) 1, none⟩,
    ⟨some 4, .faddr (.t 3) 1, none⟩,
    ⟨some 5, .load 1 false (.t 4), none⟩,
    ⟨some 6, .len true (.t 5), none⟩,
    ⟨some 7, .bin .gtr (.t 6) (.c (.s (.int .i64 255))), none⟩,
    ⟨some 2, .cp (.t 7), none⟩] (none))
  .ret)) }
def x_block_made_l0 : XC :=
  (.seq (.region [
    ⟨some 14, .bin .lss (.t 13) (.t 12), none⟩] (none))
  (.seq (.cond (.t 14)
    .skip
    (.exit 0))
  (.seq (.block 1
    (.seq (.region [
      ⟨some 15, .iaddr 14 (.t 11) (.t 13), none⟩,
      ⟨some 16, .load 14 true (.t 15), none⟩,
      ⟨some 7, .alloc [.s (.int .i64 0), .s (.int .i64 0), .s (.int .i64 0), .s (.int .i64 0), .s (.int .i64 0), .s (.int .i64 0), .s (.string ⟨#[]⟩), .s (.string ⟨#[]⟩), .s (.string ⟨#[]⟩), .s (.int .i64 0), .s (.int .i64 0), .s (.bool false), .s (.slice none 0 0), .s (.slice none 0 0)], none⟩,
      ⟨none, .store 14 (.t 7) (.t 16), none⟩] (none))
    (.region [
      ⟨some 17, .cp (.t 4), none⟩,
      ⟨some 18, .faddr (.t 7) 12, none⟩,
      ⟨some 19, .load 1 false (.t 18), none⟩,
      ⟨some 20, .len false (.t 19), none⟩,
      ⟨some 21, .bin .add (.t 17) (.t 20), none⟩,
      ⟨some 22, .cp (.t 5), none⟩,
      ⟨some 23, .faddr (.t 7) 13, none⟩,
      ⟨some 24, .load 1 false (.t 23), none⟩,
      ⟨some 25, .len false (.t 24), none⟩,
      ⟨some 26, .bin .add (.t 22) (.t 25), none⟩,
      ⟨some 4, .cp (.t 21), none⟩,
      ⟨some 5, .cp (.t 26), none⟩] (some []))))
  (.region [
    ⟨some 27, .bin .add (.t 13) (.c (.s (.int .i64 1))), none⟩,
    ⟨some 13, .cp (.t 27), none⟩] (none)))))
def x_block_made_l1 : XC :=
  (.seq (.region [
    ⟨some 44, .bin .lss (.t 43) (.t 42), none⟩] (none))
  (.seq (.cond (.t 44)
    .skip
    (.exit 2))
  (.seq (.block 3
    (.seq (.region [
      ⟨some 45, .iaddr 14 (.t 41) (.t 43), none⟩,
      ⟨some 46, .load 14 true (.t 45), none⟩,
      ⟨some 10, .alloc [.s (.int .i64 0), .s (.int .i64 0), .s (.int .i64 0), .s (.int .i64 0), .s (.int .i64 0), .s (.int .i64 0), .s (.string ⟨#[]⟩), .s (.string ⟨#[]⟩), .s (.string ⟨#[]⟩), .s (.int .i64 0), .s (.int .i64 0), .s (.bool false), .s (.slice none 0 0), .s (.slice none 0 0)], none⟩,
      ⟨none, .store 14 (.t 10) (.t 46), none⟩] (none))
    (.region [
      ⟨some 47, .cp (.t 8), none⟩,
      ⟨some 48, .cp (.t 8), none⟩,
      ⟨some 49, .nilchk (.t 48), none⟩,
      ⟨some 50, .faddr (.t 49) 0, none⟩,
      ⟨some 51, .load 1 false (.t 50), none⟩,
      ⟨some 52, .load 14 true (.t 10), none⟩,
      ⟨some 53, .call false i_block_copied [(.t 52)], none⟩,
      ⟨some 54, .bslice false 14 [(.t 53)], none⟩,
      ⟨some 55, .append 14 837723144972 (.t 51) (.t 54), none⟩,
      ⟨some 56, .nilchk (.t 47), none⟩,
      ⟨some 57, .faddr (.t 56) 0, none⟩,
      ⟨none, .store 1 (.t 57) (.t 55), none⟩] (some [(6, some 4)]))))
  (.region [
    ⟨some 58, .bin .add (.t 43) (.c (.s (.int .i64 1))), none⟩,
    ⟨some 43, .cp (.t 58), none⟩] (none)))))
def x_block_made : XF := { np := 1, results := [(.inl 2, .f), (.inl 3, .v)], body :=
  (.seq (.region [
    ⟨some 2, .cp (.c (.s (.pointer none))), none⟩,
    ⟨some 3, .cp (.c (.s (.int .i64 0))), none⟩] (none))
  (.seq (.region [
    ⟨some 4, .cp (.c (.s (.int .i64 0))), none⟩,
    ⟨some 5, .cp (.c (.s (.int .i64 0))), none⟩] (none))
  (.seq (.seq (.region [
    ⟨some 11, .cp (.t 0), none⟩,
    ⟨some 12, .len false (.t 11), none⟩,
    ⟨some 13, .cp (.c (.s (.int .i64 0))), none⟩] (none))
  (.block 0
    (.loop x_block_made_l0)))
  (.seq (.seq (.region [
    ⟨some 28, .cp (.t 0), none⟩,
    ⟨some 29, .len false (.t 28), none⟩,
    ⟨some 30, .bin .gtr (.t 29) (.c (.s (.int .i64 4096))), none⟩,
    ⟨some 31, .cp (.t 30), none⟩,
    ⟨some 32, .cp (.t 4), some (31, false)⟩,
    ⟨some 33, .bin .gtr (.t 32) (.c (.s (.int .i64 4096))), some (31, false)⟩,
    ⟨some 34, .pick (.t 31) (.c (.s (.bool true))) (.t 33), none⟩,
    ⟨some 35, .cp (.t 34), none⟩,
    ⟨some 36, .cp (.t 5), some (35, false)⟩,
    ⟨some 37, .bin .gtr (.t 36) (.c (.s (.int .i64 4096))), some (35, false)⟩,
    ⟨some 38, .pick (.t 35) (.c (.s (.bool true))) (.t 37), none⟩] (none))
  (.cond (.t 38)
    (.seq (.region [
      ⟨some 2, .cp (.c (.s (.pointer none))), none⟩,
      ⟨some 3, .cp (.c (.s (.int .i64 6))), none⟩] (none))
    .ret)
    .skip))
  (.seq (.region [
    ⟨some 39, .build false [.s (.slice none 0 0)] [], none⟩,
    ⟨some 40, .box false (.t 39), none⟩,
    ⟨some 8, .cp (.t 40), none⟩] (none))
  (.seq (.seq (.region [
    ⟨some 41, .cp (.t 0), none⟩,
    ⟨some 42, .len false (.t 41), none⟩,
    ⟨some 43, .cp (.c (.s (.int .i64 0))), none⟩] (none))
  (.block 2
    (.loop x_block_made_l1)))
  (.seq (.region [
    ⟨some 59, .cp (.t 8), none⟩,
    ⟨some 2, .cp (.t 59), none⟩,
    ⟨some 3, .cp (.c (.s (.int .i64 0))), none⟩] (none))
  .ret))))))) }
def x_slices_IndexFunc_api_Span_api_Span_l0 : XC :=
  (.seq (.region [
    ⟨some 9, .bin .lss (.t 8) (.t 7), none⟩] (none))
  (.seq (.cond (.t 9)
    .skip
    (.exit 0))
  (.seq (.block 1
    (.seq (.region [
      ⟨some 10, .cp (.t 8), none⟩,
      ⟨some 5, .cp (.t 10), none⟩] (none))
    (.seq (.region [
      ⟨some 11, .cp (.t 1), none⟩,
      ⟨some 12, .cp (.t 0), none⟩,
      ⟨some 13, .cp (.t 5), none⟩,
      ⟨some 14, .iaddr 14 (.t 12) (.t 13), none⟩,
      ⟨some 15, .load 14 true (.t 14), none⟩,
      ⟨some 16, .callv false (.t 11) [(.t 15)], none⟩] (none))
    (.cond (.t 16)
      (.seq (.region [
        ⟨some 17, .cp (.t 5), none⟩,
        ⟨some 4, .cp (.t 17), none⟩] (none))
      .ret)
      .skip))))
  (.region [
    ⟨some 18, .bin .add (.t 8) (.c (.s (.int .i64 1))), none⟩,
    ⟨some 8, .cp (.t 18), none⟩] (none)))))
def x_slices_IndexFunc_api_Span_api_Span : XF := { np := 2, results := [(.inl 4, .v)], body :=
  (.seq (.region [
    ⟨some 4, .cp (.c (.s (.int .i64 0))), none⟩] (none))
  (.seq (.seq (.region [
    ⟨some 6, .cp (.t 0), none⟩,
    ⟨some 7, .len false (.t 6), none⟩,
    ⟨some 8, .cp (.c (.s (.int .i64 0))), none⟩] (none))
  (.block 0
    (.loop x_slices_IndexFunc_api_Span_api_Span_l0)))
  (.seq (.region [
    ⟨some 4, .cp (.c (.s (.int .i64 (-1)))), none⟩] (none))
  .ret))) }
def x_checksum_Link_l0 : XC :=
  (.seq (.region [
    ⟨some 11, .bin .lss (.t 10) (.c (.s (.int .i64 4))), none⟩] (none))
  (.seq (.cond (.t 11)
    .skip
    (.exit 0))
  (.seq (.block 1
    (.seq (.region [
      ⟨some 12, .cp (.t 10), none⟩,
      ⟨some 6, .cp (.t 12), none⟩] (none))
    (.region [
      ⟨some 13, .cp (.t 5), none⟩,
      ⟨some 14, .cp (.t 0), none⟩,
      ⟨some 15, .cp (.t 6), none⟩,
      ⟨some 16, .bin .mul (.c (.s (.int .i64 8))) (.t 15), none⟩,
      ⟨some 17, .bin .shr (.t 14) (.t 16), none⟩,
      ⟨some 18, .conv .u8 (.t 17), none⟩,
      ⟨some 19, .bslice false 1 [(.t 18)], none⟩,
      ⟨some 20, .append 1 140737488355328 (.t 13) (.t 19), none⟩,
      ⟨some 5, .cp (.t 20), none⟩] (none))))
  (.region [
    ⟨some 21, .bin .add (.t 10) (.c (.s (.int .i64 1))), none⟩,
    ⟨some 10, .cp (.t 21), none⟩] (none)))))
def x_checksum_Link_l1 : XC :=
  (.seq (.region [
    ⟨some 26, .bin .lss (.t 25) (.c (.s (.int .i64 8))), none⟩] (none))
  (.seq (.cond (.t 26)
    .skip
    (.exit 2))
  (.seq (.block 3
    (.seq (.region [
      ⟨some 27, .cp (.t 25), none⟩,
      ⟨some 8, .cp (.t 27), none⟩] (none))
    (.region [
      ⟨some 28, .cp (.t 5), none⟩,
      ⟨some 29, .cp (.t 7), none⟩,
      ⟨some 30, .cp (.t 8), none⟩,
      ⟨some 31, .bin .mul (.c (.s (.int .i64 8))) (.t 30), none⟩,
      ⟨some 32, .bin .shr (.t 29) (.t 31), none⟩,
      ⟨some 33, .conv .u8 (.t 32), none⟩,
      ⟨some 34, .bslice false 1 [(.t 33)], none⟩,
      ⟨some 35, .append 1 140737488355328 (.t 28) (.t 34), none⟩,
      ⟨some 5, .cp (.t 35), none⟩] (none))))
  (.region [
    ⟨some 36, .bin .add (.t 25) (.c (.s (.int .i64 1))), none⟩,
    ⟨some 25, .cp (.t 36), none⟩] (none)))))
def x_checksum_Link : XF := { np := 2, results := [(.inl 4, .v)], body :=
  (.seq (.region [
    ⟨some 4, .cp (.c (.s (.int .u32 0))), none⟩] (none))
  (.seq (.region [
    ⟨some 9, .mkslice 1 (.s (.int .u8 0)) 140737488355328 (.c (.s (.int .i64 0))) (.c (.s (.int .i64 12))), none⟩,
    ⟨some 5, .cp (.t 9), none⟩] (none))
  (.seq (.seq (.region [
    ⟨some 10, .cp (.c (.s (.int .i64 0))), none⟩] (none))
  (.block 0
    (.loop x_checksum_Link_l0)))
  (.seq (.region [
    ⟨some 22, .cp (.t 1), none⟩,
    ⟨some 23, .len true (.t 22), none⟩,
    ⟨some 24, .conv .u64 (.t 23), none⟩,
    ⟨some 7, .cp (.t 24), none⟩] (none))
  (.seq (.seq (.region [
    ⟨some 25, .cp (.c (.s (.int .i64 0))), none⟩] (none))
  (.block 2
    (.loop x_checksum_Link_l1)))
  (.seq (.region [
    ⟨some 37, .cp (.t 5), none⟩,
    ⟨some 38, .toStr (.t 37), none⟩,
    ⟨some 39, .call false i_checksum_Sum [(.t 38)], none⟩,
    ⟨some 40, .cp (.t 1), none⟩,
    ⟨some 41, .call false i_checksum_Extend [(.t 39), (.t 40)], none⟩,
    ⟨some 4, .cp (.t 41), none⟩] (none))
  .ret)))))) }
def x_block_Block_At : XF := { np := 2, results := [(.inr (4, 14, true), .v), (.inl 5, .v)], body :=
  (.seq (.region [
    ⟨some 4, .alloc [.s (.int .i64 0), .s (.int .i64 0), .s (.int .i64 0), .s (.int .i64 0), .s (.int .i64 0), .s (.int .i64 0), .s (.string ⟨#[]⟩), .s (.string ⟨#[]⟩), .s (.string ⟨#[]⟩), .s (.int .i64 0), .s (.int .i64 0), .s (.bool false), .s (.slice none 0 0), .s (.slice none 0 0)], none⟩,
    ⟨some 5, .cp (.c (.s (.bool false))), none⟩] (none))
  (.seq (.seq (.region [
    ⟨some 6, .cp (.t 1), none⟩,
    ⟨some 7, .bin .lss (.t 6) (.c (.s (.int .i64 0))), none⟩,
    ⟨some 8, .cp (.t 7), none⟩,
    ⟨some 9, .cp (.t 1), some (8, false)⟩,
    ⟨some 10, .cp (.t 0), some (8, false)⟩,
    ⟨some 11, .call false i_block_Block_Len [(.t 10)], some (8, false)⟩,
    ⟨some 12, .bin .geq (.t 9) (.t 11), some (8, false)⟩,
    ⟨some 13, .pick (.t 8) (.c (.s (.bool true))) (.t 12), none⟩] (none))
  (.cond (.t 13)
    (.seq (.region [
      ⟨some 14, .build false [.s (.int .i64 0), .s (.int .i64 0), .s (.int .i64 0), .s (.int .i64 0), .s (.int .i64 0), .s (.int .i64 0), .s (.string ⟨#[]⟩), .s (.string ⟨#[]⟩), .s (.string ⟨#[]⟩), .s (.int .i64 0), .s (.int .i64 0), .s (.bool false), .s (.slice none 0 0), .s (.slice none 0 0)] [], none⟩,
      ⟨none, .store 14 (.t 4) (.t 14), none⟩,
      ⟨some 5, .cp (.c (.s (.bool false))), none⟩] (none))
    .ret)
    .skip))
  (.seq (.region [
    ⟨some 15, .cp (.t 0), none⟩,
    ⟨some 16, .nilchk (.t 15), none⟩,
    ⟨some 17, .faddr (.t 16) 0, none⟩,
    ⟨some 18, .load 1 false (.t 17), none⟩,
    ⟨some 19, .cp (.t 1), none⟩,
    ⟨some 20, .iaddr 14 (.t 18) (.t 19), none⟩,
    ⟨some 21, .load 14 true (.t 20), none⟩,
    ⟨some 22, .call false i_block_copied [(.t 21)], none⟩,
    ⟨none, .store 14 (.t 4) (.t 22), none⟩,
    ⟨some 5, .cp (.c (.s (.bool true))), none⟩] (none))
  .ret))) }
def x_slices_IndexFunc_api_Attr_api_Attr_l0 : XC :=
  (.seq (.region [
    ⟨some 9, .bin .lss (.t 8) (.t 7), none⟩] (none))
  (.seq (.cond (.t 9)
    .skip
    (.exit 0))
  (.seq (.block 1
    (.seq (.region [
      ⟨some 10, .cp (.t 8), none⟩,
      ⟨some 5, .cp (.t 10), none⟩] (none))
    (.seq (.region [
      ⟨some 11, .cp (.t 1), none⟩,
      ⟨some 12, .cp (.t 0), none⟩,
      ⟨some 13, .cp (.t 5), none⟩,
      ⟨some 14, .iaddr 4 (.t 12) (.t 13), none⟩,
      ⟨some 15, .load 4 true (.t 14), none⟩,
      ⟨some 16, .callv false (.t 11) [(.t 15)], none⟩] (none))
    (.cond (.t 16)
      (.seq (.region [
        ⟨some 17, .cp (.t 5), none⟩,
        ⟨some 4, .cp (.t 17), none⟩] (none))
      .ret)
      .skip))))
  (.region [
    ⟨some 18, .bin .add (.t 8) (.c (.s (.int .i64 1))), none⟩,
    ⟨some 8, .cp (.t 18), none⟩] (none)))))
def x_slices_IndexFunc_api_Attr_api_Attr : XF := { np := 2, results := [(.inl 4, .v)], body :=
  (.seq (.region [
    ⟨some 4, .cp (.c (.s (.int .i64 0))), none⟩] (none))
  (.seq (.seq (.region [
    ⟨some 6, .cp (.t 0), none⟩,
    ⟨some 7, .len false (.t 6), none⟩,
    ⟨some 8, .cp (.c (.s (.int .i64 0))), none⟩] (none))
  (.block 0
    (.loop x_slices_IndexFunc_api_Attr_api_Attr_l0)))
  (.seq (.region [
    ⟨some 4, .cp (.c (.s (.int .i64 (-1)))), none⟩] (none))
  .ret))) }
def x_block_copied : XF := { np := 1, results := [(.inr (2, 14, true), .v)], body :=
  (.seq (.region [
    ⟨some 1, .box false (.t 0), none⟩,
    ⟨some 2, .alloc [.s (.int .i64 0), .s (.int .i64 0), .s (.int .i64 0), .s (.int .i64 0), .s (.int .i64 0), .s (.int .i64 0), .s (.string ⟨#[]⟩), .s (.string ⟨#[]⟩), .s (.string ⟨#[]⟩), .s (.int .i64 0), .s (.int .i64 0), .s (.bool false), .s (.slice none 0 0), .s (.slice none 0 0)], none⟩] (none))
  (.seq (.region [
    ⟨some 3, .faddr (.t 1) 12, none⟩,
    ⟨some 4, .load 1 false (.t 3), none⟩,
    ⟨some 5, .call false i_slices_Clone_api_Attr_api_Attr [(.t 4)], none⟩,
    ⟨some 6, .faddr (.t 1) 13, none⟩,
    ⟨some 7, .load 1 false (.t 6), none⟩,
    ⟨some 8, .call false i_slices_Clone_api_Ref_api_Ref [(.t 7)], none⟩,
    ⟨some 9, .faddr (.t 1) 12, none⟩,
    ⟨none, .store 1 (.t 9) (.t 5), none⟩,
    ⟨some 10, .faddr (.t 1) 13, none⟩,
    ⟨none, .store 1 (.t 10) (.t 8), none⟩] (some [(2, some 4)]))
  (.seq (.region [
    ⟨some 11, .load 14 true (.t 1), none⟩,
    ⟨none, .store 14 (.t 2) (.t 11), none⟩] (none))
  .ret))) }
def x_checksum_Extend_l0 : XC :=
  (.seq (.region [
    ⟨some 21, .bin .lss (.t 20) (.c (.s (.int .i64 8))), none⟩] (none))
  (.seq (.cond (.t 21)
    .skip
    (.exit 2))
  (.seq (.block 3
    (.region [
      ⟨some 22, .cp (.t 5), none⟩,
      ⟨some 23, .call false i_checksum_zeroBit [(.t 22)], none⟩,
      ⟨some 5, .cp (.t 23), none⟩] (none)))
  (.region [
    ⟨some 24, .bin .add (.t 20) (.c (.s (.int .i64 1))), none⟩,
    ⟨some 20, .cp (.t 24), none⟩] (none)))))
def x_checksum_Extend_l1 : XC :=
  (.seq (.region [
    ⟨some 12, .bin .lss (.t 11) (.t 10), none⟩] (none))
  (.seq (.cond (.t 12)
    .skip
    (.exit 0))
  (.seq (.block 1
    (.seq (.region [
      ⟨some 13, .cp (.t 11), none⟩,
      ⟨some 6, .cp (.t 13), none⟩] (none))
    (.seq (.region [
      ⟨some 14, .cp (.t 5), none⟩,
      ⟨some 15, .cp (.t 1), none⟩,
      ⟨some 16, .cp (.t 6), none⟩,
      ⟨some 17, .idxS (.t 15) (.t 16), none⟩,
      ⟨some 18, .conv .u32 (.t 17), none⟩,
      ⟨some 19, .bin .xor (.t 14) (.t 18), none⟩,
      ⟨some 5, .cp (.t 19), none⟩] (none))
    (.seq (.region [
      ⟨some 20, .cp (.c (.s (.int .i64 0))), none⟩] (none))
    (.block 2
      (.loop x_checksum_Extend_l0))))))
  (.region [
    ⟨some 25, .bin .add (.t 11) (.c (.s (.int .i64 1))), none⟩,
    ⟨some 11, .cp (.t 25), none⟩] (none)))))
def x_checksum_Extend : XF := { np := 2, results := [(.inl 4, .v)], body :=
  (.seq (.region [
    ⟨some 4, .cp (.c (.s (.int .u32 0))), none⟩] (none))
  (.seq (.region [
    ⟨some 7, .cp (.t 0), none⟩,
    ⟨some 8, .un .xor (.t 7), none⟩,
    ⟨some 5, .cp (.t 8), none⟩] (none))
  (.seq (.seq (.region [
    ⟨some 9, .cp (.t 1), none⟩,
    ⟨some 10, .len true (.t 9), none⟩,
    ⟨some 11, .cp (.c (.s (.int .i64 0))), none⟩] (none))
  (.block 0
    (.loop x_checksum_Extend_l1)))
  (.seq (.region [
    ⟨some 26, .cp (.t 5), none⟩,
    ⟨some 27, .un .xor (.t 26), none⟩,
    ⟨some 4, .cp (.t 27), none⟩] (none))
  .ret)))) }
def x_checksum_Sum : XF := { np := 1, results := [(.inl 2, .v)], body :=
  (.seq (.region [
    ⟨some 2, .cp (.c (.s (.int .u32 0))), none⟩] (none))
  (.seq (.region [
    ⟨some 3, .cp (.t 0), none⟩,
    ⟨some 4, .call false i_checksum_Extend [(.c (.s (.int .u32 0))), (.t 3)], none⟩,
    ⟨some 2, .cp (.t 4), none⟩] (none))
  .ret)) }
def x_checksum_zeroBit : XF := { np := 1, results := [(.inl 2, .v)], body :=
  (.seq (.region [
    ⟨some 2, .cp (.c (.s (.int .u32 0))), none⟩] (none))
  (.seq (.seq (.region [
    ⟨some 3, .cp (.t 0), none⟩,
    ⟨some 4, .bin .and (.t 3) (.c (.s (.int .u32 1))), none⟩,
    ⟨some 5, .bin .eql (.t 4) (.c (.s (.int .u32 1))), none⟩] (none))
  (.cond (.t 5)
    (.seq (.region [
      ⟨some 6, .cp (.t 0), none⟩,
      ⟨some 7, .bin .shr (.t 6) (.c (.s (.int .u64 1))), none⟩,
      ⟨some 8, .bin .xor (.t 7) (.c (.s (.int .u32 2197175160))), none⟩,
      ⟨some 2, .cp (.t 8), none⟩] (none))
    .ret)
    .skip))
  (.seq (.region [
    ⟨some 9, .cp (.t 0), none⟩,
    ⟨some 10, .bin .shr (.t 9) (.c (.s (.int .u64 1))), none⟩,
    ⟨some 2, .cp (.t 10), none⟩] (none))
  .ret))) }
def XPL : List (Option XF) := [none, none, none, none, none, none, none, none, none, some x_encoding_Writer_Number, some x_encoding_Writer_Bytes, none, none, none, none, none, none, none, none, none, none, none, none, none, none, none, none, none, none, none, some x_encoding_EncodeSpan, none, none, some x_encoding_Writer_Bool, some x_encoding_Writer_Text, some x_encoding_Writer_Span, none, none, none, none, none, none, none, none, none, none, none, some x_encoding_magnitude, some x_encoding_Writer_Attr, none, none, none, none, none, none, some x_encoding_Writer_Value, none, none, some x_encoding_Writer_Ref, none, none, none, none, none, none, none, none, none, none, none, none, none, none, none, none, none, some x_encoding_Writer_numbers, none, none, some x_encoding_list_api_Attr, some x_encoding_list_api_Ref, none, none, none, none, none, none, none, none, none, none, none, none, none, none, none, none, none, none, none, none, none, none, none, none, none, none, none, none, none, none, none, none, none, none, none, none, none, none, none, none, none, none, none, none, none, none, none, none, none, none, none, none, none, none, none, none, none, none, none, none, none, none, none, none, none, none, none, none, none, none, none, none, none, none, none, none, some x_span_Check, none, none, some x_span_Compare, none, some x_span_Equal, none, some x_span_CompareRefs, none, none, none, none, none, none, some x_attribute_CheckValue, none, none, none, none, none, none, none, none, some x_span_Slot, some x_span_Partition, none, none, some x_span_Set, none, none, none, none, some x_span_badId, some x_attribute_IsName, some x_cmp_Or_api_Errno, some x_attribute_CheckAttrs, some x_span_checkLinks, none, some x_cmp_Or_int, some x_slices_Compare_int_int, some x_cmp_Compare_string, some x_cmp_Compare_int, some x_span_number, some x_attribute_CompareAttrs, some x_slices_CompareFunc_api_Ref_api_Ref_api_Ref_api_Ref, none, none, none, none, none, none, some x_attribute_within, none, none, none, some x_span_chosen, some x_span_set, some x_span_Set_1, none, none, some x_cmp_isNaN_string, some x_cmp_isNaN_int, some x_slices_CompareFunc_api_Attr_api_Attr_api_Attr_api_Attr, some x_attribute_CompareAttrs_1, some x_attribute_CompareValues, none, none, some x_span_copied, some x_slices_CompactFunc_api_Span_api_Span, some x_slices_SortedFunc_api_Span, some x_slices_Values_api_Span_api_Span, none, some x_slices_Clone_api_Attr_api_Attr, some x_slices_Clone_api_Ref_api_Ref, some x_slices_Collect_api_Span, some x_slices_SortFunc_api_Span_api_Span, some x_slices_Values_api_Span_api_Span_1, some x_slices_AppendSeq_api_Span_api_Span, none, none, none, none, none, none, none, none, none, none, none, none, none, none, none, none, some x_sleuthlaw31_PartitionRefuses, none, none, none, none, none, none, none, some x_sleuthlaw31_known, none, some x_partition_New, none, some x_partition_Partition_Insert, none, none, some x_partition_Partition_Merge, some x_partition_Partition_Equal, some x_partition_Partition_Digest, some x_partition_Partition_Records, some x_sleuthlaw31_state_insert, some x_sleuthlaw31_record, some x_sleuthlaw31_state_agrees, none, some x_sleuthlaw31_same, none, none, none, none, some x_sleuthlaw31_state_records, none, none, none, none, none, none, none, none, none, none, none, none, some x_partition_Partition_Sealed, some x_partition_Partition_Number, some x_partition_Partition_Blocks, none, some x_block_Build, none, none, none, some x_slices_ContainsFunc_api_Span_api_Span, some x_partition_Partition_foreign, some x_slices_DeleteFunc_api_Span_api_Span, some x_partition_Partition_Insert_1, some x_slices_BinarySearchFunc_api_Span_api_Span_api_Span, some x_slices_Clone_block_Block_block_Block, some x_slices_EqualFunc_api_Span_api_Span_api_Span_api_Span, some x_checksum_Chain, some x_partition_records, some x_sleuthlaw31_within, some x_block_Block_Spans, none, none, none, none, none, none, none, none, none, none, none, none, none, none, some x_block_Block_Len, some x_slices_ContainsFunc_api_Attr_api_Attr, some x_block_Build_1, some x_block_made, none, none, none, none, none, none, none, none, none, none, none, none, none, none, none, none, none, none, none, none, none, none, none, none, none, some x_slices_IndexFunc_api_Span_api_Span, some x_checksum_Link, some x_block_Block_At, none, none, none, none, none, none, none, none, none, none, none, some x_slices_IndexFunc_api_Attr_api_Attr, some x_block_copied, none, none, none, none, none, none, none, none, none, none, none, none, none, none, none, none, none, none, some x_checksum_Extend, some x_checksum_Sum, none, none, none, none, none, none, none, none, none, none, none, none, none, none, none, none, none, none, none, none, none, none, none, none, none, none, none, none, none, none, some x_checksum_zeroBit, none, none, none, none, none, none, none, none, none, none, none, none, none, none, none, none, none, none, none, none, none, none, none, none, none, none, none, none, none, none, none, none, none, none, none, none]
def XP : Nat → Option XF := fun n => XPL.getD n none
theorem xp_encoding_Writer_Number : XP i_encoding_Writer_Number = some x_encoding_Writer_Number := rfl
theorem xp_encoding_Writer_Bytes : XP i_encoding_Writer_Bytes = some x_encoding_Writer_Bytes := rfl
theorem xp_encoding_EncodeSpan : XP i_encoding_EncodeSpan = some x_encoding_EncodeSpan := rfl
theorem xp_encoding_Writer_Bool : XP i_encoding_Writer_Bool = some x_encoding_Writer_Bool := rfl
theorem xp_encoding_Writer_Text : XP i_encoding_Writer_Text = some x_encoding_Writer_Text := rfl
theorem xp_encoding_Writer_Span : XP i_encoding_Writer_Span = some x_encoding_Writer_Span := rfl
theorem xp_encoding_magnitude : XP i_encoding_magnitude = some x_encoding_magnitude := rfl
theorem xp_encoding_Writer_Attr : XP i_encoding_Writer_Attr = some x_encoding_Writer_Attr := rfl
theorem xp_encoding_Writer_Value : XP i_encoding_Writer_Value = some x_encoding_Writer_Value := rfl
theorem xp_encoding_Writer_Ref : XP i_encoding_Writer_Ref = some x_encoding_Writer_Ref := rfl
theorem xp_encoding_Writer_numbers : XP i_encoding_Writer_numbers = some x_encoding_Writer_numbers := rfl
theorem xp_encoding_list_api_Attr : XP i_encoding_list_api_Attr = some x_encoding_list_api_Attr := rfl
theorem xp_encoding_list_api_Ref : XP i_encoding_list_api_Ref = some x_encoding_list_api_Ref := rfl
theorem xp_span_Check : XP i_span_Check = some x_span_Check := rfl
theorem xp_span_Compare : XP i_span_Compare = some x_span_Compare := rfl
theorem xp_span_Equal : XP i_span_Equal = some x_span_Equal := rfl
theorem xp_span_CompareRefs : XP i_span_CompareRefs = some x_span_CompareRefs := rfl
theorem xp_attribute_CheckValue : XP i_attribute_CheckValue = some x_attribute_CheckValue := rfl
theorem xp_span_Slot : XP i_span_Slot = some x_span_Slot := rfl
theorem xp_span_Partition : XP i_span_Partition = some x_span_Partition := rfl
theorem xp_span_Set : XP i_span_Set = some x_span_Set := rfl
theorem xp_span_badId : XP i_span_badId = some x_span_badId := rfl
theorem xp_attribute_IsName : XP i_attribute_IsName = some x_attribute_IsName := rfl
theorem xp_cmp_Or_api_Errno : XP i_cmp_Or_api_Errno = some x_cmp_Or_api_Errno := rfl
theorem xp_attribute_CheckAttrs : XP i_attribute_CheckAttrs = some x_attribute_CheckAttrs := rfl
theorem xp_span_checkLinks : XP i_span_checkLinks = some x_span_checkLinks := rfl
theorem xp_cmp_Or_int : XP i_cmp_Or_int = some x_cmp_Or_int := rfl
theorem xp_slices_Compare_int_int : XP i_slices_Compare_int_int = some x_slices_Compare_int_int := rfl
theorem xp_cmp_Compare_string : XP i_cmp_Compare_string = some x_cmp_Compare_string := rfl
theorem xp_cmp_Compare_int : XP i_cmp_Compare_int = some x_cmp_Compare_int := rfl
theorem xp_span_number : XP i_span_number = some x_span_number := rfl
theorem xp_attribute_CompareAttrs : XP i_attribute_CompareAttrs = some x_attribute_CompareAttrs := rfl
theorem xp_slices_CompareFunc_api_Ref_api_Ref_api_Ref_api_Ref : XP i_slices_CompareFunc_api_Ref_api_Ref_api_Ref_api_Ref = some x_slices_CompareFunc_api_Ref_api_Ref_api_Ref_api_Ref := rfl
theorem xp_attribute_within : XP i_attribute_within = some x_attribute_within := rfl
theorem xp_span_chosen : XP i_span_chosen = some x_span_chosen := rfl
theorem xp_span_set : XP i_span_set = some x_span_set := rfl
theorem xp_span_Set_1 : XP i_span_Set_1 = some x_span_Set_1 := rfl
theorem xp_cmp_isNaN_string : XP i_cmp_isNaN_string = some x_cmp_isNaN_string := rfl
theorem xp_cmp_isNaN_int : XP i_cmp_isNaN_int = some x_cmp_isNaN_int := rfl
theorem xp_slices_CompareFunc_api_Attr_api_Attr_api_Attr_api_Attr : XP i_slices_CompareFunc_api_Attr_api_Attr_api_Attr_api_Attr = some x_slices_CompareFunc_api_Attr_api_Attr_api_Attr_api_Attr := rfl
theorem xp_attribute_CompareAttrs_1 : XP i_attribute_CompareAttrs_1 = some x_attribute_CompareAttrs_1 := rfl
theorem xp_attribute_CompareValues : XP i_attribute_CompareValues = some x_attribute_CompareValues := rfl
theorem xp_span_copied : XP i_span_copied = some x_span_copied := rfl
theorem xp_slices_CompactFunc_api_Span_api_Span : XP i_slices_CompactFunc_api_Span_api_Span = some x_slices_CompactFunc_api_Span_api_Span := rfl
theorem xp_slices_SortedFunc_api_Span : XP i_slices_SortedFunc_api_Span = some x_slices_SortedFunc_api_Span := rfl
theorem xp_slices_Values_api_Span_api_Span : XP i_slices_Values_api_Span_api_Span = some x_slices_Values_api_Span_api_Span := rfl
theorem xp_slices_Clone_api_Attr_api_Attr : XP i_slices_Clone_api_Attr_api_Attr = some x_slices_Clone_api_Attr_api_Attr := rfl
theorem xp_slices_Clone_api_Ref_api_Ref : XP i_slices_Clone_api_Ref_api_Ref = some x_slices_Clone_api_Ref_api_Ref := rfl
theorem xp_slices_Collect_api_Span : XP i_slices_Collect_api_Span = some x_slices_Collect_api_Span := rfl
theorem xp_slices_SortFunc_api_Span_api_Span : XP i_slices_SortFunc_api_Span_api_Span = some x_slices_SortFunc_api_Span_api_Span := rfl
theorem xp_slices_Values_api_Span_api_Span_1 : XP i_slices_Values_api_Span_api_Span_1 = some x_slices_Values_api_Span_api_Span_1 := rfl
theorem xp_slices_AppendSeq_api_Span_api_Span : XP i_slices_AppendSeq_api_Span_api_Span = some x_slices_AppendSeq_api_Span_api_Span := rfl
theorem xp_sleuthlaw31_PartitionRefuses : XP i_sleuthlaw31_PartitionRefuses = some x_sleuthlaw31_PartitionRefuses := rfl
theorem xp_sleuthlaw31_known : XP i_sleuthlaw31_known = some x_sleuthlaw31_known := rfl
theorem xp_partition_New : XP i_partition_New = some x_partition_New := rfl
theorem xp_partition_Partition_Insert : XP i_partition_Partition_Insert = some x_partition_Partition_Insert := rfl
theorem xp_partition_Partition_Merge : XP i_partition_Partition_Merge = some x_partition_Partition_Merge := rfl
theorem xp_partition_Partition_Equal : XP i_partition_Partition_Equal = some x_partition_Partition_Equal := rfl
theorem xp_partition_Partition_Digest : XP i_partition_Partition_Digest = some x_partition_Partition_Digest := rfl
theorem xp_partition_Partition_Records : XP i_partition_Partition_Records = some x_partition_Partition_Records := rfl
theorem xp_sleuthlaw31_state_insert : XP i_sleuthlaw31_state_insert = some x_sleuthlaw31_state_insert := rfl
theorem xp_sleuthlaw31_record : XP i_sleuthlaw31_record = some x_sleuthlaw31_record := rfl
theorem xp_sleuthlaw31_state_agrees : XP i_sleuthlaw31_state_agrees = some x_sleuthlaw31_state_agrees := rfl
theorem xp_sleuthlaw31_same : XP i_sleuthlaw31_same = some x_sleuthlaw31_same := rfl
theorem xp_sleuthlaw31_state_records : XP i_sleuthlaw31_state_records = some x_sleuthlaw31_state_records := rfl
theorem xp_partition_Partition_Sealed : XP i_partition_Partition_Sealed = some x_partition_Partition_Sealed := rfl
theorem xp_partition_Partition_Number : XP i_partition_Partition_Number = some x_partition_Partition_Number := rfl
theorem xp_partition_Partition_Blocks : XP i_partition_Partition_Blocks = some x_partition_Partition_Blocks := rfl
theorem xp_block_Build : XP i_block_Build = some x_block_Build := rfl
theorem xp_slices_ContainsFunc_api_Span_api_Span : XP i_slices_ContainsFunc_api_Span_api_Span = some x_slices_ContainsFunc_api_Span_api_Span := rfl
theorem xp_partition_Partition_foreign : XP i_partition_Partition_foreign = some x_partition_Partition_foreign := rfl
theorem xp_slices_DeleteFunc_api_Span_api_Span : XP i_slices_DeleteFunc_api_Span_api_Span = some x_slices_DeleteFunc_api_Span_api_Span := rfl
theorem xp_partition_Partition_Insert_1 : XP i_partition_Partition_Insert_1 = some x_partition_Partition_Insert_1 := rfl
theorem xp_slices_BinarySearchFunc_api_Span_api_Span_api_Span : XP i_slices_BinarySearchFunc_api_Span_api_Span_api_Span = some x_slices_BinarySearchFunc_api_Span_api_Span_api_Span := rfl
theorem xp_slices_Clone_block_Block_block_Block : XP i_slices_Clone_block_Block_block_Block = some x_slices_Clone_block_Block_block_Block := rfl
theorem xp_slices_EqualFunc_api_Span_api_Span_api_Span_api_Span : XP i_slices_EqualFunc_api_Span_api_Span_api_Span_api_Span = some x_slices_EqualFunc_api_Span_api_Span_api_Span_api_Span := rfl
theorem xp_checksum_Chain : XP i_checksum_Chain = some x_checksum_Chain := rfl
theorem xp_partition_records : XP i_partition_records = some x_partition_records := rfl
theorem xp_sleuthlaw31_within : XP i_sleuthlaw31_within = some x_sleuthlaw31_within := rfl
theorem xp_block_Block_Spans : XP i_block_Block_Spans = some x_block_Block_Spans := rfl
theorem xp_block_Block_Len : XP i_block_Block_Len = some x_block_Block_Len := rfl
theorem xp_slices_ContainsFunc_api_Attr_api_Attr : XP i_slices_ContainsFunc_api_Attr_api_Attr = some x_slices_ContainsFunc_api_Attr_api_Attr := rfl
theorem xp_block_Build_1 : XP i_block_Build_1 = some x_block_Build_1 := rfl
theorem xp_block_made : XP i_block_made = some x_block_made := rfl
theorem xp_slices_IndexFunc_api_Span_api_Span : XP i_slices_IndexFunc_api_Span_api_Span = some x_slices_IndexFunc_api_Span_api_Span := rfl
theorem xp_checksum_Link : XP i_checksum_Link = some x_checksum_Link := rfl
theorem xp_block_Block_At : XP i_block_Block_At = some x_block_Block_At := rfl
theorem xp_slices_IndexFunc_api_Attr_api_Attr : XP i_slices_IndexFunc_api_Attr_api_Attr = some x_slices_IndexFunc_api_Attr_api_Attr := rfl
theorem xp_block_copied : XP i_block_copied = some x_block_copied := rfl
theorem xp_checksum_Extend : XP i_checksum_Extend = some x_checksum_Extend := rfl
theorem xp_checksum_Sum : XP i_checksum_Sum = some x_checksum_Sum := rfl
theorem xp_checksum_zeroBit : XP i_checksum_zeroBit = some x_checksum_zeroBit := rfl
end Go.Proofs.Sl
