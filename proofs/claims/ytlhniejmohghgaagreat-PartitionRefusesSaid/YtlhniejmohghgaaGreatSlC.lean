/- The functions of the program are what the evaluator has for them. -/
import Derived.Test.YtlhniejmohghgaaGreatProg
import Derived.Test.YtlhniejmohghgaaGreatSlB
import Derived.Test.YtlhniejmohghgaaGreatSlP
import Derived.Test.YtlhniejmohghgaaGreatSlN
import Derived.Shelf.SlGeneric
import Derived.Ground.SlsfProg
import Derived.Ground.Names8Prog
set_option linter.unusedVariables false
set_option linter.unusedSimpArgs false
set_option linter.unnecessarySimpa false
set_option maxRecDepth 100000
namespace Go.Proofs.Sl
def phiL : List (Option FuncId) := [none, none, none, none, none, none, none, none, none, some 52, some 58, none, none, none, none, none, none, none, none, none, none, none, none, none, none, none, none, none, none, none, some 71, none, none, some 53, some 55, some 149, none, none, none, none, none, none, none, none, none, none, none, some 99, some 206, none, none, none, none, none, none, some 262, none, none, some 208, none, none, none, none, none, none, none, none, none, none, none, none, none, none, none, none, none, some 204, none, none, some 205, some 207, none, none, none, none, none, none, none, none, none, none, none, none, none, none, none, none, none, none, none, none, none, none, none, none, none, none, none, none, none, none, none, none, none, none, none, none, none, none, none, none, none, none, none, none, none, none, none, none, none, none, none, none, none, none, none, none, none, none, none, none, none, none, none, none, none, none, none, none, none, none, none, none, none, none, none, none, some 60, none, none, some 67, none, some 70, none, some 148, none, none, none, none, none, none, some 155, none, none, none, none, none, none, none, none, some 32, some 74, none, none, some 64, none, none, none, none, some 135, some 136, some 137, some 138, some 139, none, some 142, some 143, some 92, some 144, some 145, some 146, some 147, none, none, none, none, none, none, some 199, none, none, none, some 82, some 81, some 141, none, none, some 169, some 200, some 201, some 202, some 203, none, none, some 159, some 156, some 157, some 158, none, some 213, some 214, some 211, some 93, some 212, some 264, none, none, none, none, none, none, none, none, none, none, none, none, none, none, none, none, some 4, none, none, none, none, none, none, none, some 12, none, some 14, none, some 16, none, none, some 19, some 20, some 21, some 22, some 23, some 24, some 25, none, some 28, none, none, none, none, some 35, none, none, none, none, none, none, none, none, none, none, none, none, some 48, some 49, some 50, none, some 54, none, none, none, some 61, some 62, some 63, some 65, some 66, some 68, some 69, some 72, some 73, some 75, some 76, none, none, none, none, none, none, none, none, none, none, none, none, none, none, some 98, some 100, some 101, some 102, none, none, none, none, none, none, none, none, none, none, none, none, none, none, none, none, none, none, none, none, none, none, none, none, none, some 140, some 150, some 151, none, none, none, none, none, none, none, none, none, none, none, some 172, some 173, none, none, none, none, none, none, none, none, none, none, none, none, none, none, none, none, none, none, some 209, some 210, none, none, none, none, none, none, none, none, none, none, none, none, none, none, none, none, none, none, none, none, none, none, none, none, none, none, none, none, none, none, some 263, none, none, none, none, none, none, none, none, none, none, none, none, none, none, none, none, none, none, none, none, none, none, none, none, none, none, none, none, none, none, none, none, none, none, none, none]
def phi : Nat → Option FuncId := fun n => phiL.getD n none
inductive Each (p : Option FuncId → Option XF → Prop) : List (Option FuncId) → List (Option XF) → Prop
  | nil {l : List (Option XF)} : Each p [] l
  | cons {a : Option FuncId} {x : Option XF} {r : List (Option FuncId)} {l : List (Option XF)} (h : p a x) (k : Each p r l) : Each p (a :: r) (x :: l)
theorem Each.get {p : Option FuncId → Option XF → Prop} (h0 : ∀ x, p none x) : ∀ {r : List (Option FuncId)} {l : List (Option XF)}, Each p r l → ∀ f, p (r.getD f none) (l.getD f none)
  | _, _, .nil, f => by simpa using h0 _
  | _, _, .cons h k, 0 => by simpa using h
  | _, _, .cons h k, f + 1 => by simpa using k.get h0 f
def There (id : FuncId) : Prop := ∃ fn : Func, Tryz.prog.funcs[id]? = some fn ∧ (fn.name == "runtime.NumGoroutine") = false ∧ fn.body.isNone = false
theorem th_encoding_Writer_Number : There 52 := ⟨Tryz.f52, Tryz.func52, by kernel_rfl, by kernel_rfl⟩
theorem th_encoding_Writer_Bytes : There 58 := ⟨Tryz.f58, Tryz.func58, by kernel_rfl, by kernel_rfl⟩
theorem th_encoding_EncodeSpan : There 71 := ⟨Tryz.f71, Tryz.func71, by kernel_rfl, by kernel_rfl⟩
theorem th_encoding_Writer_Bool : There 53 := ⟨Tryz.f53, Tryz.func53, by kernel_rfl, by kernel_rfl⟩
theorem th_encoding_Writer_Text : There 55 := ⟨Tryz.f55, Tryz.func55, by kernel_rfl, by kernel_rfl⟩
theorem th_encoding_Writer_Span : There 149 := ⟨Tryz.f149, Tryz.func149, by kernel_rfl, by kernel_rfl⟩
theorem th_encoding_magnitude : There 99 := ⟨Tryz.f99, Tryz.func99, by kernel_rfl, by kernel_rfl⟩
theorem th_encoding_Writer_Attr : There 206 := ⟨Tryz.f206, Tryz.func206, by kernel_rfl, by kernel_rfl⟩
theorem th_encoding_Writer_Value : There 262 := ⟨Tryz.f262, Tryz.func262, by kernel_rfl, by kernel_rfl⟩
theorem th_encoding_Writer_Ref : There 208 := ⟨Tryz.f208, Tryz.func208, by kernel_rfl, by kernel_rfl⟩
theorem th_encoding_Writer_numbers : There 204 := ⟨Tryz.f204, Tryz.func204, by kernel_rfl, by kernel_rfl⟩
theorem th_encoding_list_api_Attr : There 205 := ⟨Tryz.f205, Tryz.func205, by kernel_rfl, by kernel_rfl⟩
theorem th_encoding_list_api_Ref : There 207 := ⟨Tryz.f207, Tryz.func207, by kernel_rfl, by kernel_rfl⟩
theorem th_span_Check : There 60 := ⟨Tryz.f60, Tryz.func60, by kernel_rfl, by kernel_rfl⟩
theorem th_span_Compare : There 67 := ⟨Tryz.f67, Tryz.func67, by kernel_rfl, by kernel_rfl⟩
theorem th_span_Equal : There 70 := ⟨Tryz.f70, Tryz.func70, by kernel_rfl, by kernel_rfl⟩
theorem th_span_CompareRefs : There 148 := ⟨Tryz.f148, Tryz.func148, by kernel_rfl, by kernel_rfl⟩
theorem th_attribute_CheckValue : There 155 := ⟨Tryz.f155, Tryz.func155, by kernel_rfl, by kernel_rfl⟩
theorem th_span_Slot : There 32 := ⟨Tryz.f32, Tryz.func32, by kernel_rfl, by kernel_rfl⟩
theorem th_span_Partition : There 74 := ⟨Tryz.f74, Tryz.func74, by kernel_rfl, by kernel_rfl⟩
theorem th_span_Set : There 64 := ⟨Tryz.f64, Tryz.func64, by kernel_rfl, by kernel_rfl⟩
theorem th_span_badId : There 135 := ⟨Tryz.f135, Tryz.func135, by kernel_rfl, by kernel_rfl⟩
theorem th_attribute_IsName : There 136 := ⟨Tryz.f136, Tryz.func136, by kernel_rfl, by kernel_rfl⟩
theorem th_cmp_Or_api_Errno : There 137 := ⟨Tryz.f137, Tryz.func137, by kernel_rfl, by kernel_rfl⟩
theorem th_attribute_CheckAttrs : There 138 := ⟨Tryz.f138, Tryz.func138, by kernel_rfl, by kernel_rfl⟩
theorem th_span_checkLinks : There 139 := ⟨Tryz.f139, Tryz.func139, by kernel_rfl, by kernel_rfl⟩
theorem th_cmp_Or_int : There 142 := ⟨Tryz.f142, Tryz.func142, by kernel_rfl, by kernel_rfl⟩
theorem th_slices_Compare_int_int : There 143 := ⟨Tryz.f143, Tryz.func143, by kernel_rfl, by kernel_rfl⟩
theorem th_cmp_Compare_string : There 92 := ⟨Tryz.f92, Tryz.func92, by kernel_rfl, by kernel_rfl⟩
theorem th_cmp_Compare_int : There 144 := ⟨Tryz.f144, Tryz.func144, by kernel_rfl, by kernel_rfl⟩
theorem th_span_number : There 145 := ⟨Tryz.f145, Tryz.func145, by kernel_rfl, by kernel_rfl⟩
theorem th_attribute_CompareAttrs : There 146 := ⟨Tryz.f146, Tryz.func146, by kernel_rfl, by kernel_rfl⟩
theorem th_slices_CompareFunc_api_Ref_api_Ref_api_Ref_api_Ref : There 147 := ⟨Tryz.f147, Tryz.func147, by kernel_rfl, by kernel_rfl⟩
theorem th_attribute_within : There 199 := ⟨Tryz.f199, Tryz.func199, by kernel_rfl, by kernel_rfl⟩
theorem th_span_chosen : There 82 := ⟨Tryz.f82, Tryz.func82, by kernel_rfl, by kernel_rfl⟩
theorem th_span_set : There 81 := ⟨Tryz.f81, Tryz.func81, by kernel_rfl, by kernel_rfl⟩
theorem th_span_Set_1 : There 141 := ⟨Tryz.f141, Tryz.func141, by kernel_rfl, by kernel_rfl⟩
theorem th_cmp_isNaN_string : There 169 := ⟨Tryz.f169, Tryz.func169, by kernel_rfl, by kernel_rfl⟩
theorem th_cmp_isNaN_int : There 200 := ⟨Tryz.f200, Tryz.func200, by kernel_rfl, by kernel_rfl⟩
theorem th_slices_CompareFunc_api_Attr_api_Attr_api_Attr_api_Attr : There 201 := ⟨Tryz.f201, Tryz.func201, by kernel_rfl, by kernel_rfl⟩
theorem th_attribute_CompareAttrs_1 : There 202 := ⟨Tryz.f202, Tryz.func202, by kernel_rfl, by kernel_rfl⟩
theorem th_attribute_CompareValues : There 203 := ⟨Tryz.f203, Tryz.func203, by kernel_rfl, by kernel_rfl⟩
theorem th_span_copied : There 159 := ⟨Tryz.f159, Tryz.func159, by kernel_rfl, by kernel_rfl⟩
theorem th_slices_CompactFunc_api_Span_api_Span : There 156 := ⟨Tryz.f156, Tryz.func156, by kernel_rfl, by kernel_rfl⟩
theorem th_slices_SortedFunc_api_Span : There 157 := ⟨Tryz.f157, Tryz.func157, by kernel_rfl, by kernel_rfl⟩
theorem th_slices_Values_api_Span_api_Span : There 158 := ⟨Tryz.f158, Tryz.func158, by kernel_rfl, by kernel_rfl⟩
theorem th_slices_Clone_api_Attr_api_Attr : There 213 := ⟨Tryz.f213, Tryz.func213, by kernel_rfl, by kernel_rfl⟩
theorem th_slices_Clone_api_Ref_api_Ref : There 214 := ⟨Tryz.f214, Tryz.func214, by kernel_rfl, by kernel_rfl⟩
theorem th_slices_Collect_api_Span : There 211 := ⟨Tryz.f211, Tryz.func211, by kernel_rfl, by kernel_rfl⟩
theorem th_slices_SortFunc_api_Span_api_Span : There 93 := ⟨Tryz.f93, Tryz.func93, by kernel_rfl, by kernel_rfl⟩
theorem th_slices_Values_api_Span_api_Span_1 : There 212 := ⟨Tryz.f212, Tryz.func212, by kernel_rfl, by kernel_rfl⟩
theorem th_slices_AppendSeq_api_Span_api_Span : There 264 := ⟨Tryz.f264, Tryz.func264, by kernel_rfl, by kernel_rfl⟩
theorem th_sleuthlaw31_PartitionRefuses : There 4 := ⟨Tryz.f4, Tryz.func4, by kernel_rfl, by kernel_rfl⟩
theorem th_sleuthlaw31_known : There 12 := ⟨Tryz.f12, Tryz.func12, by kernel_rfl, by kernel_rfl⟩
theorem th_partition_New : There 14 := ⟨Tryz.f14, Tryz.func14, by kernel_rfl, by kernel_rfl⟩
theorem th_partition_Partition_Insert : There 16 := ⟨Tryz.f16, Tryz.func16, by kernel_rfl, by kernel_rfl⟩
theorem th_partition_Partition_Merge : There 19 := ⟨Tryz.f19, Tryz.func19, by kernel_rfl, by kernel_rfl⟩
theorem th_partition_Partition_Equal : There 20 := ⟨Tryz.f20, Tryz.func20, by kernel_rfl, by kernel_rfl⟩
theorem th_partition_Partition_Digest : There 21 := ⟨Tryz.f21, Tryz.func21, by kernel_rfl, by kernel_rfl⟩
theorem th_partition_Partition_Records : There 22 := ⟨Tryz.f22, Tryz.func22, by kernel_rfl, by kernel_rfl⟩
theorem th_sleuthlaw31_state_insert : There 23 := ⟨Tryz.f23, Tryz.func23, by kernel_rfl, by kernel_rfl⟩
theorem th_sleuthlaw31_record : There 24 := ⟨Tryz.f24, Tryz.func24, by kernel_rfl, by kernel_rfl⟩
theorem th_sleuthlaw31_state_agrees : There 25 := ⟨Tryz.f25, Tryz.func25, by kernel_rfl, by kernel_rfl⟩
theorem th_sleuthlaw31_same : There 28 := ⟨Tryz.f28, Tryz.func28, by kernel_rfl, by kernel_rfl⟩
theorem th_sleuthlaw31_state_records : There 35 := ⟨Tryz.f35, Tryz.func35, by kernel_rfl, by kernel_rfl⟩
theorem th_partition_Partition_Sealed : There 48 := ⟨Tryz.f48, Tryz.func48, by kernel_rfl, by kernel_rfl⟩
theorem th_partition_Partition_Number : There 49 := ⟨Tryz.f49, Tryz.func49, by kernel_rfl, by kernel_rfl⟩
theorem th_partition_Partition_Blocks : There 50 := ⟨Tryz.f50, Tryz.func50, by kernel_rfl, by kernel_rfl⟩
theorem th_block_Build : There 54 := ⟨Tryz.f54, Tryz.func54, by kernel_rfl, by kernel_rfl⟩
theorem th_slices_ContainsFunc_api_Span_api_Span : There 61 := ⟨Tryz.f61, Tryz.func61, by kernel_rfl, by kernel_rfl⟩
theorem th_partition_Partition_foreign : There 62 := ⟨Tryz.f62, Tryz.func62, by kernel_rfl, by kernel_rfl⟩
theorem th_slices_DeleteFunc_api_Span_api_Span : There 63 := ⟨Tryz.f63, Tryz.func63, by kernel_rfl, by kernel_rfl⟩
theorem th_partition_Partition_Insert_1 : There 65 := ⟨Tryz.f65, Tryz.func65, by kernel_rfl, by kernel_rfl⟩
theorem th_slices_BinarySearchFunc_api_Span_api_Span_api_Span : There 66 := ⟨Tryz.f66, Tryz.func66, by kernel_rfl, by kernel_rfl⟩
theorem th_slices_Clone_block_Block_block_Block : There 68 := ⟨Tryz.f68, Tryz.func68, by kernel_rfl, by kernel_rfl⟩
theorem th_slices_EqualFunc_api_Span_api_Span_api_Span_api_Span : There 69 := ⟨Tryz.f69, Tryz.func69, by kernel_rfl, by kernel_rfl⟩
theorem th_checksum_Chain : There 72 := ⟨Tryz.f72, Tryz.func72, by kernel_rfl, by kernel_rfl⟩
theorem th_partition_records : There 73 := ⟨Tryz.f73, Tryz.func73, by kernel_rfl, by kernel_rfl⟩
theorem th_sleuthlaw31_within : There 75 := ⟨Tryz.f75, Tryz.func75, by kernel_rfl, by kernel_rfl⟩
theorem th_block_Block_Spans : There 76 := ⟨Tryz.f76, Tryz.func76, by kernel_rfl, by kernel_rfl⟩
theorem th_block_Block_Len : There 98 := ⟨Tryz.f98, Tryz.func98, by kernel_rfl, by kernel_rfl⟩
theorem th_slices_ContainsFunc_api_Attr_api_Attr : There 100 := ⟨Tryz.f100, Tryz.func100, by kernel_rfl, by kernel_rfl⟩
theorem th_block_Build_1 : There 101 := ⟨Tryz.f101, Tryz.func101, by kernel_rfl, by kernel_rfl⟩
theorem th_block_made : There 102 := ⟨Tryz.f102, Tryz.func102, by kernel_rfl, by kernel_rfl⟩
theorem th_slices_IndexFunc_api_Span_api_Span : There 140 := ⟨Tryz.f140, Tryz.func140, by kernel_rfl, by kernel_rfl⟩
theorem th_checksum_Link : There 150 := ⟨Tryz.f150, Tryz.func150, by kernel_rfl, by kernel_rfl⟩
theorem th_block_Block_At : There 151 := ⟨Tryz.f151, Tryz.func151, by kernel_rfl, by kernel_rfl⟩
theorem th_slices_IndexFunc_api_Attr_api_Attr : There 172 := ⟨Tryz.f172, Tryz.func172, by kernel_rfl, by kernel_rfl⟩
theorem th_block_copied : There 173 := ⟨Tryz.f173, Tryz.func173, by kernel_rfl, by kernel_rfl⟩
theorem th_checksum_Extend : There 209 := ⟨Tryz.f209, Tryz.func209, by kernel_rfl, by kernel_rfl⟩
theorem th_checksum_Sum : There 210 := ⟨Tryz.f210, Tryz.func210, by kernel_rfl, by kernel_rfl⟩
theorem th_checksum_zeroBit : There 263 := ⟨Tryz.f263, Tryz.func263, by kernel_rfl, by kernel_rfl⟩
def FitT (a : Option FuncId) (_ : Option XF) : Prop := ∀ id, a = some id → There id
theorem FitT.of {id : FuncId} {x : Option XF} (t : There id) : FitT (some id) x := fun _ h => by cases h; exact t
theorem FitT.none (x : Option XF) : FitT Option.none x := fun _ h => by cases h
theorem eachT : Each FitT phiL XPL :=
  .cons (.none _) <|
  .cons (.none _) <|
  .cons (.none _) <|
  .cons (.none _) <|
  .cons (.none _) <|
  .cons (.none _) <|
  .cons (.none _) <|
  .cons (.none _) <|
  .cons (.none _) <|
  .cons (.of th_encoding_Writer_Number) <|
  .cons (.of th_encoding_Writer_Bytes) <|
  .cons (.none _) <|
  .cons (.none _) <|
  .cons (.none _) <|
  .cons (.none _) <|
  .cons (.none _) <|
  .cons (.none _) <|
  .cons (.none _) <|
  .cons (.none _) <|
  .cons (.none _) <|
  .cons (.none _) <|
  .cons (.none _) <|
  .cons (.none _) <|
  .cons (.none _) <|
  .cons (.none _) <|
  .cons (.none _) <|
  .cons (.none _) <|
  .cons (.none _) <|
  .cons (.none _) <|
  .cons (.none _) <|
  .cons (.of th_encoding_EncodeSpan) <|
  .cons (.none _) <|
  .cons (.none _) <|
  .cons (.of th_encoding_Writer_Bool) <|
  .cons (.of th_encoding_Writer_Text) <|
  .cons (.of th_encoding_Writer_Span) <|
  .cons (.none _) <|
  .cons (.none _) <|
  .cons (.none _) <|
  .cons (.none _) <|
  .cons (.none _) <|
  .cons (.none _) <|
  .cons (.none _) <|
  .cons (.none _) <|
  .cons (.none _) <|
  .cons (.none _) <|
  .cons (.none _) <|
  .cons (.of th_encoding_magnitude) <|
  .cons (.of th_encoding_Writer_Attr) <|
  .cons (.none _) <|
  .cons (.none _) <|
  .cons (.none _) <|
  .cons (.none _) <|
  .cons (.none _) <|
  .cons (.none _) <|
  .cons (.of th_encoding_Writer_Value) <|
  .cons (.none _) <|
  .cons (.none _) <|
  .cons (.of th_encoding_Writer_Ref) <|
  .cons (.none _) <|
  .cons (.none _) <|
  .cons (.none _) <|
  .cons (.none _) <|
  .cons (.none _) <|
  .cons (.none _) <|
  .cons (.none _) <|
  .cons (.none _) <|
  .cons (.none _) <|
  .cons (.none _) <|
  .cons (.none _) <|
  .cons (.none _) <|
  .cons (.none _) <|
  .cons (.none _) <|
  .cons (.none _) <|
  .cons (.none _) <|
  .cons (.none _) <|
  .cons (.of th_encoding_Writer_numbers) <|
  .cons (.none _) <|
  .cons (.none _) <|
  .cons (.of th_encoding_list_api_Attr) <|
  .cons (.of th_encoding_list_api_Ref) <|
  .cons (.none _) <|
  .cons (.none _) <|
  .cons (.none _) <|
  .cons (.none _) <|
  .cons (.none _) <|
  .cons (.none _) <|
  .cons (.none _) <|
  .cons (.none _) <|
  .cons (.none _) <|
  .cons (.none _) <|
  .cons (.none _) <|
  .cons (.none _) <|
  .cons (.none _) <|
  .cons (.none _) <|
  .cons (.none _) <|
  .cons (.none _) <|
  .cons (.none _) <|
  .cons (.none _) <|
  .cons (.none _) <|
  .cons (.none _) <|
  .cons (.none _) <|
  .cons (.none _) <|
  .cons (.none _) <|
  .cons (.none _) <|
  .cons (.none _) <|
  .cons (.none _) <|
  .cons (.none _) <|
  .cons (.none _) <|
  .cons (.none _) <|
  .cons (.none _) <|
  .cons (.none _) <|
  .cons (.none _) <|
  .cons (.none _) <|
  .cons (.none _) <|
  .cons (.none _) <|
  .cons (.none _) <|
  .cons (.none _) <|
  .cons (.none _) <|
  .cons (.none _) <|
  .cons (.none _) <|
  .cons (.none _) <|
  .cons (.none _) <|
  .cons (.none _) <|
  .cons (.none _) <|
  .cons (.none _) <|
  .cons (.none _) <|
  .cons (.none _) <|
  .cons (.none _) <|
  .cons (.none _) <|
  .cons (.none _) <|
  .cons (.none _) <|
  .cons (.none _) <|
  .cons (.none _) <|
  .cons (.none _) <|
  .cons (.none _) <|
  .cons (.none _) <|
  .cons (.none _) <|
  .cons (.none _) <|
  .cons (.none _) <|
  .cons (.none _) <|
  .cons (.none _) <|
  .cons (.none _) <|
  .cons (.none _) <|
  .cons (.none _) <|
  .cons (.none _) <|
  .cons (.none _) <|
  .cons (.none _) <|
  .cons (.none _) <|
  .cons (.none _) <|
  .cons (.none _) <|
  .cons (.none _) <|
  .cons (.none _) <|
  .cons (.none _) <|
  .cons (.none _) <|
  .cons (.none _) <|
  .cons (.none _) <|
  .cons (.of th_span_Check) <|
  .cons (.none _) <|
  .cons (.none _) <|
  .cons (.of th_span_Compare) <|
  .cons (.none _) <|
  .cons (.of th_span_Equal) <|
  .cons (.none _) <|
  .cons (.of th_span_CompareRefs) <|
  .cons (.none _) <|
  .cons (.none _) <|
  .cons (.none _) <|
  .cons (.none _) <|
  .cons (.none _) <|
  .cons (.none _) <|
  .cons (.of th_attribute_CheckValue) <|
  .cons (.none _) <|
  .cons (.none _) <|
  .cons (.none _) <|
  .cons (.none _) <|
  .cons (.none _) <|
  .cons (.none _) <|
  .cons (.none _) <|
  .cons (.none _) <|
  .cons (.of th_span_Slot) <|
  .cons (.of th_span_Partition) <|
  .cons (.none _) <|
  .cons (.none _) <|
  .cons (.of th_span_Set) <|
  .cons (.none _) <|
  .cons (.none _) <|
  .cons (.none _) <|
  .cons (.none _) <|
  .cons (.of th_span_badId) <|
  .cons (.of th_attribute_IsName) <|
  .cons (.of th_cmp_Or_api_Errno) <|
  .cons (.of th_attribute_CheckAttrs) <|
  .cons (.of th_span_checkLinks) <|
  .cons (.none _) <|
  .cons (.of th_cmp_Or_int) <|
  .cons (.of th_slices_Compare_int_int) <|
  .cons (.of th_cmp_Compare_string) <|
  .cons (.of th_cmp_Compare_int) <|
  .cons (.of th_span_number) <|
  .cons (.of th_attribute_CompareAttrs) <|
  .cons (.of th_slices_CompareFunc_api_Ref_api_Ref_api_Ref_api_Ref) <|
  .cons (.none _) <|
  .cons (.none _) <|
  .cons (.none _) <|
  .cons (.none _) <|
  .cons (.none _) <|
  .cons (.none _) <|
  .cons (.of th_attribute_within) <|
  .cons (.none _) <|
  .cons (.none _) <|
  .cons (.none _) <|
  .cons (.of th_span_chosen) <|
  .cons (.of th_span_set) <|
  .cons (.of th_span_Set_1) <|
  .cons (.none _) <|
  .cons (.none _) <|
  .cons (.of th_cmp_isNaN_string) <|
  .cons (.of th_cmp_isNaN_int) <|
  .cons (.of th_slices_CompareFunc_api_Attr_api_Attr_api_Attr_api_Attr) <|
  .cons (.of th_attribute_CompareAttrs_1) <|
  .cons (.of th_attribute_CompareValues) <|
  .cons (.none _) <|
  .cons (.none _) <|
  .cons (.of th_span_copied) <|
  .cons (.of th_slices_CompactFunc_api_Span_api_Span) <|
  .cons (.of th_slices_SortedFunc_api_Span) <|
  .cons (.of th_slices_Values_api_Span_api_Span) <|
  .cons (.none _) <|
  .cons (.of th_slices_Clone_api_Attr_api_Attr) <|
  .cons (.of th_slices_Clone_api_Ref_api_Ref) <|
  .cons (.of th_slices_Collect_api_Span) <|
  .cons (.of th_slices_SortFunc_api_Span_api_Span) <|
  .cons (.of th_slices_Values_api_Span_api_Span_1) <|
  .cons (.of th_slices_AppendSeq_api_Span_api_Span) <|
  .cons (.none _) <|
  .cons (.none _) <|
  .cons (.none _) <|
  .cons (.none _) <|
  .cons (.none _) <|
  .cons (.none _) <|
  .cons (.none _) <|
  .cons (.none _) <|
  .cons (.none _) <|
  .cons (.none _) <|
  .cons (.none _) <|
  .cons (.none _) <|
  .cons (.none _) <|
  .cons (.none _) <|
  .cons (.none _) <|
  .cons (.none _) <|
  .cons (.of th_sleuthlaw31_PartitionRefuses) <|
  .cons (.none _) <|
  .cons (.none _) <|
  .cons (.none _) <|
  .cons (.none _) <|
  .cons (.none _) <|
  .cons (.none _) <|
  .cons (.none _) <|
  .cons (.of th_sleuthlaw31_known) <|
  .cons (.none _) <|
  .cons (.of th_partition_New) <|
  .cons (.none _) <|
  .cons (.of th_partition_Partition_Insert) <|
  .cons (.none _) <|
  .cons (.none _) <|
  .cons (.of th_partition_Partition_Merge) <|
  .cons (.of th_partition_Partition_Equal) <|
  .cons (.of th_partition_Partition_Digest) <|
  .cons (.of th_partition_Partition_Records) <|
  .cons (.of th_sleuthlaw31_state_insert) <|
  .cons (.of th_sleuthlaw31_record) <|
  .cons (.of th_sleuthlaw31_state_agrees) <|
  .cons (.none _) <|
  .cons (.of th_sleuthlaw31_same) <|
  .cons (.none _) <|
  .cons (.none _) <|
  .cons (.none _) <|
  .cons (.none _) <|
  .cons (.of th_sleuthlaw31_state_records) <|
  .cons (.none _) <|
  .cons (.none _) <|
  .cons (.none _) <|
  .cons (.none _) <|
  .cons (.none _) <|
  .cons (.none _) <|
  .cons (.none _) <|
  .cons (.none _) <|
  .cons (.none _) <|
  .cons (.none _) <|
  .cons (.none _) <|
  .cons (.none _) <|
  .cons (.of th_partition_Partition_Sealed) <|
  .cons (.of th_partition_Partition_Number) <|
  .cons (.of th_partition_Partition_Blocks) <|
  .cons (.none _) <|
  .cons (.of th_block_Build) <|
  .cons (.none _) <|
  .cons (.none _) <|
  .cons (.none _) <|
  .cons (.of th_slices_ContainsFunc_api_Span_api_Span) <|
  .cons (.of th_partition_Partition_foreign) <|
  .cons (.of th_slices_DeleteFunc_api_Span_api_Span) <|
  .cons (.of th_partition_Partition_Insert_1) <|
  .cons (.of th_slices_BinarySearchFunc_api_Span_api_Span_api_Span) <|
  .cons (.of th_slices_Clone_block_Block_block_Block) <|
  .cons (.of th_slices_EqualFunc_api_Span_api_Span_api_Span_api_Span) <|
  .cons (.of th_checksum_Chain) <|
  .cons (.of th_partition_records) <|
  .cons (.of th_sleuthlaw31_within) <|
  .cons (.of th_block_Block_Spans) <|
  .cons (.none _) <|
  .cons (.none _) <|
  .cons (.none _) <|
  .cons (.none _) <|
  .cons (.none _) <|
  .cons (.none _) <|
  .cons (.none _) <|
  .cons (.none _) <|
  .cons (.none _) <|
  .cons (.none _) <|
  .cons (.none _) <|
  .cons (.none _) <|
  .cons (.none _) <|
  .cons (.none _) <|
  .cons (.of th_block_Block_Len) <|
  .cons (.of th_slices_ContainsFunc_api_Attr_api_Attr) <|
  .cons (.of th_block_Build_1) <|
  .cons (.of th_block_made) <|
  .cons (.none _) <|
  .cons (.none _) <|
  .cons (.none _) <|
  .cons (.none _) <|
  .cons (.none _) <|
  .cons (.none _) <|
  .cons (.none _) <|
  .cons (.none _) <|
  .cons (.none _) <|
  .cons (.none _) <|
  .cons (.none _) <|
  .cons (.none _) <|
  .cons (.none _) <|
  .cons (.none _) <|
  .cons (.none _) <|
  .cons (.none _) <|
  .cons (.none _) <|
  .cons (.none _) <|
  .cons (.none _) <|
  .cons (.none _) <|
  .cons (.none _) <|
  .cons (.none _) <|
  .cons (.none _) <|
  .cons (.none _) <|
  .cons (.none _) <|
  .cons (.of th_slices_IndexFunc_api_Span_api_Span) <|
  .cons (.of th_checksum_Link) <|
  .cons (.of th_block_Block_At) <|
  .cons (.none _) <|
  .cons (.none _) <|
  .cons (.none _) <|
  .cons (.none _) <|
  .cons (.none _) <|
  .cons (.none _) <|
  .cons (.none _) <|
  .cons (.none _) <|
  .cons (.none _) <|
  .cons (.none _) <|
  .cons (.none _) <|
  .cons (.of th_slices_IndexFunc_api_Attr_api_Attr) <|
  .cons (.of th_block_copied) <|
  .cons (.none _) <|
  .cons (.none _) <|
  .cons (.none _) <|
  .cons (.none _) <|
  .cons (.none _) <|
  .cons (.none _) <|
  .cons (.none _) <|
  .cons (.none _) <|
  .cons (.none _) <|
  .cons (.none _) <|
  .cons (.none _) <|
  .cons (.none _) <|
  .cons (.none _) <|
  .cons (.none _) <|
  .cons (.none _) <|
  .cons (.none _) <|
  .cons (.none _) <|
  .cons (.none _) <|
  .cons (.of th_checksum_Extend) <|
  .cons (.of th_checksum_Sum) <|
  .cons (.none _) <|
  .cons (.none _) <|
  .cons (.none _) <|
  .cons (.none _) <|
  .cons (.none _) <|
  .cons (.none _) <|
  .cons (.none _) <|
  .cons (.none _) <|
  .cons (.none _) <|
  .cons (.none _) <|
  .cons (.none _) <|
  .cons (.none _) <|
  .cons (.none _) <|
  .cons (.none _) <|
  .cons (.none _) <|
  .cons (.none _) <|
  .cons (.none _) <|
  .cons (.none _) <|
  .cons (.none _) <|
  .cons (.none _) <|
  .cons (.none _) <|
  .cons (.none _) <|
  .cons (.none _) <|
  .cons (.none _) <|
  .cons (.none _) <|
  .cons (.none _) <|
  .cons (.none _) <|
  .cons (.none _) <|
  .cons (.none _) <|
  .cons (.none _) <|
  .cons (.of th_checksum_zeroBit) <|
  .cons (.none _) <|
  .cons (.none _) <|
  .cons (.none _) <|
  .cons (.none _) <|
  .cons (.none _) <|
  .cons (.none _) <|
  .cons (.none _) <|
  .cons (.none _) <|
  .cons (.none _) <|
  .cons (.none _) <|
  .cons (.none _) <|
  .cons (.none _) <|
  .cons (.none _) <|
  .cons (.none _) <|
  .cons (.none _) <|
  .cons (.none _) <|
  .cons (.none _) <|
  .cons (.none _) <|
  .cons (.none _) <|
  .cons (.none _) <|
  .cons (.none _) <|
  .cons (.none _) <|
  .cons (.none _) <|
  .cons (.none _) <|
  .cons (.none _) <|
  .cons (.none _) <|
  .cons (.none _) <|
  .cons (.none _) <|
  .cons (.none _) <|
  .cons (.none _) <|
  .cons (.none _) <|
  .cons (.none _) <|
  .cons (.none _) <|
  .cons (.none _) <|
  .cons (.none _) <|
  .cons (.none _) <| .nil
theorem tok : TOk Tryz.prog phi := fun f id h => (eachT.get FitT.none f) id h
end Go.Proofs.Sl
namespace Go.Proofs
open Go.Shelf
shelf_lay_g SlLaysF0.n6 Slsf 6 at Tryz 93 as Tryz.sortSpan
shelf_lay_g Lays8.n4 Nm8 4 at Tryz 153 as Tryz.growSpan
end Go.Proofs
namespace Go.Proofs.Sl
def zSpan : List V := [.s (.int .i64 0), .s (.int .i64 0), .s (.int .i64 0), .s (.int .i64 0), .s (.int .i64 0), .s (.int .i64 0), .s (.string ⟨#[]⟩), .s (.string ⟨#[]⟩), .s (.string ⟨#[]⟩), .s (.int .i64 0), .s (.int .i64 0), .s (.bool false), .s (.slice none 0 0), .s (.slice none 0 0)]
theorem zSpan_plain : plainZ zSpan := by
  intro i x e
  have : ∀ v ∈ zSpan, v.tl = none := by
    intro v hv
    simp only [zSpan, List.mem_cons, List.not_mem_nil, or_false] at hv
    rcases hv with rfl | rfl | rfl | rfl | rfl | rfl | rfl | rfl | rfl | rfl | rfl | rfl | rfl | rfl <;> rfl
  exact this x (List.mem_of_getElem? e)
theorem nk_slices_SortFunc_api_Span_api_Span : NatOk Tryz.prog phi 93 (.sort 14) := natSort (sortSpec Tryz.sortSpan 14 Tryz.isAgg52 Tryz.sizeOf52) (sortNil Tryz.sortSpan) tok
theorem nk_slices_AppendSeq_api_Span_api_Span : NatOk Tryz.prog phi 264 (.seq i_slices_Values_api_Span_api_Span_1 14 837723144972) :=
  natSeq (φ := phi) (it := i_slices_Values_api_Span_api_Span_1) (vid := 212) (lim := 837723144972) (k := 14) Tryz.func264 Tryz.func212 rfl (by kernel_rfl) (by kernel_rfl) (z := zSpan) rfl zSpan_plain (by decide) tok
def zSpanM : Value := .agg #[.int .i64 0, .int .i64 0, .int .i64 0, .int .i64 0, .int .i64 0, .int .i64 0, .string ⟨#[]⟩, .string ⟨#[]⟩, .string ⟨#[]⟩, .int .i64 0, .int .i64 0, .bool false, .slice none 0 0, .slice none 0 0]
theorem infoSpan : (Tryz.prog.info? 52).map (fun i => (i.zero, i.size, i.bytes)) = some (some zSpanM, 14, 168) := by kernel_rfl
theorem ck_encoding_Writer_Number : chkFun Tryz.prog phi Tryz.f52 x_encoding_Writer_Number = true := by kernel_rfl
theorem ck_encoding_Writer_Bytes : chkFun Tryz.prog phi Tryz.f58 x_encoding_Writer_Bytes = true := by kernel_rfl
theorem ck_encoding_EncodeSpan : chkFun Tryz.prog phi Tryz.f71 x_encoding_EncodeSpan = true := by kernel_rfl
theorem ck_encoding_Writer_Bool : chkFun Tryz.prog phi Tryz.f53 x_encoding_Writer_Bool = true := by kernel_rfl
theorem ck_encoding_Writer_Text : chkFun Tryz.prog phi Tryz.f55 x_encoding_Writer_Text = true := by kernel_rfl
theorem ck_encoding_Writer_Span : chkFun Tryz.prog phi Tryz.f149 x_encoding_Writer_Span = true := by kernel_rfl
theorem ck_encoding_magnitude : chkFun Tryz.prog phi Tryz.f99 x_encoding_magnitude = true := by kernel_rfl
theorem ck_encoding_Writer_Attr : chkFun Tryz.prog phi Tryz.f206 x_encoding_Writer_Attr = true := by kernel_rfl
theorem ck_encoding_Writer_Value : chkFun Tryz.prog phi Tryz.f262 x_encoding_Writer_Value = true := by kernel_rfl
theorem ck_encoding_Writer_Ref : chkFun Tryz.prog phi Tryz.f208 x_encoding_Writer_Ref = true := by kernel_rfl
theorem ck_encoding_Writer_numbers : chkFun Tryz.prog phi Tryz.f204 x_encoding_Writer_numbers = true := by kernel_rfl
theorem ck_encoding_list_api_Attr : chkFun Tryz.prog phi Tryz.f205 x_encoding_list_api_Attr = true := by kernel_rfl
theorem ck_encoding_list_api_Ref : chkFun Tryz.prog phi Tryz.f207 x_encoding_list_api_Ref = true := by kernel_rfl
theorem ck_span_Check : chkFun Tryz.prog phi Tryz.f60 x_span_Check = true := by kernel_rfl
theorem ck_span_Compare : chkFun Tryz.prog phi Tryz.f67 x_span_Compare = true := by kernel_rfl
theorem ck_span_Equal : chkFun Tryz.prog phi Tryz.f70 x_span_Equal = true := by kernel_rfl
theorem ck_span_CompareRefs : chkFun Tryz.prog phi Tryz.f148 x_span_CompareRefs = true := by kernel_rfl
theorem ck_attribute_CheckValue : chkFun Tryz.prog phi Tryz.f155 x_attribute_CheckValue = true := by kernel_rfl
theorem ck_span_Slot : chkFun Tryz.prog phi Tryz.f32 x_span_Slot = true := by kernel_rfl
theorem ck_span_Partition : chkFun Tryz.prog phi Tryz.f74 x_span_Partition = true := by kernel_rfl
theorem ck_span_Set : chkFun Tryz.prog phi Tryz.f64 x_span_Set = true := by kernel_rfl
theorem ck_span_badId : chkFun Tryz.prog phi Tryz.f135 x_span_badId = true := by kernel_rfl
theorem ck_attribute_IsName : chkFun Tryz.prog phi Tryz.f136 x_attribute_IsName = true := by kernel_rfl
theorem ck_cmp_Or_api_Errno : chkFun Tryz.prog phi Tryz.f137 x_cmp_Or_api_Errno = true := by kernel_rfl
theorem ck_attribute_CheckAttrs : chkFun Tryz.prog phi Tryz.f138 x_attribute_CheckAttrs = true := by kernel_rfl
theorem ck_span_checkLinks : chkFun Tryz.prog phi Tryz.f139 x_span_checkLinks = true := by kernel_rfl
theorem ck_cmp_Or_int : chkFun Tryz.prog phi Tryz.f142 x_cmp_Or_int = true := by kernel_rfl
theorem ck_slices_Compare_int_int : chkFun Tryz.prog phi Tryz.f143 x_slices_Compare_int_int = true := by kernel_rfl
theorem ck_cmp_Compare_string : chkFun Tryz.prog phi Tryz.f92 x_cmp_Compare_string = true := by kernel_rfl
theorem ck_cmp_Compare_int : chkFun Tryz.prog phi Tryz.f144 x_cmp_Compare_int = true := by kernel_rfl
theorem ck_span_number : chkFun Tryz.prog phi Tryz.f145 x_span_number = true := by kernel_rfl
theorem ck_attribute_CompareAttrs : chkFun Tryz.prog phi Tryz.f146 x_attribute_CompareAttrs = true := by kernel_rfl
theorem ck_slices_CompareFunc_api_Ref_api_Ref_api_Ref_api_Ref : chkFun Tryz.prog phi Tryz.f147 x_slices_CompareFunc_api_Ref_api_Ref_api_Ref_api_Ref = true := by kernel_rfl
theorem ck_attribute_within : chkFun Tryz.prog phi Tryz.f199 x_attribute_within = true := by kernel_rfl
theorem ck_span_chosen : chkFun Tryz.prog phi Tryz.f82 x_span_chosen = true := by kernel_rfl
theorem ck_span_set : chkFun Tryz.prog phi Tryz.f81 x_span_set = true := by kernel_rfl
theorem ck_span_Set_1 : chkFun Tryz.prog phi Tryz.f141 x_span_Set_1 = true := by kernel_rfl
theorem ck_cmp_isNaN_string : chkFun Tryz.prog phi Tryz.f169 x_cmp_isNaN_string = true := by kernel_rfl
theorem ck_cmp_isNaN_int : chkFun Tryz.prog phi Tryz.f200 x_cmp_isNaN_int = true := by kernel_rfl
theorem ck_slices_CompareFunc_api_Attr_api_Attr_api_Attr_api_Attr : chkFun Tryz.prog phi Tryz.f201 x_slices_CompareFunc_api_Attr_api_Attr_api_Attr_api_Attr = true := by kernel_rfl
theorem ck_attribute_CompareAttrs_1 : chkFun Tryz.prog phi Tryz.f202 x_attribute_CompareAttrs_1 = true := by kernel_rfl
theorem ck_attribute_CompareValues : chkFun Tryz.prog phi Tryz.f203 x_attribute_CompareValues = true := by kernel_rfl
theorem ck_span_copied : chkFun Tryz.prog phi Tryz.f159 x_span_copied = true := by kernel_rfl
theorem ck_slices_CompactFunc_api_Span_api_Span : chkFun Tryz.prog phi Tryz.f156 x_slices_CompactFunc_api_Span_api_Span = true := by kernel_rfl
theorem ck_slices_SortedFunc_api_Span : chkFun Tryz.prog phi Tryz.f157 x_slices_SortedFunc_api_Span = true := by kernel_rfl
theorem ck_slices_Values_api_Span_api_Span : chkFun Tryz.prog phi Tryz.f158 x_slices_Values_api_Span_api_Span = true := by kernel_rfl
theorem ck_slices_Clone_api_Attr_api_Attr : chkFun Tryz.prog phi Tryz.f213 x_slices_Clone_api_Attr_api_Attr = true := by kernel_rfl
theorem ck_slices_Clone_api_Ref_api_Ref : chkFun Tryz.prog phi Tryz.f214 x_slices_Clone_api_Ref_api_Ref = true := by kernel_rfl
theorem ck_slices_Collect_api_Span : chkFun Tryz.prog phi Tryz.f211 x_slices_Collect_api_Span = true := by kernel_rfl
theorem ck_slices_Values_api_Span_api_Span_1 : chkFun Tryz.prog phi Tryz.f212 x_slices_Values_api_Span_api_Span_1 = true := by kernel_rfl
theorem ck_sleuthlaw31_PartitionRefuses : chkFun Tryz.prog phi Tryz.f4 x_sleuthlaw31_PartitionRefuses = true := by kernel_rfl
theorem ck_sleuthlaw31_known : chkFun Tryz.prog phi Tryz.f12 x_sleuthlaw31_known = true := by kernel_rfl
theorem ck_partition_New : chkFun Tryz.prog phi Tryz.f14 x_partition_New = true := by kernel_rfl
theorem ck_partition_Partition_Insert : chkFun Tryz.prog phi Tryz.f16 x_partition_Partition_Insert = true := by kernel_rfl
theorem ck_partition_Partition_Merge : chkFun Tryz.prog phi Tryz.f19 x_partition_Partition_Merge = true := by kernel_rfl
theorem ck_partition_Partition_Equal : chkFun Tryz.prog phi Tryz.f20 x_partition_Partition_Equal = true := by kernel_rfl
theorem ck_partition_Partition_Digest : chkFun Tryz.prog phi Tryz.f21 x_partition_Partition_Digest = true := by kernel_rfl
theorem ck_partition_Partition_Records : chkFun Tryz.prog phi Tryz.f22 x_partition_Partition_Records = true := by kernel_rfl
theorem ck_sleuthlaw31_state_insert : chkFun Tryz.prog phi Tryz.f23 x_sleuthlaw31_state_insert = true := by kernel_rfl
theorem ck_sleuthlaw31_record : chkFun Tryz.prog phi Tryz.f24 x_sleuthlaw31_record = true := by kernel_rfl
theorem ck_sleuthlaw31_state_agrees : chkFun Tryz.prog phi Tryz.f25 x_sleuthlaw31_state_agrees = true := by kernel_rfl
theorem ck_sleuthlaw31_same : chkFun Tryz.prog phi Tryz.f28 x_sleuthlaw31_same = true := by kernel_rfl
theorem ck_sleuthlaw31_state_records : chkFun Tryz.prog phi Tryz.f35 x_sleuthlaw31_state_records = true := by kernel_rfl
theorem ck_partition_Partition_Sealed : chkFun Tryz.prog phi Tryz.f48 x_partition_Partition_Sealed = true := by kernel_rfl
theorem ck_partition_Partition_Number : chkFun Tryz.prog phi Tryz.f49 x_partition_Partition_Number = true := by kernel_rfl
theorem ck_partition_Partition_Blocks : chkFun Tryz.prog phi Tryz.f50 x_partition_Partition_Blocks = true := by kernel_rfl
theorem ck_block_Build : chkFun Tryz.prog phi Tryz.f54 x_block_Build = true := by kernel_rfl
theorem ck_slices_ContainsFunc_api_Span_api_Span : chkFun Tryz.prog phi Tryz.f61 x_slices_ContainsFunc_api_Span_api_Span = true := by kernel_rfl
theorem ck_partition_Partition_foreign : chkFun Tryz.prog phi Tryz.f62 x_partition_Partition_foreign = true := by kernel_rfl
theorem ck_slices_DeleteFunc_api_Span_api_Span : chkFun Tryz.prog phi Tryz.f63 x_slices_DeleteFunc_api_Span_api_Span = true := by kernel_rfl
theorem ck_partition_Partition_Insert_1 : chkFun Tryz.prog phi Tryz.f65 x_partition_Partition_Insert_1 = true := by kernel_rfl
theorem ck_slices_BinarySearchFunc_api_Span_api_Span_api_Span : chkFun Tryz.prog phi Tryz.f66 x_slices_BinarySearchFunc_api_Span_api_Span_api_Span = true := by kernel_rfl
theorem ck_slices_Clone_block_Block_block_Block : chkFun Tryz.prog phi Tryz.f68 x_slices_Clone_block_Block_block_Block = true := by kernel_rfl
theorem ck_slices_EqualFunc_api_Span_api_Span_api_Span_api_Span : chkFun Tryz.prog phi Tryz.f69 x_slices_EqualFunc_api_Span_api_Span_api_Span_api_Span = true := by kernel_rfl
theorem ck_checksum_Chain : chkFun Tryz.prog phi Tryz.f72 x_checksum_Chain = true := by kernel_rfl
theorem ck_partition_records : chkFun Tryz.prog phi Tryz.f73 x_partition_records = true := by kernel_rfl
theorem ck_sleuthlaw31_within : chkFun Tryz.prog phi Tryz.f75 x_sleuthlaw31_within = true := by kernel_rfl
theorem ck_block_Block_Spans : chkFun Tryz.prog phi Tryz.f76 x_block_Block_Spans = true := by kernel_rfl
theorem ck_block_Block_Len : chkFun Tryz.prog phi Tryz.f98 x_block_Block_Len = true := by kernel_rfl
theorem ck_slices_ContainsFunc_api_Attr_api_Attr : chkFun Tryz.prog phi Tryz.f100 x_slices_ContainsFunc_api_Attr_api_Attr = true := by kernel_rfl
theorem ck_block_Build_1 : chkFun Tryz.prog phi Tryz.f101 x_block_Build_1 = true := by kernel_rfl
theorem ck_block_made : chkFun Tryz.prog phi Tryz.f102 x_block_made = true := by kernel_rfl
theorem ck_slices_IndexFunc_api_Span_api_Span : chkFun Tryz.prog phi Tryz.f140 x_slices_IndexFunc_api_Span_api_Span = true := by kernel_rfl
theorem ck_checksum_Link : chkFun Tryz.prog phi Tryz.f150 x_checksum_Link = true := by kernel_rfl
theorem ck_block_Block_At : chkFun Tryz.prog phi Tryz.f151 x_block_Block_At = true := by kernel_rfl
theorem ck_slices_IndexFunc_api_Attr_api_Attr : chkFun Tryz.prog phi Tryz.f172 x_slices_IndexFunc_api_Attr_api_Attr = true := by kernel_rfl
theorem ck_block_copied : chkFun Tryz.prog phi Tryz.f173 x_block_copied = true := by kernel_rfl
theorem ck_checksum_Extend : chkFun Tryz.prog phi Tryz.f209 x_checksum_Extend = true := by kernel_rfl
theorem ck_checksum_Sum : chkFun Tryz.prog phi Tryz.f210 x_checksum_Sum = true := by kernel_rfl
theorem ck_checksum_zeroBit : chkFun Tryz.prog phi Tryz.f263 x_checksum_zeroBit = true := by kernel_rfl
def Entry (id : FuncId) (X : XF) : Prop := ∃ fn, Tryz.prog.funcs[id]? = some fn ∧ FunOk Tryz.prog phi id fn X
theorem tb_encoding_Writer_Number : Entry 52 x_encoding_Writer_Number := ⟨Tryz.f52, Tryz.func52, ck_encoding_Writer_Number⟩
theorem tb_encoding_Writer_Bytes : Entry 58 x_encoding_Writer_Bytes := ⟨Tryz.f58, Tryz.func58, ck_encoding_Writer_Bytes⟩
theorem tb_encoding_EncodeSpan : Entry 71 x_encoding_EncodeSpan := ⟨Tryz.f71, Tryz.func71, ck_encoding_EncodeSpan⟩
theorem tb_encoding_Writer_Bool : Entry 53 x_encoding_Writer_Bool := ⟨Tryz.f53, Tryz.func53, ck_encoding_Writer_Bool⟩
theorem tb_encoding_Writer_Text : Entry 55 x_encoding_Writer_Text := ⟨Tryz.f55, Tryz.func55, ck_encoding_Writer_Text⟩
theorem tb_encoding_Writer_Span : Entry 149 x_encoding_Writer_Span := ⟨Tryz.f149, Tryz.func149, ck_encoding_Writer_Span⟩
theorem tb_encoding_magnitude : Entry 99 x_encoding_magnitude := ⟨Tryz.f99, Tryz.func99, ck_encoding_magnitude⟩
theorem tb_encoding_Writer_Attr : Entry 206 x_encoding_Writer_Attr := ⟨Tryz.f206, Tryz.func206, ck_encoding_Writer_Attr⟩
theorem tb_encoding_Writer_Value : Entry 262 x_encoding_Writer_Value := ⟨Tryz.f262, Tryz.func262, ck_encoding_Writer_Value⟩
theorem tb_encoding_Writer_Ref : Entry 208 x_encoding_Writer_Ref := ⟨Tryz.f208, Tryz.func208, ck_encoding_Writer_Ref⟩
theorem tb_encoding_Writer_numbers : Entry 204 x_encoding_Writer_numbers := ⟨Tryz.f204, Tryz.func204, ck_encoding_Writer_numbers⟩
theorem tb_encoding_list_api_Attr : Entry 205 x_encoding_list_api_Attr := ⟨Tryz.f205, Tryz.func205, ck_encoding_list_api_Attr⟩
theorem tb_encoding_list_api_Ref : Entry 207 x_encoding_list_api_Ref := ⟨Tryz.f207, Tryz.func207, ck_encoding_list_api_Ref⟩
theorem tb_span_Check : Entry 60 x_span_Check := ⟨Tryz.f60, Tryz.func60, ck_span_Check⟩
theorem tb_span_Compare : Entry 67 x_span_Compare := ⟨Tryz.f67, Tryz.func67, ck_span_Compare⟩
theorem tb_span_Equal : Entry 70 x_span_Equal := ⟨Tryz.f70, Tryz.func70, ck_span_Equal⟩
theorem tb_span_CompareRefs : Entry 148 x_span_CompareRefs := ⟨Tryz.f148, Tryz.func148, ck_span_CompareRefs⟩
theorem tb_attribute_CheckValue : Entry 155 x_attribute_CheckValue := ⟨Tryz.f155, Tryz.func155, ck_attribute_CheckValue⟩
theorem tb_span_Slot : Entry 32 x_span_Slot := ⟨Tryz.f32, Tryz.func32, ck_span_Slot⟩
theorem tb_span_Partition : Entry 74 x_span_Partition := ⟨Tryz.f74, Tryz.func74, ck_span_Partition⟩
theorem tb_span_Set : Entry 64 x_span_Set := ⟨Tryz.f64, Tryz.func64, ck_span_Set⟩
theorem tb_span_badId : Entry 135 x_span_badId := ⟨Tryz.f135, Tryz.func135, ck_span_badId⟩
theorem tb_attribute_IsName : Entry 136 x_attribute_IsName := ⟨Tryz.f136, Tryz.func136, ck_attribute_IsName⟩
theorem tb_cmp_Or_api_Errno : Entry 137 x_cmp_Or_api_Errno := ⟨Tryz.f137, Tryz.func137, ck_cmp_Or_api_Errno⟩
theorem tb_attribute_CheckAttrs : Entry 138 x_attribute_CheckAttrs := ⟨Tryz.f138, Tryz.func138, ck_attribute_CheckAttrs⟩
theorem tb_span_checkLinks : Entry 139 x_span_checkLinks := ⟨Tryz.f139, Tryz.func139, ck_span_checkLinks⟩
theorem tb_cmp_Or_int : Entry 142 x_cmp_Or_int := ⟨Tryz.f142, Tryz.func142, ck_cmp_Or_int⟩
theorem tb_slices_Compare_int_int : Entry 143 x_slices_Compare_int_int := ⟨Tryz.f143, Tryz.func143, ck_slices_Compare_int_int⟩
theorem tb_cmp_Compare_string : Entry 92 x_cmp_Compare_string := ⟨Tryz.f92, Tryz.func92, ck_cmp_Compare_string⟩
theorem tb_cmp_Compare_int : Entry 144 x_cmp_Compare_int := ⟨Tryz.f144, Tryz.func144, ck_cmp_Compare_int⟩
theorem tb_span_number : Entry 145 x_span_number := ⟨Tryz.f145, Tryz.func145, ck_span_number⟩
theorem tb_attribute_CompareAttrs : Entry 146 x_attribute_CompareAttrs := ⟨Tryz.f146, Tryz.func146, ck_attribute_CompareAttrs⟩
theorem tb_slices_CompareFunc_api_Ref_api_Ref_api_Ref_api_Ref : Entry 147 x_slices_CompareFunc_api_Ref_api_Ref_api_Ref_api_Ref := ⟨Tryz.f147, Tryz.func147, ck_slices_CompareFunc_api_Ref_api_Ref_api_Ref_api_Ref⟩
theorem tb_attribute_within : Entry 199 x_attribute_within := ⟨Tryz.f199, Tryz.func199, ck_attribute_within⟩
theorem tb_span_chosen : Entry 82 x_span_chosen := ⟨Tryz.f82, Tryz.func82, ck_span_chosen⟩
theorem tb_span_set : Entry 81 x_span_set := ⟨Tryz.f81, Tryz.func81, ck_span_set⟩
theorem tb_span_Set_1 : Entry 141 x_span_Set_1 := ⟨Tryz.f141, Tryz.func141, ck_span_Set_1⟩
theorem tb_cmp_isNaN_string : Entry 169 x_cmp_isNaN_string := ⟨Tryz.f169, Tryz.func169, ck_cmp_isNaN_string⟩
theorem tb_cmp_isNaN_int : Entry 200 x_cmp_isNaN_int := ⟨Tryz.f200, Tryz.func200, ck_cmp_isNaN_int⟩
theorem tb_slices_CompareFunc_api_Attr_api_Attr_api_Attr_api_Attr : Entry 201 x_slices_CompareFunc_api_Attr_api_Attr_api_Attr_api_Attr := ⟨Tryz.f201, Tryz.func201, ck_slices_CompareFunc_api_Attr_api_Attr_api_Attr_api_Attr⟩
theorem tb_attribute_CompareAttrs_1 : Entry 202 x_attribute_CompareAttrs_1 := ⟨Tryz.f202, Tryz.func202, ck_attribute_CompareAttrs_1⟩
theorem tb_attribute_CompareValues : Entry 203 x_attribute_CompareValues := ⟨Tryz.f203, Tryz.func203, ck_attribute_CompareValues⟩
theorem tb_span_copied : Entry 159 x_span_copied := ⟨Tryz.f159, Tryz.func159, ck_span_copied⟩
theorem tb_slices_CompactFunc_api_Span_api_Span : Entry 156 x_slices_CompactFunc_api_Span_api_Span := ⟨Tryz.f156, Tryz.func156, ck_slices_CompactFunc_api_Span_api_Span⟩
theorem tb_slices_SortedFunc_api_Span : Entry 157 x_slices_SortedFunc_api_Span := ⟨Tryz.f157, Tryz.func157, ck_slices_SortedFunc_api_Span⟩
theorem tb_slices_Values_api_Span_api_Span : Entry 158 x_slices_Values_api_Span_api_Span := ⟨Tryz.f158, Tryz.func158, ck_slices_Values_api_Span_api_Span⟩
theorem tb_slices_Clone_api_Attr_api_Attr : Entry 213 x_slices_Clone_api_Attr_api_Attr := ⟨Tryz.f213, Tryz.func213, ck_slices_Clone_api_Attr_api_Attr⟩
theorem tb_slices_Clone_api_Ref_api_Ref : Entry 214 x_slices_Clone_api_Ref_api_Ref := ⟨Tryz.f214, Tryz.func214, ck_slices_Clone_api_Ref_api_Ref⟩
theorem tb_slices_Collect_api_Span : Entry 211 x_slices_Collect_api_Span := ⟨Tryz.f211, Tryz.func211, ck_slices_Collect_api_Span⟩
theorem tb_slices_SortFunc_api_Span_api_Span : Entry 93 x_slices_SortFunc_api_Span_api_Span := ⟨Tryz.f93, Tryz.func93, nk_slices_SortFunc_api_Span_api_Span⟩
theorem tb_slices_Values_api_Span_api_Span_1 : Entry 212 x_slices_Values_api_Span_api_Span_1 := ⟨Tryz.f212, Tryz.func212, ck_slices_Values_api_Span_api_Span_1⟩
theorem tb_slices_AppendSeq_api_Span_api_Span : Entry 264 x_slices_AppendSeq_api_Span_api_Span := ⟨Tryz.f264, Tryz.func264, nk_slices_AppendSeq_api_Span_api_Span⟩
theorem tb_sleuthlaw31_PartitionRefuses : Entry 4 x_sleuthlaw31_PartitionRefuses := ⟨Tryz.f4, Tryz.func4, ck_sleuthlaw31_PartitionRefuses⟩
theorem tb_sleuthlaw31_known : Entry 12 x_sleuthlaw31_known := ⟨Tryz.f12, Tryz.func12, ck_sleuthlaw31_known⟩
theorem tb_partition_New : Entry 14 x_partition_New := ⟨Tryz.f14, Tryz.func14, ck_partition_New⟩
theorem tb_partition_Partition_Insert : Entry 16 x_partition_Partition_Insert := ⟨Tryz.f16, Tryz.func16, ck_partition_Partition_Insert⟩
theorem tb_partition_Partition_Merge : Entry 19 x_partition_Partition_Merge := ⟨Tryz.f19, Tryz.func19, ck_partition_Partition_Merge⟩
theorem tb_partition_Partition_Equal : Entry 20 x_partition_Partition_Equal := ⟨Tryz.f20, Tryz.func20, ck_partition_Partition_Equal⟩
theorem tb_partition_Partition_Digest : Entry 21 x_partition_Partition_Digest := ⟨Tryz.f21, Tryz.func21, ck_partition_Partition_Digest⟩
theorem tb_partition_Partition_Records : Entry 22 x_partition_Partition_Records := ⟨Tryz.f22, Tryz.func22, ck_partition_Partition_Records⟩
theorem tb_sleuthlaw31_state_insert : Entry 23 x_sleuthlaw31_state_insert := ⟨Tryz.f23, Tryz.func23, ck_sleuthlaw31_state_insert⟩
theorem tb_sleuthlaw31_record : Entry 24 x_sleuthlaw31_record := ⟨Tryz.f24, Tryz.func24, ck_sleuthlaw31_record⟩
theorem tb_sleuthlaw31_state_agrees : Entry 25 x_sleuthlaw31_state_agrees := ⟨Tryz.f25, Tryz.func25, ck_sleuthlaw31_state_agrees⟩
theorem tb_sleuthlaw31_same : Entry 28 x_sleuthlaw31_same := ⟨Tryz.f28, Tryz.func28, ck_sleuthlaw31_same⟩
theorem tb_sleuthlaw31_state_records : Entry 35 x_sleuthlaw31_state_records := ⟨Tryz.f35, Tryz.func35, ck_sleuthlaw31_state_records⟩
theorem tb_partition_Partition_Sealed : Entry 48 x_partition_Partition_Sealed := ⟨Tryz.f48, Tryz.func48, ck_partition_Partition_Sealed⟩
theorem tb_partition_Partition_Number : Entry 49 x_partition_Partition_Number := ⟨Tryz.f49, Tryz.func49, ck_partition_Partition_Number⟩
theorem tb_partition_Partition_Blocks : Entry 50 x_partition_Partition_Blocks := ⟨Tryz.f50, Tryz.func50, ck_partition_Partition_Blocks⟩
theorem tb_block_Build : Entry 54 x_block_Build := ⟨Tryz.f54, Tryz.func54, ck_block_Build⟩
theorem tb_slices_ContainsFunc_api_Span_api_Span : Entry 61 x_slices_ContainsFunc_api_Span_api_Span := ⟨Tryz.f61, Tryz.func61, ck_slices_ContainsFunc_api_Span_api_Span⟩
theorem tb_partition_Partition_foreign : Entry 62 x_partition_Partition_foreign := ⟨Tryz.f62, Tryz.func62, ck_partition_Partition_foreign⟩
theorem tb_slices_DeleteFunc_api_Span_api_Span : Entry 63 x_slices_DeleteFunc_api_Span_api_Span := ⟨Tryz.f63, Tryz.func63, ck_slices_DeleteFunc_api_Span_api_Span⟩
theorem tb_partition_Partition_Insert_1 : Entry 65 x_partition_Partition_Insert_1 := ⟨Tryz.f65, Tryz.func65, ck_partition_Partition_Insert_1⟩
theorem tb_slices_BinarySearchFunc_api_Span_api_Span_api_Span : Entry 66 x_slices_BinarySearchFunc_api_Span_api_Span_api_Span := ⟨Tryz.f66, Tryz.func66, ck_slices_BinarySearchFunc_api_Span_api_Span_api_Span⟩
theorem tb_slices_Clone_block_Block_block_Block : Entry 68 x_slices_Clone_block_Block_block_Block := ⟨Tryz.f68, Tryz.func68, ck_slices_Clone_block_Block_block_Block⟩
theorem tb_slices_EqualFunc_api_Span_api_Span_api_Span_api_Span : Entry 69 x_slices_EqualFunc_api_Span_api_Span_api_Span_api_Span := ⟨Tryz.f69, Tryz.func69, ck_slices_EqualFunc_api_Span_api_Span_api_Span_api_Span⟩
theorem tb_checksum_Chain : Entry 72 x_checksum_Chain := ⟨Tryz.f72, Tryz.func72, ck_checksum_Chain⟩
theorem tb_partition_records : Entry 73 x_partition_records := ⟨Tryz.f73, Tryz.func73, ck_partition_records⟩
theorem tb_sleuthlaw31_within : Entry 75 x_sleuthlaw31_within := ⟨Tryz.f75, Tryz.func75, ck_sleuthlaw31_within⟩
theorem tb_block_Block_Spans : Entry 76 x_block_Block_Spans := ⟨Tryz.f76, Tryz.func76, ck_block_Block_Spans⟩
theorem tb_block_Block_Len : Entry 98 x_block_Block_Len := ⟨Tryz.f98, Tryz.func98, ck_block_Block_Len⟩
theorem tb_slices_ContainsFunc_api_Attr_api_Attr : Entry 100 x_slices_ContainsFunc_api_Attr_api_Attr := ⟨Tryz.f100, Tryz.func100, ck_slices_ContainsFunc_api_Attr_api_Attr⟩
theorem tb_block_Build_1 : Entry 101 x_block_Build_1 := ⟨Tryz.f101, Tryz.func101, ck_block_Build_1⟩
theorem tb_block_made : Entry 102 x_block_made := ⟨Tryz.f102, Tryz.func102, ck_block_made⟩
theorem tb_slices_IndexFunc_api_Span_api_Span : Entry 140 x_slices_IndexFunc_api_Span_api_Span := ⟨Tryz.f140, Tryz.func140, ck_slices_IndexFunc_api_Span_api_Span⟩
theorem tb_checksum_Link : Entry 150 x_checksum_Link := ⟨Tryz.f150, Tryz.func150, ck_checksum_Link⟩
theorem tb_block_Block_At : Entry 151 x_block_Block_At := ⟨Tryz.f151, Tryz.func151, ck_block_Block_At⟩
theorem tb_slices_IndexFunc_api_Attr_api_Attr : Entry 172 x_slices_IndexFunc_api_Attr_api_Attr := ⟨Tryz.f172, Tryz.func172, ck_slices_IndexFunc_api_Attr_api_Attr⟩
theorem tb_block_copied : Entry 173 x_block_copied := ⟨Tryz.f173, Tryz.func173, ck_block_copied⟩
theorem tb_checksum_Extend : Entry 209 x_checksum_Extend := ⟨Tryz.f209, Tryz.func209, ck_checksum_Extend⟩
theorem tb_checksum_Sum : Entry 210 x_checksum_Sum := ⟨Tryz.f210, Tryz.func210, ck_checksum_Sum⟩
theorem tb_checksum_zeroBit : Entry 263 x_checksum_zeroBit := ⟨Tryz.f263, Tryz.func263, ck_checksum_zeroBit⟩
def Fit (a : Option FuncId) (x : Option XF) : Prop := ∀ id, a = some id → ∃ X, x = some X ∧ Entry id X
theorem Fit.of {id : FuncId} {X : XF} (t : Entry id X) : Fit (some id) (some X) := fun _ h => by cases h; exact ⟨X, rfl, t⟩
theorem Fit.none (x : Option XF) : Fit Option.none x := fun _ h => by cases h
theorem each : Each Fit phiL XPL :=
  .cons (.none _) <|
  .cons (.none _) <|
  .cons (.none _) <|
  .cons (.none _) <|
  .cons (.none _) <|
  .cons (.none _) <|
  .cons (.none _) <|
  .cons (.none _) <|
  .cons (.none _) <|
  .cons (.of tb_encoding_Writer_Number) <|
  .cons (.of tb_encoding_Writer_Bytes) <|
  .cons (.none _) <|
  .cons (.none _) <|
  .cons (.none _) <|
  .cons (.none _) <|
  .cons (.none _) <|
  .cons (.none _) <|
  .cons (.none _) <|
  .cons (.none _) <|
  .cons (.none _) <|
  .cons (.none _) <|
  .cons (.none _) <|
  .cons (.none _) <|
  .cons (.none _) <|
  .cons (.none _) <|
  .cons (.none _) <|
  .cons (.none _) <|
  .cons (.none _) <|
  .cons (.none _) <|
  .cons (.none _) <|
  .cons (.of tb_encoding_EncodeSpan) <|
  .cons (.none _) <|
  .cons (.none _) <|
  .cons (.of tb_encoding_Writer_Bool) <|
  .cons (.of tb_encoding_Writer_Text) <|
  .cons (.of tb_encoding_Writer_Span) <|
  .cons (.none _) <|
  .cons (.none _) <|
  .cons (.none _) <|
  .cons (.none _) <|
  .cons (.none _) <|
  .cons (.none _) <|
  .cons (.none _) <|
  .cons (.none _) <|
  .cons (.none _) <|
  .cons (.none _) <|
  .cons (.none _) <|
  .cons (.of tb_encoding_magnitude) <|
  .cons (.of tb_encoding_Writer_Attr) <|
  .cons (.none _) <|
  .cons (.none _) <|
  .cons (.none _) <|
  .cons (.none _) <|
  .cons (.none _) <|
  .cons (.none _) <|
  .cons (.of tb_encoding_Writer_Value) <|
  .cons (.none _) <|
  .cons (.none _) <|
  .cons (.of tb_encoding_Writer_Ref) <|
  .cons (.none _) <|
  .cons (.none _) <|
  .cons (.none _) <|
  .cons (.none _) <|
  .cons (.none _) <|
  .cons (.none _) <|
  .cons (.none _) <|
  .cons (.none _) <|
  .cons (.none _) <|
  .cons (.none _) <|
  .cons (.none _) <|
  .cons (.none _) <|
  .cons (.none _) <|
  .cons (.none _) <|
  .cons (.none _) <|
  .cons (.none _) <|
  .cons (.none _) <|
  .cons (.of tb_encoding_Writer_numbers) <|
  .cons (.none _) <|
  .cons (.none _) <|
  .cons (.of tb_encoding_list_api_Attr) <|
  .cons (.of tb_encoding_list_api_Ref) <|
  .cons (.none _) <|
  .cons (.none _) <|
  .cons (.none _) <|
  .cons (.none _) <|
  .cons (.none _) <|
  .cons (.none _) <|
  .cons (.none _) <|
  .cons (.none _) <|
  .cons (.none _) <|
  .cons (.none _) <|
  .cons (.none _) <|
  .cons (.none _) <|
  .cons (.none _) <|
  .cons (.none _) <|
  .cons (.none _) <|
  .cons (.none _) <|
  .cons (.none _) <|
  .cons (.none _) <|
  .cons (.none _) <|
  .cons (.none _) <|
  .cons (.none _) <|
  .cons (.none _) <|
  .cons (.none _) <|
  .cons (.none _) <|
  .cons (.none _) <|
  .cons (.none _) <|
  .cons (.none _) <|
  .cons (.none _) <|
  .cons (.none _) <|
  .cons (.none _) <|
  .cons (.none _) <|
  .cons (.none _) <|
  .cons (.none _) <|
  .cons (.none _) <|
  .cons (.none _) <|
  .cons (.none _) <|
  .cons (.none _) <|
  .cons (.none _) <|
  .cons (.none _) <|
  .cons (.none _) <|
  .cons (.none _) <|
  .cons (.none _) <|
  .cons (.none _) <|
  .cons (.none _) <|
  .cons (.none _) <|
  .cons (.none _) <|
  .cons (.none _) <|
  .cons (.none _) <|
  .cons (.none _) <|
  .cons (.none _) <|
  .cons (.none _) <|
  .cons (.none _) <|
  .cons (.none _) <|
  .cons (.none _) <|
  .cons (.none _) <|
  .cons (.none _) <|
  .cons (.none _) <|
  .cons (.none _) <|
  .cons (.none _) <|
  .cons (.none _) <|
  .cons (.none _) <|
  .cons (.none _) <|
  .cons (.none _) <|
  .cons (.none _) <|
  .cons (.none _) <|
  .cons (.none _) <|
  .cons (.none _) <|
  .cons (.none _) <|
  .cons (.none _) <|
  .cons (.none _) <|
  .cons (.none _) <|
  .cons (.none _) <|
  .cons (.none _) <|
  .cons (.none _) <|
  .cons (.none _) <|
  .cons (.none _) <|
  .cons (.of tb_span_Check) <|
  .cons (.none _) <|
  .cons (.none _) <|
  .cons (.of tb_span_Compare) <|
  .cons (.none _) <|
  .cons (.of tb_span_Equal) <|
  .cons (.none _) <|
  .cons (.of tb_span_CompareRefs) <|
  .cons (.none _) <|
  .cons (.none _) <|
  .cons (.none _) <|
  .cons (.none _) <|
  .cons (.none _) <|
  .cons (.none _) <|
  .cons (.of tb_attribute_CheckValue) <|
  .cons (.none _) <|
  .cons (.none _) <|
  .cons (.none _) <|
  .cons (.none _) <|
  .cons (.none _) <|
  .cons (.none _) <|
  .cons (.none _) <|
  .cons (.none _) <|
  .cons (.of tb_span_Slot) <|
  .cons (.of tb_span_Partition) <|
  .cons (.none _) <|
  .cons (.none _) <|
  .cons (.of tb_span_Set) <|
  .cons (.none _) <|
  .cons (.none _) <|
  .cons (.none _) <|
  .cons (.none _) <|
  .cons (.of tb_span_badId) <|
  .cons (.of tb_attribute_IsName) <|
  .cons (.of tb_cmp_Or_api_Errno) <|
  .cons (.of tb_attribute_CheckAttrs) <|
  .cons (.of tb_span_checkLinks) <|
  .cons (.none _) <|
  .cons (.of tb_cmp_Or_int) <|
  .cons (.of tb_slices_Compare_int_int) <|
  .cons (.of tb_cmp_Compare_string) <|
  .cons (.of tb_cmp_Compare_int) <|
  .cons (.of tb_span_number) <|
  .cons (.of tb_attribute_CompareAttrs) <|
  .cons (.of tb_slices_CompareFunc_api_Ref_api_Ref_api_Ref_api_Ref) <|
  .cons (.none _) <|
  .cons (.none _) <|
  .cons (.none _) <|
  .cons (.none _) <|
  .cons (.none _) <|
  .cons (.none _) <|
  .cons (.of tb_attribute_within) <|
  .cons (.none _) <|
  .cons (.none _) <|
  .cons (.none _) <|
  .cons (.of tb_span_chosen) <|
  .cons (.of tb_span_set) <|
  .cons (.of tb_span_Set_1) <|
  .cons (.none _) <|
  .cons (.none _) <|
  .cons (.of tb_cmp_isNaN_string) <|
  .cons (.of tb_cmp_isNaN_int) <|
  .cons (.of tb_slices_CompareFunc_api_Attr_api_Attr_api_Attr_api_Attr) <|
  .cons (.of tb_attribute_CompareAttrs_1) <|
  .cons (.of tb_attribute_CompareValues) <|
  .cons (.none _) <|
  .cons (.none _) <|
  .cons (.of tb_span_copied) <|
  .cons (.of tb_slices_CompactFunc_api_Span_api_Span) <|
  .cons (.of tb_slices_SortedFunc_api_Span) <|
  .cons (.of tb_slices_Values_api_Span_api_Span) <|
  .cons (.none _) <|
  .cons (.of tb_slices_Clone_api_Attr_api_Attr) <|
  .cons (.of tb_slices_Clone_api_Ref_api_Ref) <|
  .cons (.of tb_slices_Collect_api_Span) <|
  .cons (.of tb_slices_SortFunc_api_Span_api_Span) <|
  .cons (.of tb_slices_Values_api_Span_api_Span_1) <|
  .cons (.of tb_slices_AppendSeq_api_Span_api_Span) <|
  .cons (.none _) <|
  .cons (.none _) <|
  .cons (.none _) <|
  .cons (.none _) <|
  .cons (.none _) <|
  .cons (.none _) <|
  .cons (.none _) <|
  .cons (.none _) <|
  .cons (.none _) <|
  .cons (.none _) <|
  .cons (.none _) <|
  .cons (.none _) <|
  .cons (.none _) <|
  .cons (.none _) <|
  .cons (.none _) <|
  .cons (.none _) <|
  .cons (.of tb_sleuthlaw31_PartitionRefuses) <|
  .cons (.none _) <|
  .cons (.none _) <|
  .cons (.none _) <|
  .cons (.none _) <|
  .cons (.none _) <|
  .cons (.none _) <|
  .cons (.none _) <|
  .cons (.of tb_sleuthlaw31_known) <|
  .cons (.none _) <|
  .cons (.of tb_partition_New) <|
  .cons (.none _) <|
  .cons (.of tb_partition_Partition_Insert) <|
  .cons (.none _) <|
  .cons (.none _) <|
  .cons (.of tb_partition_Partition_Merge) <|
  .cons (.of tb_partition_Partition_Equal) <|
  .cons (.of tb_partition_Partition_Digest) <|
  .cons (.of tb_partition_Partition_Records) <|
  .cons (.of tb_sleuthlaw31_state_insert) <|
  .cons (.of tb_sleuthlaw31_record) <|
  .cons (.of tb_sleuthlaw31_state_agrees) <|
  .cons (.none _) <|
  .cons (.of tb_sleuthlaw31_same) <|
  .cons (.none _) <|
  .cons (.none _) <|
  .cons (.none _) <|
  .cons (.none _) <|
  .cons (.of tb_sleuthlaw31_state_records) <|
  .cons (.none _) <|
  .cons (.none _) <|
  .cons (.none _) <|
  .cons (.none _) <|
  .cons (.none _) <|
  .cons (.none _) <|
  .cons (.none _) <|
  .cons (.none _) <|
  .cons (.none _) <|
  .cons (.none _) <|
  .cons (.none _) <|
  .cons (.none _) <|
  .cons (.of tb_partition_Partition_Sealed) <|
  .cons (.of tb_partition_Partition_Number) <|
  .cons (.of tb_partition_Partition_Blocks) <|
  .cons (.none _) <|
  .cons (.of tb_block_Build) <|
  .cons (.none _) <|
  .cons (.none _) <|
  .cons (.none _) <|
  .cons (.of tb_slices_ContainsFunc_api_Span_api_Span) <|
  .cons (.of tb_partition_Partition_foreign) <|
  .cons (.of tb_slices_DeleteFunc_api_Span_api_Span) <|
  .cons (.of tb_partition_Partition_Insert_1) <|
  .cons (.of tb_slices_BinarySearchFunc_api_Span_api_Span_api_Span) <|
  .cons (.of tb_slices_Clone_block_Block_block_Block) <|
  .cons (.of tb_slices_EqualFunc_api_Span_api_Span_api_Span_api_Span) <|
  .cons (.of tb_checksum_Chain) <|
  .cons (.of tb_partition_records) <|
  .cons (.of tb_sleuthlaw31_within) <|
  .cons (.of tb_block_Block_Spans) <|
  .cons (.none _) <|
  .cons (.none _) <|
  .cons (.none _) <|
  .cons (.none _) <|
  .cons (.none _) <|
  .cons (.none _) <|
  .cons (.none _) <|
  .cons (.none _) <|
  .cons (.none _) <|
  .cons (.none _) <|
  .cons (.none _) <|
  .cons (.none _) <|
  .cons (.none _) <|
  .cons (.none _) <|
  .cons (.of tb_block_Block_Len) <|
  .cons (.of tb_slices_ContainsFunc_api_Attr_api_Attr) <|
  .cons (.of tb_block_Build_1) <|
  .cons (.of tb_block_made) <|
  .cons (.none _) <|
  .cons (.none _) <|
  .cons (.none _) <|
  .cons (.none _) <|
  .cons (.none _) <|
  .cons (.none _) <|
  .cons (.none _) <|
  .cons (.none _) <|
  .cons (.none _) <|
  .cons (.none _) <|
  .cons (.none _) <|
  .cons (.none _) <|
  .cons (.none _) <|
  .cons (.none _) <|
  .cons (.none _) <|
  .cons (.none _) <|
  .cons (.none _) <|
  .cons (.none _) <|
  .cons (.none _) <|
  .cons (.none _) <|
  .cons (.none _) <|
  .cons (.none _) <|
  .cons (.none _) <|
  .cons (.none _) <|
  .cons (.none _) <|
  .cons (.of tb_slices_IndexFunc_api_Span_api_Span) <|
  .cons (.of tb_checksum_Link) <|
  .cons (.of tb_block_Block_At) <|
  .cons (.none _) <|
  .cons (.none _) <|
  .cons (.none _) <|
  .cons (.none _) <|
  .cons (.none _) <|
  .cons (.none _) <|
  .cons (.none _) <|
  .cons (.none _) <|
  .cons (.none _) <|
  .cons (.none _) <|
  .cons (.none _) <|
  .cons (.of tb_slices_IndexFunc_api_Attr_api_Attr) <|
  .cons (.of tb_block_copied) <|
  .cons (.none _) <|
  .cons (.none _) <|
  .cons (.none _) <|
  .cons (.none _) <|
  .cons (.none _) <|
  .cons (.none _) <|
  .cons (.none _) <|
  .cons (.none _) <|
  .cons (.none _) <|
  .cons (.none _) <|
  .cons (.none _) <|
  .cons (.none _) <|
  .cons (.none _) <|
  .cons (.none _) <|
  .cons (.none _) <|
  .cons (.none _) <|
  .cons (.none _) <|
  .cons (.none _) <|
  .cons (.of tb_checksum_Extend) <|
  .cons (.of tb_checksum_Sum) <|
  .cons (.none _) <|
  .cons (.none _) <|
  .cons (.none _) <|
  .cons (.none _) <|
  .cons (.none _) <|
  .cons (.none _) <|
  .cons (.none _) <|
  .cons (.none _) <|
  .cons (.none _) <|
  .cons (.none _) <|
  .cons (.none _) <|
  .cons (.none _) <|
  .cons (.none _) <|
  .cons (.none _) <|
  .cons (.none _) <|
  .cons (.none _) <|
  .cons (.none _) <|
  .cons (.none _) <|
  .cons (.none _) <|
  .cons (.none _) <|
  .cons (.none _) <|
  .cons (.none _) <|
  .cons (.none _) <|
  .cons (.none _) <|
  .cons (.none _) <|
  .cons (.none _) <|
  .cons (.none _) <|
  .cons (.none _) <|
  .cons (.none _) <|
  .cons (.none _) <|
  .cons (.of tb_checksum_zeroBit) <|
  .cons (.none _) <|
  .cons (.none _) <|
  .cons (.none _) <|
  .cons (.none _) <|
  .cons (.none _) <|
  .cons (.none _) <|
  .cons (.none _) <|
  .cons (.none _) <|
  .cons (.none _) <|
  .cons (.none _) <|
  .cons (.none _) <|
  .cons (.none _) <|
  .cons (.none _) <|
  .cons (.none _) <|
  .cons (.none _) <|
  .cons (.none _) <|
  .cons (.none _) <|
  .cons (.none _) <|
  .cons (.none _) <|
  .cons (.none _) <|
  .cons (.none _) <|
  .cons (.none _) <|
  .cons (.none _) <|
  .cons (.none _) <|
  .cons (.none _) <|
  .cons (.none _) <|
  .cons (.none _) <|
  .cons (.none _) <|
  .cons (.none _) <|
  .cons (.none _) <|
  .cons (.none _) <|
  .cons (.none _) <|
  .cons (.none _) <|
  .cons (.none _) <|
  .cons (.none _) <|
  .cons (.none _) <| .nil
theorem entries (f : Nat) (id : FuncId) (X : XF) (h1 : phi f = some id) (h2 : XP f = some X) : Entry id X := by
  obtain ⟨Y, h3, h4⟩ := (each.get Fit.none f : Fit (phi f) (XP f)) id h1
  have h3 : XP f = some Y := h3
  rw [h2] at h3
  cases h3
  exact h4
theorem table : Table Tryz.prog phi XP where
  follows := by kernel_rfl
  there := tok
  code := fun f id X h hx => entries f id X h hx
theorem prog_own : ownKnob Tryz.prog.godebug = none := by kernel_rfl
theorem prog_laidOut : laidOutB Tryz.prog = true := by kernel_rfl
end Go.Proofs.Sl
