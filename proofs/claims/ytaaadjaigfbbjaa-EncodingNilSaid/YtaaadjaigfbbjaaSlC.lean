/- The functions of the program are what the evaluator has for them. -/
import Derived.Test.YtaaadjaigfbbjaaProg
import Derived.Test.YtaaadjaigfbbjaaSlP
import Derived.Test.YtaaadjaigfbbjaaSlB
set_option linter.unusedVariables false
set_option linter.unusedSimpArgs false
set_option linter.unnecessarySimpa false
set_option maxRecDepth 100000
namespace Go.Proofs.Sl
def phi : Nat → Option FuncId := fun n => ([some 3, some 4, some 5, some 6, some 7, some 8, some 9, some 10, some 11, some 12, some 13, some 14, some 15, some 16, some 17, some 18, some 19, some 20, some 21, some 22, some 23, some 24, some 25, some 26, some 27, some 28, some 29, some 30, some 31, some 32, some 33, some 34, some 35, some 36, some 37, some 38, some 39, some 40, some 41, some 42, some 43, some 44, some 45, some 46, some 47, some 48, some 49, some 50, some 51, some 52, some 53, some 54, some 55, some 56, some 57, some 58, some 59, some 60, some 61, some 62, some 63, some 64, some 65, some 66, some 67, some 68, some 69, some 70, some 71, some 72, some 73, some 74, some 75, some 76, some 77, some 78, some 79, some 80, some 81, some 82, some 83, some 84, some 85, some 86, some 87, some 88, some 89, some 90, some 91, some 92, some 93, some 94] : List (Option FuncId)).getD n none
theorem ck_sleuthlaw01_EncodingOrder : chkFun Try.prog phi Try.f3 x_sleuthlaw01_EncodingOrder = true := by kernel_rfl
theorem ck_sleuthlaw01_EncodingNumbers : chkFun Try.prog phi Try.f4 x_sleuthlaw01_EncodingNumbers = true := by kernel_rfl
theorem ck_sleuthlaw01_EncodingWrites : chkFun Try.prog phi Try.f5 x_sleuthlaw01_EncodingWrites = true := by kernel_rfl
theorem ck_sleuthlaw01_EncodingReads : chkFun Try.prog phi Try.f6 x_sleuthlaw01_EncodingReads = true := by kernel_rfl
theorem ck_sleuthlaw01_EncodingDecodes : chkFun Try.prog phi Try.f7 x_sleuthlaw01_EncodingDecodes = true := by kernel_rfl
theorem ck_sleuthlaw01_EncodingSpans : chkFun Try.prog phi Try.f8 x_sleuthlaw01_EncodingSpans = true := by kernel_rfl
theorem ck_sleuthlaw01_EncodingCuts : chkFun Try.prog phi Try.f9 x_sleuthlaw01_EncodingCuts = true := by kernel_rfl
theorem ck_sleuthlaw01_EncodingNil : chkFun Try.prog phi Try.f10 x_sleuthlaw01_EncodingNil = true := by kernel_rfl
theorem ck_sleuthlaw01_EncodingFragments : chkFun Try.prog phi Try.f11 x_sleuthlaw01_EncodingFragments = true := by kernel_rfl
theorem ck_encoding_Writer_Number : chkFun Try.prog phi Try.f12 x_encoding_Writer_Number = true := by kernel_rfl
theorem ck_encoding_Writer_Bytes : chkFun Try.prog phi Try.f13 x_encoding_Writer_Bytes = true := by kernel_rfl
theorem ck_sleuthlaw01_known : chkFun Try.prog phi Try.f14 x_sleuthlaw01_known = true := by kernel_rfl
theorem ck_encoding_NewReader : chkFun Try.prog phi Try.f15 x_encoding_NewReader = true := by kernel_rfl
theorem ck_sleuthref01_Number : chkFun Try.prog phi Try.f16 x_sleuthref01_Number = true := by kernel_rfl
theorem ck_encoding_Writer_Len : chkFun Try.prog phi Try.f17 x_encoding_Writer_Len = true := by kernel_rfl
theorem ck_encoding_Reader_Number : chkFun Try.prog phi Try.f18 x_encoding_Reader_Number = true := by kernel_rfl
theorem ck_encoding_Reader_End : chkFun Try.prog phi Try.f19 x_encoding_Reader_End = true := by kernel_rfl
theorem ck_encoding_Reader_Left : chkFun Try.prog phi Try.f20 x_encoding_Reader_Left = true := by kernel_rfl
theorem ck_sleuthlaw01_part : chkFun Try.prog phi Try.f21 x_sleuthlaw01_part = true := by kernel_rfl
theorem ck_sleuthlaw01_reads : chkFun Try.prog phi Try.f22 x_sleuthlaw01_reads = true := by kernel_rfl
theorem ck_encoding_Reader_Err : chkFun Try.prog phi Try.f23 x_encoding_Reader_Err = true := by kernel_rfl
theorem ck_sleuthref01_End : chkFun Try.prog phi Try.f24 x_sleuthref01_End = true := by kernel_rfl
theorem ck_encoding_DecodeSpan : chkFun Try.prog phi Try.f25 x_encoding_DecodeSpan = true := by kernel_rfl
theorem ck_encoding_DecodeFragment : chkFun Try.prog phi Try.f26 x_encoding_DecodeFragment = true := by kernel_rfl
theorem ck_encoding_DecodeTrace : chkFun Try.prog phi Try.f27 x_encoding_DecodeTrace = true := by kernel_rfl
theorem ck_sleuthref01_ReadSpan : chkFun Try.prog phi Try.f28 x_sleuthref01_ReadSpan = true := by kernel_rfl
theorem ck_sleuthref01_Span : chkFun Try.prog phi Try.f29 x_sleuthref01_Span = true := by kernel_rfl
theorem ck_sleuthref01_Fragment : chkFun Try.prog phi Try.f30 x_sleuthref01_Fragment = true := by kernel_rfl
theorem ck_sleuthref01_Trace : chkFun Try.prog phi Try.f31 x_sleuthref01_Trace = true := by kernel_rfl
theorem ck_sleuthlaw01_short : chkFun Try.prog phi Try.f32 x_sleuthlaw01_short = true := by kernel_rfl
theorem ck_encoding_EncodeSpan : chkFun Try.prog phi Try.f33 x_encoding_EncodeSpan = true := by kernel_rfl
theorem ck_sleuthlaw01_shortSpans : chkFun Try.prog phi Try.f34 x_sleuthlaw01_shortSpans = true := by kernel_rfl
theorem ck_encoding_EncodeFragment : chkFun Try.prog phi Try.f35 x_encoding_EncodeFragment = true := by kernel_rfl
theorem ck_encoding_Writer_Bool : chkFun Try.prog phi Try.f36 x_encoding_Writer_Bool = true := by kernel_rfl
theorem ck_encoding_Writer_Text : chkFun Try.prog phi Try.f37 x_encoding_Writer_Text = true := by kernel_rfl
theorem ck_encoding_Writer_Span : chkFun Try.prog phi Try.f38 x_encoding_Writer_Span = true := by kernel_rfl
theorem ck_encoding_Writer_Message : chkFun Try.prog phi Try.f39 x_encoding_Writer_Message = true := by kernel_rfl
theorem ck_encoding_Reader_Bool : chkFun Try.prog phi Try.f40 x_encoding_Reader_Bool = true := by kernel_rfl
theorem ck_encoding_Reader_Text : chkFun Try.prog phi Try.f41 x_encoding_Reader_Text = true := by kernel_rfl
theorem ck_encoding_Reader_Count : chkFun Try.prog phi Try.f42 x_encoding_Reader_Count = true := by kernel_rfl
theorem ck_encoding_Reader_Value : chkFun Try.prog phi Try.f43 x_encoding_Reader_Value = true := by kernel_rfl
theorem ck_encoding_Reader_Attr : chkFun Try.prog phi Try.f44 x_encoding_Reader_Attr = true := by kernel_rfl
theorem ck_encoding_Reader_Ref : chkFun Try.prog phi Try.f45 x_encoding_Reader_Ref = true := by kernel_rfl
theorem ck_encoding_Reader_Exchange : chkFun Try.prog phi Try.f46 x_encoding_Reader_Exchange = true := by kernel_rfl
theorem ck_encoding_Reader_Message : chkFun Try.prog phi Try.f47 x_encoding_Reader_Message = true := by kernel_rfl
theorem ck_encoding_Reader_Span : chkFun Try.prog phi Try.f48 x_encoding_Reader_Span = true := by kernel_rfl
theorem ck_encoding_EncodeTrace : chkFun Try.prog phi Try.f49 x_encoding_EncodeTrace = true := by kernel_rfl
theorem ck_encoding_magnitude : chkFun Try.prog phi Try.f50 x_encoding_magnitude = true := by kernel_rfl
theorem ck_encoding_Writer_Attr : chkFun Try.prog phi Try.f51 x_encoding_Writer_Attr = true := by kernel_rfl
theorem ck_sleuthref01_magnitude : chkFun Try.prog phi Try.f52 x_sleuthref01_magnitude = true := by kernel_rfl
theorem ck_encoding_Reader_ok : chkFun Try.prog phi Try.f53 x_encoding_Reader_ok = true := by kernel_rfl
theorem ck_encoding_Reader_number : chkFun Try.prog phi Try.f54 x_encoding_Reader_number = true := by kernel_rfl
theorem ck_encoding_Reader_fail : chkFun Try.prog phi Try.f55 x_encoding_Reader_fail = true := by kernel_rfl
theorem ck_sleuthref01_Bool : chkFun Try.prog phi Try.f56 x_sleuthref01_Bool = true := by kernel_rfl
theorem ck_sleuthref01_Text : chkFun Try.prog phi Try.f57 x_sleuthref01_Text = true := by kernel_rfl
theorem ck_encoding_Writer_Value : chkFun Try.prog phi Try.f58 x_encoding_Writer_Value = true := by kernel_rfl
theorem ck_sleuthref01_Value : chkFun Try.prog phi Try.f59 x_sleuthref01_Value = true := by kernel_rfl
theorem ck_sleuthref01_Attr : chkFun Try.prog phi Try.f60 x_sleuthref01_Attr = true := by kernel_rfl
theorem ck_encoding_Writer_Ref : chkFun Try.prog phi Try.f61 x_encoding_Writer_Ref = true := by kernel_rfl
theorem ck_sleuthref01_Ref : chkFun Try.prog phi Try.f62 x_sleuthref01_Ref = true := by kernel_rfl
theorem ck_encoding_Writer_Exchange : chkFun Try.prog phi Try.f63 x_encoding_Writer_Exchange = true := by kernel_rfl
theorem ck_sleuthref01_Exchange : chkFun Try.prog phi Try.f64 x_sleuthref01_Exchange = true := by kernel_rfl
theorem ck_sleuthref01_Message : chkFun Try.prog phi Try.f65 x_sleuthref01_Message = true := by kernel_rfl
theorem ck_sleuthref01_ReadNumber : chkFun Try.prog phi Try.f66 x_sleuthref01_ReadNumber = true := by kernel_rfl
theorem ck_sleuthref01_ReadBool : chkFun Try.prog phi Try.f67 x_sleuthref01_ReadBool = true := by kernel_rfl
theorem ck_sleuthref01_ReadText : chkFun Try.prog phi Try.f68 x_sleuthref01_ReadText = true := by kernel_rfl
theorem ck_sleuthref01_ReadCount : chkFun Try.prog phi Try.f69 x_sleuthref01_ReadCount = true := by kernel_rfl
theorem ck_sleuthref01_ReadValue : chkFun Try.prog phi Try.f70 x_sleuthref01_ReadValue = true := by kernel_rfl
theorem ck_sleuthref01_ReadAttr : chkFun Try.prog phi Try.f71 x_sleuthref01_ReadAttr = true := by kernel_rfl
theorem ck_sleuthref01_ReadRef : chkFun Try.prog phi Try.f72 x_sleuthref01_ReadRef = true := by kernel_rfl
theorem ck_sleuthref01_ReadExchange : chkFun Try.prog phi Try.f73 x_sleuthref01_ReadExchange = true := by kernel_rfl
theorem ck_sleuthref01_ReadMessage : chkFun Try.prog phi Try.f74 x_sleuthref01_ReadMessage = true := by kernel_rfl
theorem ck_encoding_Reader_numbers : chkFun Try.prog phi Try.f75 x_encoding_Reader_numbers = true := by kernel_rfl
theorem ck_encoding_elements_api_Span : chkFun Try.prog phi Try.f76 x_encoding_elements_api_Span = true := by kernel_rfl
theorem ck_encoding_elements_api_Exchange : chkFun Try.prog phi Try.f77 x_encoding_elements_api_Exchange = true := by kernel_rfl
theorem ck_sleuthref01_Spans : chkFun Try.prog phi Try.f78 x_sleuthref01_Spans = true := by kernel_rfl
theorem ck_encoding_Writer_numbers : chkFun Try.prog phi Try.f79 x_encoding_Writer_numbers = true := by kernel_rfl
theorem ck_encoding_list_api_Span : chkFun Try.prog phi Try.f80 x_encoding_list_api_Span = true := by kernel_rfl
theorem ck_encoding_list_api_Exchange : chkFun Try.prog phi Try.f81 x_encoding_list_api_Exchange = true := by kernel_rfl
theorem ck_encoding_list_api_Attr : chkFun Try.prog phi Try.f82 x_encoding_list_api_Attr = true := by kernel_rfl
theorem ck_encoding_list_api_Ref : chkFun Try.prog phi Try.f83 x_encoding_list_api_Ref = true := by kernel_rfl
theorem ck_encoding_Reader_size : chkFun Try.prog phi Try.f84 x_encoding_Reader_size = true := by kernel_rfl
theorem ck_encoding_read_api_Value : chkFun Try.prog phi Try.f85 x_encoding_read_api_Value = true := by kernel_rfl
theorem ck_encoding_read_api_Attr : chkFun Try.prog phi Try.f86 x_encoding_read_api_Attr = true := by kernel_rfl
theorem ck_encoding_read_api_Ref : chkFun Try.prog phi Try.f87 x_encoding_read_api_Ref = true := by kernel_rfl
theorem ck_encoding_read_api_Exchange : chkFun Try.prog phi Try.f88 x_encoding_read_api_Exchange = true := by kernel_rfl
theorem ck_encoding_read_api_Message : chkFun Try.prog phi Try.f89 x_encoding_read_api_Message = true := by kernel_rfl
theorem ck_encoding_elements_api_Attr : chkFun Try.prog phi Try.f90 x_encoding_elements_api_Attr = true := by kernel_rfl
theorem ck_encoding_elements_api_Ref : chkFun Try.prog phi Try.f91 x_encoding_elements_api_Ref = true := by kernel_rfl
theorem ck_encoding_read_api_Span : chkFun Try.prog phi Try.f92 x_encoding_read_api_Span = true := by kernel_rfl
theorem ck_sleuthref01_number : chkFun Try.prog phi Try.f93 x_sleuthref01_number = true := by kernel_rfl
theorem ck_sleuthref01_sized : chkFun Try.prog phi Try.f94 x_sleuthref01_sized = true := by kernel_rfl
def Entry (id : FuncId) (X : XF) : Prop := ∃ fn, Try.prog.funcs[id]? = some fn ∧ chkFun Try.prog phi fn X = true ∧ (fn.name == "runtime.NumGoroutine") = false ∧ fn.body.isNone = false
theorem tb_sleuthlaw01_EncodingOrder : Entry 3 x_sleuthlaw01_EncodingOrder := ⟨Try.f3, Try.func3, ck_sleuthlaw01_EncodingOrder, by kernel_rfl, by kernel_rfl⟩
theorem tb_sleuthlaw01_EncodingNumbers : Entry 4 x_sleuthlaw01_EncodingNumbers := ⟨Try.f4, Try.func4, ck_sleuthlaw01_EncodingNumbers, by kernel_rfl, by kernel_rfl⟩
theorem tb_sleuthlaw01_EncodingWrites : Entry 5 x_sleuthlaw01_EncodingWrites := ⟨Try.f5, Try.func5, ck_sleuthlaw01_EncodingWrites, by kernel_rfl, by kernel_rfl⟩
theorem tb_sleuthlaw01_EncodingReads : Entry 6 x_sleuthlaw01_EncodingReads := ⟨Try.f6, Try.func6, ck_sleuthlaw01_EncodingReads, by kernel_rfl, by kernel_rfl⟩
theorem tb_sleuthlaw01_EncodingDecodes : Entry 7 x_sleuthlaw01_EncodingDecodes := ⟨Try.f7, Try.func7, ck_sleuthlaw01_EncodingDecodes, by kernel_rfl, by kernel_rfl⟩
theorem tb_sleuthlaw01_EncodingSpans : Entry 8 x_sleuthlaw01_EncodingSpans := ⟨Try.f8, Try.func8, ck_sleuthlaw01_EncodingSpans, by kernel_rfl, by kernel_rfl⟩
theorem tb_sleuthlaw01_EncodingCuts : Entry 9 x_sleuthlaw01_EncodingCuts := ⟨Try.f9, Try.func9, ck_sleuthlaw01_EncodingCuts, by kernel_rfl, by kernel_rfl⟩
theorem tb_sleuthlaw01_EncodingNil : Entry 10 x_sleuthlaw01_EncodingNil := ⟨Try.f10, Try.func10, ck_sleuthlaw01_EncodingNil, by kernel_rfl, by kernel_rfl⟩
theorem tb_sleuthlaw01_EncodingFragments : Entry 11 x_sleuthlaw01_EncodingFragments := ⟨Try.f11, Try.func11, ck_sleuthlaw01_EncodingFragments, by kernel_rfl, by kernel_rfl⟩
theorem tb_encoding_Writer_Number : Entry 12 x_encoding_Writer_Number := ⟨Try.f12, Try.func12, ck_encoding_Writer_Number, by kernel_rfl, by kernel_rfl⟩
theorem tb_encoding_Writer_Bytes : Entry 13 x_encoding_Writer_Bytes := ⟨Try.f13, Try.func13, ck_encoding_Writer_Bytes, by kernel_rfl, by kernel_rfl⟩
theorem tb_sleuthlaw01_known : Entry 14 x_sleuthlaw01_known := ⟨Try.f14, Try.func14, ck_sleuthlaw01_known, by kernel_rfl, by kernel_rfl⟩
theorem tb_encoding_NewReader : Entry 15 x_encoding_NewReader := ⟨Try.f15, Try.func15, ck_encoding_NewReader, by kernel_rfl, by kernel_rfl⟩
theorem tb_sleuthref01_Number : Entry 16 x_sleuthref01_Number := ⟨Try.f16, Try.func16, ck_sleuthref01_Number, by kernel_rfl, by kernel_rfl⟩
theorem tb_encoding_Writer_Len : Entry 17 x_encoding_Writer_Len := ⟨Try.f17, Try.func17, ck_encoding_Writer_Len, by kernel_rfl, by kernel_rfl⟩
theorem tb_encoding_Reader_Number : Entry 18 x_encoding_Reader_Number := ⟨Try.f18, Try.func18, ck_encoding_Reader_Number, by kernel_rfl, by kernel_rfl⟩
theorem tb_encoding_Reader_End : Entry 19 x_encoding_Reader_End := ⟨Try.f19, Try.func19, ck_encoding_Reader_End, by kernel_rfl, by kernel_rfl⟩
theorem tb_encoding_Reader_Left : Entry 20 x_encoding_Reader_Left := ⟨Try.f20, Try.func20, ck_encoding_Reader_Left, by kernel_rfl, by kernel_rfl⟩
theorem tb_sleuthlaw01_part : Entry 21 x_sleuthlaw01_part := ⟨Try.f21, Try.func21, ck_sleuthlaw01_part, by kernel_rfl, by kernel_rfl⟩
theorem tb_sleuthlaw01_reads : Entry 22 x_sleuthlaw01_reads := ⟨Try.f22, Try.func22, ck_sleuthlaw01_reads, by kernel_rfl, by kernel_rfl⟩
theorem tb_encoding_Reader_Err : Entry 23 x_encoding_Reader_Err := ⟨Try.f23, Try.func23, ck_encoding_Reader_Err, by kernel_rfl, by kernel_rfl⟩
theorem tb_sleuthref01_End : Entry 24 x_sleuthref01_End := ⟨Try.f24, Try.func24, ck_sleuthref01_End, by kernel_rfl, by kernel_rfl⟩
theorem tb_encoding_DecodeSpan : Entry 25 x_encoding_DecodeSpan := ⟨Try.f25, Try.func25, ck_encoding_DecodeSpan, by kernel_rfl, by kernel_rfl⟩
theorem tb_encoding_DecodeFragment : Entry 26 x_encoding_DecodeFragment := ⟨Try.f26, Try.func26, ck_encoding_DecodeFragment, by kernel_rfl, by kernel_rfl⟩
theorem tb_encoding_DecodeTrace : Entry 27 x_encoding_DecodeTrace := ⟨Try.f27, Try.func27, ck_encoding_DecodeTrace, by kernel_rfl, by kernel_rfl⟩
theorem tb_sleuthref01_ReadSpan : Entry 28 x_sleuthref01_ReadSpan := ⟨Try.f28, Try.func28, ck_sleuthref01_ReadSpan, by kernel_rfl, by kernel_rfl⟩
theorem tb_sleuthref01_Span : Entry 29 x_sleuthref01_Span := ⟨Try.f29, Try.func29, ck_sleuthref01_Span, by kernel_rfl, by kernel_rfl⟩
theorem tb_sleuthref01_Fragment : Entry 30 x_sleuthref01_Fragment := ⟨Try.f30, Try.func30, ck_sleuthref01_Fragment, by kernel_rfl, by kernel_rfl⟩
theorem tb_sleuthref01_Trace : Entry 31 x_sleuthref01_Trace := ⟨Try.f31, Try.func31, ck_sleuthref01_Trace, by kernel_rfl, by kernel_rfl⟩
theorem tb_sleuthlaw01_short : Entry 32 x_sleuthlaw01_short := ⟨Try.f32, Try.func32, ck_sleuthlaw01_short, by kernel_rfl, by kernel_rfl⟩
theorem tb_encoding_EncodeSpan : Entry 33 x_encoding_EncodeSpan := ⟨Try.f33, Try.func33, ck_encoding_EncodeSpan, by kernel_rfl, by kernel_rfl⟩
theorem tb_sleuthlaw01_shortSpans : Entry 34 x_sleuthlaw01_shortSpans := ⟨Try.f34, Try.func34, ck_sleuthlaw01_shortSpans, by kernel_rfl, by kernel_rfl⟩
theorem tb_encoding_EncodeFragment : Entry 35 x_encoding_EncodeFragment := ⟨Try.f35, Try.func35, ck_encoding_EncodeFragment, by kernel_rfl, by kernel_rfl⟩
theorem tb_encoding_Writer_Bool : Entry 36 x_encoding_Writer_Bool := ⟨Try.f36, Try.func36, ck_encoding_Writer_Bool, by kernel_rfl, by kernel_rfl⟩
theorem tb_encoding_Writer_Text : Entry 37 x_encoding_Writer_Text := ⟨Try.f37, Try.func37, ck_encoding_Writer_Text, by kernel_rfl, by kernel_rfl⟩
theorem tb_encoding_Writer_Span : Entry 38 x_encoding_Writer_Span := ⟨Try.f38, Try.func38, ck_encoding_Writer_Span, by kernel_rfl, by kernel_rfl⟩
theorem tb_encoding_Writer_Message : Entry 39 x_encoding_Writer_Message := ⟨Try.f39, Try.func39, ck_encoding_Writer_Message, by kernel_rfl, by kernel_rfl⟩
theorem tb_encoding_Reader_Bool : Entry 40 x_encoding_Reader_Bool := ⟨Try.f40, Try.func40, ck_encoding_Reader_Bool, by kernel_rfl, by kernel_rfl⟩
theorem tb_encoding_Reader_Text : Entry 41 x_encoding_Reader_Text := ⟨Try.f41, Try.func41, ck_encoding_Reader_Text, by kernel_rfl, by kernel_rfl⟩
theorem tb_encoding_Reader_Count : Entry 42 x_encoding_Reader_Count := ⟨Try.f42, Try.func42, ck_encoding_Reader_Count, by kernel_rfl, by kernel_rfl⟩
theorem tb_encoding_Reader_Value : Entry 43 x_encoding_Reader_Value := ⟨Try.f43, Try.func43, ck_encoding_Reader_Value, by kernel_rfl, by kernel_rfl⟩
theorem tb_encoding_Reader_Attr : Entry 44 x_encoding_Reader_Attr := ⟨Try.f44, Try.func44, ck_encoding_Reader_Attr, by kernel_rfl, by kernel_rfl⟩
theorem tb_encoding_Reader_Ref : Entry 45 x_encoding_Reader_Ref := ⟨Try.f45, Try.func45, ck_encoding_Reader_Ref, by kernel_rfl, by kernel_rfl⟩
theorem tb_encoding_Reader_Exchange : Entry 46 x_encoding_Reader_Exchange := ⟨Try.f46, Try.func46, ck_encoding_Reader_Exchange, by kernel_rfl, by kernel_rfl⟩
theorem tb_encoding_Reader_Message : Entry 47 x_encoding_Reader_Message := ⟨Try.f47, Try.func47, ck_encoding_Reader_Message, by kernel_rfl, by kernel_rfl⟩
theorem tb_encoding_Reader_Span : Entry 48 x_encoding_Reader_Span := ⟨Try.f48, Try.func48, ck_encoding_Reader_Span, by kernel_rfl, by kernel_rfl⟩
theorem tb_encoding_EncodeTrace : Entry 49 x_encoding_EncodeTrace := ⟨Try.f49, Try.func49, ck_encoding_EncodeTrace, by kernel_rfl, by kernel_rfl⟩
theorem tb_encoding_magnitude : Entry 50 x_encoding_magnitude := ⟨Try.f50, Try.func50, ck_encoding_magnitude, by kernel_rfl, by kernel_rfl⟩
theorem tb_encoding_Writer_Attr : Entry 51 x_encoding_Writer_Attr := ⟨Try.f51, Try.func51, ck_encoding_Writer_Attr, by kernel_rfl, by kernel_rfl⟩
theorem tb_sleuthref01_magnitude : Entry 52 x_sleuthref01_magnitude := ⟨Try.f52, Try.func52, ck_sleuthref01_magnitude, by kernel_rfl, by kernel_rfl⟩
theorem tb_encoding_Reader_ok : Entry 53 x_encoding_Reader_ok := ⟨Try.f53, Try.func53, ck_encoding_Reader_ok, by kernel_rfl, by kernel_rfl⟩
theorem tb_encoding_Reader_number : Entry 54 x_encoding_Reader_number := ⟨Try.f54, Try.func54, ck_encoding_Reader_number, by kernel_rfl, by kernel_rfl⟩
theorem tb_encoding_Reader_fail : Entry 55 x_encoding_Reader_fail := ⟨Try.f55, Try.func55, ck_encoding_Reader_fail, by kernel_rfl, by kernel_rfl⟩
theorem tb_sleuthref01_Bool : Entry 56 x_sleuthref01_Bool := ⟨Try.f56, Try.func56, ck_sleuthref01_Bool, by kernel_rfl, by kernel_rfl⟩
theorem tb_sleuthref01_Text : Entry 57 x_sleuthref01_Text := ⟨Try.f57, Try.func57, ck_sleuthref01_Text, by kernel_rfl, by kernel_rfl⟩
theorem tb_encoding_Writer_Value : Entry 58 x_encoding_Writer_Value := ⟨Try.f58, Try.func58, ck_encoding_Writer_Value, by kernel_rfl, by kernel_rfl⟩
theorem tb_sleuthref01_Value : Entry 59 x_sleuthref01_Value := ⟨Try.f59, Try.func59, ck_sleuthref01_Value, by kernel_rfl, by kernel_rfl⟩
theorem tb_sleuthref01_Attr : Entry 60 x_sleuthref01_Attr := ⟨Try.f60, Try.func60, ck_sleuthref01_Attr, by kernel_rfl, by kernel_rfl⟩
theorem tb_encoding_Writer_Ref : Entry 61 x_encoding_Writer_Ref := ⟨Try.f61, Try.func61, ck_encoding_Writer_Ref, by kernel_rfl, by kernel_rfl⟩
theorem tb_sleuthref01_Ref : Entry 62 x_sleuthref01_Ref := ⟨Try.f62, Try.func62, ck_sleuthref01_Ref, by kernel_rfl, by kernel_rfl⟩
theorem tb_encoding_Writer_Exchange : Entry 63 x_encoding_Writer_Exchange := ⟨Try.f63, Try.func63, ck_encoding_Writer_Exchange, by kernel_rfl, by kernel_rfl⟩
theorem tb_sleuthref01_Exchange : Entry 64 x_sleuthref01_Exchange := ⟨Try.f64, Try.func64, ck_sleuthref01_Exchange, by kernel_rfl, by kernel_rfl⟩
theorem tb_sleuthref01_Message : Entry 65 x_sleuthref01_Message := ⟨Try.f65, Try.func65, ck_sleuthref01_Message, by kernel_rfl, by kernel_rfl⟩
theorem tb_sleuthref01_ReadNumber : Entry 66 x_sleuthref01_ReadNumber := ⟨Try.f66, Try.func66, ck_sleuthref01_ReadNumber, by kernel_rfl, by kernel_rfl⟩
theorem tb_sleuthref01_ReadBool : Entry 67 x_sleuthref01_ReadBool := ⟨Try.f67, Try.func67, ck_sleuthref01_ReadBool, by kernel_rfl, by kernel_rfl⟩
theorem tb_sleuthref01_ReadText : Entry 68 x_sleuthref01_ReadText := ⟨Try.f68, Try.func68, ck_sleuthref01_ReadText, by kernel_rfl, by kernel_rfl⟩
theorem tb_sleuthref01_ReadCount : Entry 69 x_sleuthref01_ReadCount := ⟨Try.f69, Try.func69, ck_sleuthref01_ReadCount, by kernel_rfl, by kernel_rfl⟩
theorem tb_sleuthref01_ReadValue : Entry 70 x_sleuthref01_ReadValue := ⟨Try.f70, Try.func70, ck_sleuthref01_ReadValue, by kernel_rfl, by kernel_rfl⟩
theorem tb_sleuthref01_ReadAttr : Entry 71 x_sleuthref01_ReadAttr := ⟨Try.f71, Try.func71, ck_sleuthref01_ReadAttr, by kernel_rfl, by kernel_rfl⟩
theorem tb_sleuthref01_ReadRef : Entry 72 x_sleuthref01_ReadRef := ⟨Try.f72, Try.func72, ck_sleuthref01_ReadRef, by kernel_rfl, by kernel_rfl⟩
theorem tb_sleuthref01_ReadExchange : Entry 73 x_sleuthref01_ReadExchange := ⟨Try.f73, Try.func73, ck_sleuthref01_ReadExchange, by kernel_rfl, by kernel_rfl⟩
theorem tb_sleuthref01_ReadMessage : Entry 74 x_sleuthref01_ReadMessage := ⟨Try.f74, Try.func74, ck_sleuthref01_ReadMessage, by kernel_rfl, by kernel_rfl⟩
theorem tb_encoding_Reader_numbers : Entry 75 x_encoding_Reader_numbers := ⟨Try.f75, Try.func75, ck_encoding_Reader_numbers, by kernel_rfl, by kernel_rfl⟩
theorem tb_encoding_elements_api_Span : Entry 76 x_encoding_elements_api_Span := ⟨Try.f76, Try.func76, ck_encoding_elements_api_Span, by kernel_rfl, by kernel_rfl⟩
theorem tb_encoding_elements_api_Exchange : Entry 77 x_encoding_elements_api_Exchange := ⟨Try.f77, Try.func77, ck_encoding_elements_api_Exchange, by kernel_rfl, by kernel_rfl⟩
theorem tb_sleuthref01_Spans : Entry 78 x_sleuthref01_Spans := ⟨Try.f78, Try.func78, ck_sleuthref01_Spans, by kernel_rfl, by kernel_rfl⟩
theorem tb_encoding_Writer_numbers : Entry 79 x_encoding_Writer_numbers := ⟨Try.f79, Try.func79, ck_encoding_Writer_numbers, by kernel_rfl, by kernel_rfl⟩
theorem tb_encoding_list_api_Span : Entry 80 x_encoding_list_api_Span := ⟨Try.f80, Try.func80, ck_encoding_list_api_Span, by kernel_rfl, by kernel_rfl⟩
theorem tb_encoding_list_api_Exchange : Entry 81 x_encoding_list_api_Exchange := ⟨Try.f81, Try.func81, ck_encoding_list_api_Exchange, by kernel_rfl, by kernel_rfl⟩
theorem tb_encoding_list_api_Attr : Entry 82 x_encoding_list_api_Attr := ⟨Try.f82, Try.func82, ck_encoding_list_api_Attr, by kernel_rfl, by kernel_rfl⟩
theorem tb_encoding_list_api_Ref : Entry 83 x_encoding_list_api_Ref := ⟨Try.f83, Try.func83, ck_encoding_list_api_Ref, by kernel_rfl, by kernel_rfl⟩
theorem tb_encoding_Reader_size : Entry 84 x_encoding_Reader_size := ⟨Try.f84, Try.func84, ck_encoding_Reader_size, by kernel_rfl, by kernel_rfl⟩
theorem tb_encoding_read_api_Value : Entry 85 x_encoding_read_api_Value := ⟨Try.f85, Try.func85, ck_encoding_read_api_Value, by kernel_rfl, by kernel_rfl⟩
theorem tb_encoding_read_api_Attr : Entry 86 x_encoding_read_api_Attr := ⟨Try.f86, Try.func86, ck_encoding_read_api_Attr, by kernel_rfl, by kernel_rfl⟩
theorem tb_encoding_read_api_Ref : Entry 87 x_encoding_read_api_Ref := ⟨Try.f87, Try.func87, ck_encoding_read_api_Ref, by kernel_rfl, by kernel_rfl⟩
theorem tb_encoding_read_api_Exchange : Entry 88 x_encoding_read_api_Exchange := ⟨Try.f88, Try.func88, ck_encoding_read_api_Exchange, by kernel_rfl, by kernel_rfl⟩
theorem tb_encoding_read_api_Message : Entry 89 x_encoding_read_api_Message := ⟨Try.f89, Try.func89, ck_encoding_read_api_Message, by kernel_rfl, by kernel_rfl⟩
theorem tb_encoding_elements_api_Attr : Entry 90 x_encoding_elements_api_Attr := ⟨Try.f90, Try.func90, ck_encoding_elements_api_Attr, by kernel_rfl, by kernel_rfl⟩
theorem tb_encoding_elements_api_Ref : Entry 91 x_encoding_elements_api_Ref := ⟨Try.f91, Try.func91, ck_encoding_elements_api_Ref, by kernel_rfl, by kernel_rfl⟩
theorem tb_encoding_read_api_Span : Entry 92 x_encoding_read_api_Span := ⟨Try.f92, Try.func92, ck_encoding_read_api_Span, by kernel_rfl, by kernel_rfl⟩
theorem tb_sleuthref01_number : Entry 93 x_sleuthref01_number := ⟨Try.f93, Try.func93, ck_sleuthref01_number, by kernel_rfl, by kernel_rfl⟩
theorem tb_sleuthref01_sized : Entry 94 x_sleuthref01_sized := ⟨Try.f94, Try.func94, ck_sleuthref01_sized, by kernel_rfl, by kernel_rfl⟩
theorem Entry.pick {a id : FuncId} {x X : XF} (t : Entry a x) (h1 : some a = some id) (h2 : some x = some X) : Entry id X := by cases h1; cases h2; exact t
theorem entries : ∀ f id X, phi f = some id → XP f = some X → Entry id X
  | 0, _, _, h1, h2 => tb_sleuthlaw01_EncodingOrder.pick h1 h2
  | 1, _, _, h1, h2 => tb_sleuthlaw01_EncodingNumbers.pick h1 h2
  | 2, _, _, h1, h2 => tb_sleuthlaw01_EncodingWrites.pick h1 h2
  | 3, _, _, h1, h2 => tb_sleuthlaw01_EncodingReads.pick h1 h2
  | 4, _, _, h1, h2 => tb_sleuthlaw01_EncodingDecodes.pick h1 h2
  | 5, _, _, h1, h2 => tb_sleuthlaw01_EncodingSpans.pick h1 h2
  | 6, _, _, h1, h2 => tb_sleuthlaw01_EncodingCuts.pick h1 h2
  | 7, _, _, h1, h2 => tb_sleuthlaw01_EncodingNil.pick h1 h2
  | 8, _, _, h1, h2 => tb_sleuthlaw01_EncodingFragments.pick h1 h2
  | 9, _, _, h1, h2 => tb_encoding_Writer_Number.pick h1 h2
  | 10, _, _, h1, h2 => tb_encoding_Writer_Bytes.pick h1 h2
  | 11, _, _, h1, h2 => tb_sleuthlaw01_known.pick h1 h2
  | 12, _, _, h1, h2 => tb_encoding_NewReader.pick h1 h2
  | 13, _, _, h1, h2 => tb_sleuthref01_Number.pick h1 h2
  | 14, _, _, h1, h2 => tb_encoding_Writer_Len.pick h1 h2
  | 15, _, _, h1, h2 => tb_encoding_Reader_Number.pick h1 h2
  | 16, _, _, h1, h2 => tb_encoding_Reader_End.pick h1 h2
  | 17, _, _, h1, h2 => tb_encoding_Reader_Left.pick h1 h2
  | 18, _, _, h1, h2 => tb_sleuthlaw01_part.pick h1 h2
  | 19, _, _, h1, h2 => tb_sleuthlaw01_reads.pick h1 h2
  | 20, _, _, h1, h2 => tb_encoding_Reader_Err.pick h1 h2
  | 21, _, _, h1, h2 => tb_sleuthref01_End.pick h1 h2
  | 22, _, _, h1, h2 => tb_encoding_DecodeSpan.pick h1 h2
  | 23, _, _, h1, h2 => tb_encoding_DecodeFragment.pick h1 h2
  | 24, _, _, h1, h2 => tb_encoding_DecodeTrace.pick h1 h2
  | 25, _, _, h1, h2 => tb_sleuthref01_ReadSpan.pick h1 h2
  | 26, _, _, h1, h2 => tb_sleuthref01_Span.pick h1 h2
  | 27, _, _, h1, h2 => tb_sleuthref01_Fragment.pick h1 h2
  | 28, _, _, h1, h2 => tb_sleuthref01_Trace.pick h1 h2
  | 29, _, _, h1, h2 => tb_sleuthlaw01_short.pick h1 h2
  | 30, _, _, h1, h2 => tb_encoding_EncodeSpan.pick h1 h2
  | 31, _, _, h1, h2 => tb_sleuthlaw01_shortSpans.pick h1 h2
  | 32, _, _, h1, h2 => tb_encoding_EncodeFragment.pick h1 h2
  | 33, _, _, h1, h2 => tb_encoding_Writer_Bool.pick h1 h2
  | 34, _, _, h1, h2 => tb_encoding_Writer_Text.pick h1 h2
  | 35, _, _, h1, h2 => tb_encoding_Writer_Span.pick h1 h2
  | 36, _, _, h1, h2 => tb_encoding_Writer_Message.pick h1 h2
  | 37, _, _, h1, h2 => tb_encoding_Reader_Bool.pick h1 h2
  | 38, _, _, h1, h2 => tb_encoding_Reader_Text.pick h1 h2
  | 39, _, _, h1, h2 => tb_encoding_Reader_Count.pick h1 h2
  | 40, _, _, h1, h2 => tb_encoding_Reader_Value.pick h1 h2
  | 41, _, _, h1, h2 => tb_encoding_Reader_Attr.pick h1 h2
  | 42, _, _, h1, h2 => tb_encoding_Reader_Ref.pick h1 h2
  | 43, _, _, h1, h2 => tb_encoding_Reader_Exchange.pick h1 h2
  | 44, _, _, h1, h2 => tb_encoding_Reader_Message.pick h1 h2
  | 45, _, _, h1, h2 => tb_encoding_Reader_Span.pick h1 h2
  | 46, _, _, h1, h2 => tb_encoding_EncodeTrace.pick h1 h2
  | 47, _, _, h1, h2 => tb_encoding_magnitude.pick h1 h2
  | 48, _, _, h1, h2 => tb_encoding_Writer_Attr.pick h1 h2
  | 49, _, _, h1, h2 => tb_sleuthref01_magnitude.pick h1 h2
  | 50, _, _, h1, h2 => tb_encoding_Reader_ok.pick h1 h2
  | 51, _, _, h1, h2 => tb_encoding_Reader_number.pick h1 h2
  | 52, _, _, h1, h2 => tb_encoding_Reader_fail.pick h1 h2
  | 53, _, _, h1, h2 => tb_sleuthref01_Bool.pick h1 h2
  | 54, _, _, h1, h2 => tb_sleuthref01_Text.pick h1 h2
  | 55, _, _, h1, h2 => tb_encoding_Writer_Value.pick h1 h2
  | 56, _, _, h1, h2 => tb_sleuthref01_Value.pick h1 h2
  | 57, _, _, h1, h2 => tb_sleuthref01_Attr.pick h1 h2
  | 58, _, _, h1, h2 => tb_encoding_Writer_Ref.pick h1 h2
  | 59, _, _, h1, h2 => tb_sleuthref01_Ref.pick h1 h2
  | 60, _, _, h1, h2 => tb_encoding_Writer_Exchange.pick h1 h2
  | 61, _, _, h1, h2 => tb_sleuthref01_Exchange.pick h1 h2
  | 62, _, _, h1, h2 => tb_sleuthref01_Message.pick h1 h2
  | 63, _, _, h1, h2 => tb_sleuthref01_ReadNumber.pick h1 h2
  | 64, _, _, h1, h2 => tb_sleuthref01_ReadBool.pick h1 h2
  | 65, _, _, h1, h2 => tb_sleuthref01_ReadText.pick h1 h2
  | 66, _, _, h1, h2 => tb_sleuthref01_ReadCount.pick h1 h2
  | 67, _, _, h1, h2 => tb_sleuthref01_ReadValue.pick h1 h2
  | 68, _, _, h1, h2 => tb_sleuthref01_ReadAttr.pick h1 h2
  | 69, _, _, h1, h2 => tb_sleuthref01_ReadRef.pick h1 h2
  | 70, _, _, h1, h2 => tb_sleuthref01_ReadExchange.pick h1 h2
  | 71, _, _, h1, h2 => tb_sleuthref01_ReadMessage.pick h1 h2
  | 72, _, _, h1, h2 => tb_encoding_Reader_numbers.pick h1 h2
  | 73, _, _, h1, h2 => tb_encoding_elements_api_Span.pick h1 h2
  | 74, _, _, h1, h2 => tb_encoding_elements_api_Exchange.pick h1 h2
  | 75, _, _, h1, h2 => tb_sleuthref01_Spans.pick h1 h2
  | 76, _, _, h1, h2 => tb_encoding_Writer_numbers.pick h1 h2
  | 77, _, _, h1, h2 => tb_encoding_list_api_Span.pick h1 h2
  | 78, _, _, h1, h2 => tb_encoding_list_api_Exchange.pick h1 h2
  | 79, _, _, h1, h2 => tb_encoding_list_api_Attr.pick h1 h2
  | 80, _, _, h1, h2 => tb_encoding_list_api_Ref.pick h1 h2
  | 81, _, _, h1, h2 => tb_encoding_Reader_size.pick h1 h2
  | 82, _, _, h1, h2 => tb_encoding_read_api_Value.pick h1 h2
  | 83, _, _, h1, h2 => tb_encoding_read_api_Attr.pick h1 h2
  | 84, _, _, h1, h2 => tb_encoding_read_api_Ref.pick h1 h2
  | 85, _, _, h1, h2 => tb_encoding_read_api_Exchange.pick h1 h2
  | 86, _, _, h1, h2 => tb_encoding_read_api_Message.pick h1 h2
  | 87, _, _, h1, h2 => tb_encoding_elements_api_Attr.pick h1 h2
  | 88, _, _, h1, h2 => tb_encoding_elements_api_Ref.pick h1 h2
  | 89, _, _, h1, h2 => tb_encoding_read_api_Span.pick h1 h2
  | 90, _, _, h1, h2 => tb_sleuthref01_number.pick h1 h2
  | 91, _, _, h1, h2 => tb_sleuthref01_sized.pick h1 h2
  | _ + 92, _, _, h1, _ => nomatch (show (none : Option FuncId) = some _ from h1)
theorem there : ∀ f id, phi f = some id → ∃ X, XP f = some X
  | 0, _, h1 => ⟨x_sleuthlaw01_EncodingOrder, rfl⟩
  | 1, _, h1 => ⟨x_sleuthlaw01_EncodingNumbers, rfl⟩
  | 2, _, h1 => ⟨x_sleuthlaw01_EncodingWrites, rfl⟩
  | 3, _, h1 => ⟨x_sleuthlaw01_EncodingReads, rfl⟩
  | 4, _, h1 => ⟨x_sleuthlaw01_EncodingDecodes, rfl⟩
  | 5, _, h1 => ⟨x_sleuthlaw01_EncodingSpans, rfl⟩
  | 6, _, h1 => ⟨x_sleuthlaw01_EncodingCuts, rfl⟩
  | 7, _, h1 => ⟨x_sleuthlaw01_EncodingNil, rfl⟩
  | 8, _, h1 => ⟨x_sleuthlaw01_EncodingFragments, rfl⟩
  | 9, _, h1 => ⟨x_encoding_Writer_Number, rfl⟩
  | 10, _, h1 => ⟨x_encoding_Writer_Bytes, rfl⟩
  | 11, _, h1 => ⟨x_sleuthlaw01_known, rfl⟩
  | 12, _, h1 => ⟨x_encoding_NewReader, rfl⟩
  | 13, _, h1 => ⟨x_sleuthref01_Number, rfl⟩
  | 14, _, h1 => ⟨x_encoding_Writer_Len, rfl⟩
  | 15, _, h1 => ⟨x_encoding_Reader_Number, rfl⟩
  | 16, _, h1 => ⟨x_encoding_Reader_End, rfl⟩
  | 17, _, h1 => ⟨x_encoding_Reader_Left, rfl⟩
  | 18, _, h1 => ⟨x_sleuthlaw01_part, rfl⟩
  | 19, _, h1 => ⟨x_sleuthlaw01_reads, rfl⟩
  | 20, _, h1 => ⟨x_encoding_Reader_Err, rfl⟩
  | 21, _, h1 => ⟨x_sleuthref01_End, rfl⟩
  | 22, _, h1 => ⟨x_encoding_DecodeSpan, rfl⟩
  | 23, _, h1 => ⟨x_encoding_DecodeFragment, rfl⟩
  | 24, _, h1 => ⟨x_encoding_DecodeTrace, rfl⟩
  | 25, _, h1 => ⟨x_sleuthref01_ReadSpan, rfl⟩
  | 26, _, h1 => ⟨x_sleuthref01_Span, rfl⟩
  | 27, _, h1 => ⟨x_sleuthref01_Fragment, rfl⟩
  | 28, _, h1 => ⟨x_sleuthref01_Trace, rfl⟩
  | 29, _, h1 => ⟨x_sleuthlaw01_short, rfl⟩
  | 30, _, h1 => ⟨x_encoding_EncodeSpan, rfl⟩
  | 31, _, h1 => ⟨x_sleuthlaw01_shortSpans, rfl⟩
  | 32, _, h1 => ⟨x_encoding_EncodeFragment, rfl⟩
  | 33, _, h1 => ⟨x_encoding_Writer_Bool, rfl⟩
  | 34, _, h1 => ⟨x_encoding_Writer_Text, rfl⟩
  | 35, _, h1 => ⟨x_encoding_Writer_Span, rfl⟩
  | 36, _, h1 => ⟨x_encoding_Writer_Message, rfl⟩
  | 37, _, h1 => ⟨x_encoding_Reader_Bool, rfl⟩
  | 38, _, h1 => ⟨x_encoding_Reader_Text, rfl⟩
  | 39, _, h1 => ⟨x_encoding_Reader_Count, rfl⟩
  | 40, _, h1 => ⟨x_encoding_Reader_Value, rfl⟩
  | 41, _, h1 => ⟨x_encoding_Reader_Attr, rfl⟩
  | 42, _, h1 => ⟨x_encoding_Reader_Ref, rfl⟩
  | 43, _, h1 => ⟨x_encoding_Reader_Exchange, rfl⟩
  | 44, _, h1 => ⟨x_encoding_Reader_Message, rfl⟩
  | 45, _, h1 => ⟨x_encoding_Reader_Span, rfl⟩
  | 46, _, h1 => ⟨x_encoding_EncodeTrace, rfl⟩
  | 47, _, h1 => ⟨x_encoding_magnitude, rfl⟩
  | 48, _, h1 => ⟨x_encoding_Writer_Attr, rfl⟩
  | 49, _, h1 => ⟨x_sleuthref01_magnitude, rfl⟩
  | 50, _, h1 => ⟨x_encoding_Reader_ok, rfl⟩
  | 51, _, h1 => ⟨x_encoding_Reader_number, rfl⟩
  | 52, _, h1 => ⟨x_encoding_Reader_fail, rfl⟩
  | 53, _, h1 => ⟨x_sleuthref01_Bool, rfl⟩
  | 54, _, h1 => ⟨x_sleuthref01_Text, rfl⟩
  | 55, _, h1 => ⟨x_encoding_Writer_Value, rfl⟩
  | 56, _, h1 => ⟨x_sleuthref01_Value, rfl⟩
  | 57, _, h1 => ⟨x_sleuthref01_Attr, rfl⟩
  | 58, _, h1 => ⟨x_encoding_Writer_Ref, rfl⟩
  | 59, _, h1 => ⟨x_sleuthref01_Ref, rfl⟩
  | 60, _, h1 => ⟨x_encoding_Writer_Exchange, rfl⟩
  | 61, _, h1 => ⟨x_sleuthref01_Exchange, rfl⟩
  | 62, _, h1 => ⟨x_sleuthref01_Message, rfl⟩
  | 63, _, h1 => ⟨x_sleuthref01_ReadNumber, rfl⟩
  | 64, _, h1 => ⟨x_sleuthref01_ReadBool, rfl⟩
  | 65, _, h1 => ⟨x_sleuthref01_ReadText, rfl⟩
  | 66, _, h1 => ⟨x_sleuthref01_ReadCount, rfl⟩
  | 67, _, h1 => ⟨x_sleuthref01_ReadValue, rfl⟩
  | 68, _, h1 => ⟨x_sleuthref01_ReadAttr, rfl⟩
  | 69, _, h1 => ⟨x_sleuthref01_ReadRef, rfl⟩
  | 70, _, h1 => ⟨x_sleuthref01_ReadExchange, rfl⟩
  | 71, _, h1 => ⟨x_sleuthref01_ReadMessage, rfl⟩
  | 72, _, h1 => ⟨x_encoding_Reader_numbers, rfl⟩
  | 73, _, h1 => ⟨x_encoding_elements_api_Span, rfl⟩
  | 74, _, h1 => ⟨x_encoding_elements_api_Exchange, rfl⟩
  | 75, _, h1 => ⟨x_sleuthref01_Spans, rfl⟩
  | 76, _, h1 => ⟨x_encoding_Writer_numbers, rfl⟩
  | 77, _, h1 => ⟨x_encoding_list_api_Span, rfl⟩
  | 78, _, h1 => ⟨x_encoding_list_api_Exchange, rfl⟩
  | 79, _, h1 => ⟨x_encoding_list_api_Attr, rfl⟩
  | 80, _, h1 => ⟨x_encoding_list_api_Ref, rfl⟩
  | 81, _, h1 => ⟨x_encoding_Reader_size, rfl⟩
  | 82, _, h1 => ⟨x_encoding_read_api_Value, rfl⟩
  | 83, _, h1 => ⟨x_encoding_read_api_Attr, rfl⟩
  | 84, _, h1 => ⟨x_encoding_read_api_Ref, rfl⟩
  | 85, _, h1 => ⟨x_encoding_read_api_Exchange, rfl⟩
  | 86, _, h1 => ⟨x_encoding_read_api_Message, rfl⟩
  | 87, _, h1 => ⟨x_encoding_elements_api_Attr, rfl⟩
  | 88, _, h1 => ⟨x_encoding_elements_api_Ref, rfl⟩
  | 89, _, h1 => ⟨x_encoding_read_api_Span, rfl⟩
  | 90, _, h1 => ⟨x_sleuthref01_number, rfl⟩
  | 91, _, h1 => ⟨x_sleuthref01_sized, rfl⟩
  | _ + 92, _, h1 => nomatch (show (none : Option FuncId) = some _ from h1)
theorem table : Table Try.prog phi XP where
  follows := by kernel_rfl
  there := fun f id h => by
    obtain ⟨X, hx⟩ := there f id h
    obtain ⟨fn, h1, _, h2, h3⟩ := entries f id X h hx
    exact ⟨fn, h1, h2, h3⟩
  code := fun f id X h hx => by
    obtain ⟨fn, h1, h2, _⟩ := entries f id X h hx
    exact ⟨fn, h1, h2⟩
theorem prog_own : ownKnob Try.prog.godebug = none := by kernel_rfl
theorem prog_laidOut : laidOutB Try.prog = true := by kernel_rfl
end Go.Proofs.Sl
