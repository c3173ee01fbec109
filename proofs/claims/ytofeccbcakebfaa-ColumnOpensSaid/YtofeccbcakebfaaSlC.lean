/- The functions of the program are what the evaluator has for them. -/
import Derived.Test.YtofeccbcakebfaaProg
import Derived.Test.YtofeccbcakebfaaSlB
import Derived.Test.YtofeccbcakebfaaSlP
set_option linter.unusedVariables false
set_option linter.unusedSimpArgs false
set_option linter.unnecessarySimpa false
set_option maxRecDepth 100000
namespace Go.Proofs.Sl
def phi : Nat → Option FuncId := fun n => ([none, none, none, none, none, none, none, none, none, some 54, some 55, none, some 36, none, none, some 37, none, some 42, none, none, some 62, none, none, none, none, none, none, none, none, none, none, none, none, none, some 68, none, none, none, some 65, some 63, none, none, none, none, none, none, none, some 69, none, none, some 59, some 60, some 61, none, none, none, none, none, none, none, none, none, none, none, none, none, none, none, none, none, none, none, none, none, none, none, none, none, none, none, none, some 70, none, none, none, none, none, none, none, none, none, none, none, none, none, some 6, some 7, none, some 9, some 10, some 11, some 12, none, none, none, none, none, none, none, some 20, none, none, some 23, some 24, some 25, some 26, some 27, some 28, some 29, some 30, some 31, some 32, none, some 34, none, some 38, some 39, some 40, some 41, some 43, some 44, some 45, some 46, some 47, some 48, some 49, some 50, some 51, some 52, some 53, none, some 57, some 58, some 64, some 66, some 67, some 71, some 72] : List (Option FuncId)).getD n none
theorem ck_encoding_Writer_Number : chkFun Try.prog phi Try.f54 x_encoding_Writer_Number = true := by kernel_rfl
theorem ck_encoding_Writer_Bytes : chkFun Try.prog phi Try.f55 x_encoding_Writer_Bytes = true := by kernel_rfl
theorem ck_encoding_NewReader : chkFun Try.prog phi Try.f36 x_encoding_NewReader = true := by kernel_rfl
theorem ck_encoding_Reader_Number : chkFun Try.prog phi Try.f37 x_encoding_Reader_Number = true := by kernel_rfl
theorem ck_encoding_Reader_Left : chkFun Try.prog phi Try.f42 x_encoding_Reader_Left = true := by kernel_rfl
theorem ck_encoding_Reader_Err : chkFun Try.prog phi Try.f62 x_encoding_Reader_Err = true := by kernel_rfl
theorem ck_encoding_Writer_Text : chkFun Try.prog phi Try.f68 x_encoding_Writer_Text = true := by kernel_rfl
theorem ck_encoding_Reader_Text : chkFun Try.prog phi Try.f65 x_encoding_Reader_Text = true := by kernel_rfl
theorem ck_encoding_Reader_Count : chkFun Try.prog phi Try.f63 x_encoding_Reader_Count = true := by kernel_rfl
theorem ck_encoding_magnitude : chkFun Try.prog phi Try.f69 x_encoding_magnitude = true := by kernel_rfl
theorem ck_encoding_Reader_ok : chkFun Try.prog phi Try.f59 x_encoding_Reader_ok = true := by kernel_rfl
theorem ck_encoding_Reader_number : chkFun Try.prog phi Try.f60 x_encoding_Reader_number = true := by kernel_rfl
theorem ck_encoding_Reader_fail : chkFun Try.prog phi Try.f61 x_encoding_Reader_fail = true := by kernel_rfl
theorem ck_encoding_Reader_size : chkFun Try.prog phi Try.f70 x_encoding_Reader_size = true := by kernel_rfl
theorem ck_sleuthlaw07_ColumnOpens : chkFun Try.prog phi Try.f6 x_sleuthlaw07_ColumnOpens = true := by kernel_rfl
theorem ck_sleuthlaw07_known : chkFun Try.prog phi Try.f7 x_sleuthlaw07_known = true := by kernel_rfl
theorem ck_column_New : chkFun Try.prog phi Try.f9 x_column_New = true := by kernel_rfl
theorem ck_column_EncodeAs : chkFun Try.prog phi Try.f10 x_column_EncodeAs = true := by kernel_rfl
theorem ck_sleuthref07_Form : chkFun Try.prog phi Try.f11 x_sleuthref07_Form = true := by kernel_rfl
theorem ck_column_Column_Encode : chkFun Try.prog phi Try.f12 x_column_Column_Encode = true := by kernel_rfl
theorem ck_column_Column_Values : chkFun Try.prog phi Try.f20 x_column_Column_Values = true := by kernel_rfl
theorem ck_column_Open : chkFun Try.prog phi Try.f23 x_column_Open = true := by kernel_rfl
theorem ck_sleuthref07_Open : chkFun Try.prog phi Try.f24 x_sleuthref07_Open = true := by kernel_rfl
theorem ck_sleuthref07_Same : chkFun Try.prog phi Try.f25 x_sleuthref07_Same = true := by kernel_rfl
theorem ck_column_check : chkFun Try.prog phi Try.f26 x_column_check = true := by kernel_rfl
theorem ck_column_made : chkFun Try.prog phi Try.f27 x_column_made = true := by kernel_rfl
theorem ck_slices_Clone_int_int : chkFun Try.prog phi Try.f28 x_slices_Clone_int_int = true := by kernel_rfl
theorem ck_column_encode : chkFun Try.prog phi Try.f29 x_column_encode = true := by kernel_rfl
theorem ck_sleuthref07_Number : chkFun Try.prog phi Try.f30 x_sleuthref07_Number = true := by kernel_rfl
theorem ck_sleuthref07_Zone : chkFun Try.prog phi Try.f31 x_sleuthref07_Zone = true := by kernel_rfl
theorem ck_sleuthref07_Bits : chkFun Try.prog phi Try.f32 x_sleuthref07_Bits = true := by kernel_rfl
theorem ck_column_zone : chkFun Try.prog phi Try.f34 x_column_zone = true := by kernel_rfl
theorem ck_column_reader_failed : chkFun Try.prog phi Try.f38 x_column_reader_failed = true := by kernel_rfl
theorem ck_column_reader_list : chkFun Try.prog phi Try.f39 x_column_reader_list = true := by kernel_rfl
theorem ck_column_reader_runs : chkFun Try.prog phi Try.f40 x_column_reader_runs = true := by kernel_rfl
theorem ck_column_reader_packed : chkFun Try.prog phi Try.f41 x_column_reader_packed = true := by kernel_rfl
theorem ck_sleuthref07_reader_number : chkFun Try.prog phi Try.f43 x_sleuthref07_reader_number = true := by kernel_rfl
theorem ck_sleuthref07_packed : chkFun Try.prog phi Try.f44 x_sleuthref07_packed = true := by kernel_rfl
theorem ck_sleuthref07_reader_count : chkFun Try.prog phi Try.f45 x_sleuthref07_reader_count = true := by kernel_rfl
theorem ck_sleuthref07_reader_ranged : chkFun Try.prog phi Try.f46 x_sleuthref07_reader_ranged = true := by kernel_rfl
theorem ck_sleuthref07_Shortest : chkFun Try.prog phi Try.f47 x_sleuthref07_Shortest = true := by kernel_rfl
theorem ck_slices_ContainsFunc_int_int : chkFun Try.prog phi Try.f48 x_slices_ContainsFunc_int_int = true := by kernel_rfl
theorem ck_column_wrong : chkFun Try.prog phi Try.f49 x_column_wrong = true := by kernel_rfl
theorem ck_column_plain : chkFun Try.prog phi Try.f50 x_column_plain = true := by kernel_rfl
theorem ck_column_delta : chkFun Try.prog phi Try.f51 x_column_delta = true := by kernel_rfl
theorem ck_column_runs : chkFun Try.prog phi Try.f52 x_column_runs = true := by kernel_rfl
theorem ck_column_packed : chkFun Try.prog phi Try.f53 x_column_packed = true := by kernel_rfl
theorem ck_slices_Min_int_int : chkFun Try.prog phi Try.f57 x_slices_Min_int_int = true := by kernel_rfl
theorem ck_slices_Max_int_int : chkFun Try.prog phi Try.f58 x_slices_Max_int_int = true := by kernel_rfl
theorem ck_column_reader_value : chkFun Try.prog phi Try.f64 x_column_reader_value = true := by kernel_rfl
theorem ck_slices_IndexFunc_int_int : chkFun Try.prog phi Try.f66 x_slices_IndexFunc_int_int = true := by kernel_rfl
theorem ck_math_bits_Len : chkFun Try.prog phi Try.f67 x_math_bits_Len = true := by kernel_rfl
theorem ck_math_bits_Len32 : chkFun Try.prog phi Try.f71 x_math_bits_Len32 = true := by kernel_rfl
theorem ck_math_bits_Len64 : chkFun Try.prog phi Try.f72 x_math_bits_Len64 = true := by kernel_rfl
def Entry (id : FuncId) (X : XF) : Prop := ∃ fn, Try.prog.funcs[id]? = some fn ∧ chkFun Try.prog phi fn X = true ∧ (fn.name == "runtime.NumGoroutine") = false ∧ fn.body.isNone = false
theorem tb_encoding_Writer_Number : Entry 54 x_encoding_Writer_Number := ⟨Try.f54, Try.func54, ck_encoding_Writer_Number, by kernel_rfl, by kernel_rfl⟩
theorem tb_encoding_Writer_Bytes : Entry 55 x_encoding_Writer_Bytes := ⟨Try.f55, Try.func55, ck_encoding_Writer_Bytes, by kernel_rfl, by kernel_rfl⟩
theorem tb_encoding_NewReader : Entry 36 x_encoding_NewReader := ⟨Try.f36, Try.func36, ck_encoding_NewReader, by kernel_rfl, by kernel_rfl⟩
theorem tb_encoding_Reader_Number : Entry 37 x_encoding_Reader_Number := ⟨Try.f37, Try.func37, ck_encoding_Reader_Number, by kernel_rfl, by kernel_rfl⟩
theorem tb_encoding_Reader_Left : Entry 42 x_encoding_Reader_Left := ⟨Try.f42, Try.func42, ck_encoding_Reader_Left, by kernel_rfl, by kernel_rfl⟩
theorem tb_encoding_Reader_Err : Entry 62 x_encoding_Reader_Err := ⟨Try.f62, Try.func62, ck_encoding_Reader_Err, by kernel_rfl, by kernel_rfl⟩
theorem tb_encoding_Writer_Text : Entry 68 x_encoding_Writer_Text := ⟨Try.f68, Try.func68, ck_encoding_Writer_Text, by kernel_rfl, by kernel_rfl⟩
theorem tb_encoding_Reader_Text : Entry 65 x_encoding_Reader_Text := ⟨Try.f65, Try.func65, ck_encoding_Reader_Text, by kernel_rfl, by kernel_rfl⟩
theorem tb_encoding_Reader_Count : Entry 63 x_encoding_Reader_Count := ⟨Try.f63, Try.func63, ck_encoding_Reader_Count, by kernel_rfl, by kernel_rfl⟩
theorem tb_encoding_magnitude : Entry 69 x_encoding_magnitude := ⟨Try.f69, Try.func69, ck_encoding_magnitude, by kernel_rfl, by kernel_rfl⟩
theorem tb_encoding_Reader_ok : Entry 59 x_encoding_Reader_ok := ⟨Try.f59, Try.func59, ck_encoding_Reader_ok, by kernel_rfl, by kernel_rfl⟩
theorem tb_encoding_Reader_number : Entry 60 x_encoding_Reader_number := ⟨Try.f60, Try.func60, ck_encoding_Reader_number, by kernel_rfl, by kernel_rfl⟩
theorem tb_encoding_Reader_fail : Entry 61 x_encoding_Reader_fail := ⟨Try.f61, Try.func61, ck_encoding_Reader_fail, by kernel_rfl, by kernel_rfl⟩
theorem tb_encoding_Reader_size : Entry 70 x_encoding_Reader_size := ⟨Try.f70, Try.func70, ck_encoding_Reader_size, by kernel_rfl, by kernel_rfl⟩
theorem tb_sleuthlaw07_ColumnOpens : Entry 6 x_sleuthlaw07_ColumnOpens := ⟨Try.f6, Try.func6, ck_sleuthlaw07_ColumnOpens, by kernel_rfl, by kernel_rfl⟩
theorem tb_sleuthlaw07_known : Entry 7 x_sleuthlaw07_known := ⟨Try.f7, Try.func7, ck_sleuthlaw07_known, by kernel_rfl, by kernel_rfl⟩
theorem tb_column_New : Entry 9 x_column_New := ⟨Try.f9, Try.func9, ck_column_New, by kernel_rfl, by kernel_rfl⟩
theorem tb_column_EncodeAs : Entry 10 x_column_EncodeAs := ⟨Try.f10, Try.func10, ck_column_EncodeAs, by kernel_rfl, by kernel_rfl⟩
theorem tb_sleuthref07_Form : Entry 11 x_sleuthref07_Form := ⟨Try.f11, Try.func11, ck_sleuthref07_Form, by kernel_rfl, by kernel_rfl⟩
theorem tb_column_Column_Encode : Entry 12 x_column_Column_Encode := ⟨Try.f12, Try.func12, ck_column_Column_Encode, by kernel_rfl, by kernel_rfl⟩
theorem tb_column_Column_Values : Entry 20 x_column_Column_Values := ⟨Try.f20, Try.func20, ck_column_Column_Values, by kernel_rfl, by kernel_rfl⟩
theorem tb_column_Open : Entry 23 x_column_Open := ⟨Try.f23, Try.func23, ck_column_Open, by kernel_rfl, by kernel_rfl⟩
theorem tb_sleuthref07_Open : Entry 24 x_sleuthref07_Open := ⟨Try.f24, Try.func24, ck_sleuthref07_Open, by kernel_rfl, by kernel_rfl⟩
theorem tb_sleuthref07_Same : Entry 25 x_sleuthref07_Same := ⟨Try.f25, Try.func25, ck_sleuthref07_Same, by kernel_rfl, by kernel_rfl⟩
theorem tb_column_check : Entry 26 x_column_check := ⟨Try.f26, Try.func26, ck_column_check, by kernel_rfl, by kernel_rfl⟩
theorem tb_column_made : Entry 27 x_column_made := ⟨Try.f27, Try.func27, ck_column_made, by kernel_rfl, by kernel_rfl⟩
theorem tb_slices_Clone_int_int : Entry 28 x_slices_Clone_int_int := ⟨Try.f28, Try.func28, ck_slices_Clone_int_int, by kernel_rfl, by kernel_rfl⟩
theorem tb_column_encode : Entry 29 x_column_encode := ⟨Try.f29, Try.func29, ck_column_encode, by kernel_rfl, by kernel_rfl⟩
theorem tb_sleuthref07_Number : Entry 30 x_sleuthref07_Number := ⟨Try.f30, Try.func30, ck_sleuthref07_Number, by kernel_rfl, by kernel_rfl⟩
theorem tb_sleuthref07_Zone : Entry 31 x_sleuthref07_Zone := ⟨Try.f31, Try.func31, ck_sleuthref07_Zone, by kernel_rfl, by kernel_rfl⟩
theorem tb_sleuthref07_Bits : Entry 32 x_sleuthref07_Bits := ⟨Try.f32, Try.func32, ck_sleuthref07_Bits, by kernel_rfl, by kernel_rfl⟩
theorem tb_column_zone : Entry 34 x_column_zone := ⟨Try.f34, Try.func34, ck_column_zone, by kernel_rfl, by kernel_rfl⟩
theorem tb_column_reader_failed : Entry 38 x_column_reader_failed := ⟨Try.f38, Try.func38, ck_column_reader_failed, by kernel_rfl, by kernel_rfl⟩
theorem tb_column_reader_list : Entry 39 x_column_reader_list := ⟨Try.f39, Try.func39, ck_column_reader_list, by kernel_rfl, by kernel_rfl⟩
theorem tb_column_reader_runs : Entry 40 x_column_reader_runs := ⟨Try.f40, Try.func40, ck_column_reader_runs, by kernel_rfl, by kernel_rfl⟩
theorem tb_column_reader_packed : Entry 41 x_column_reader_packed := ⟨Try.f41, Try.func41, ck_column_reader_packed, by kernel_rfl, by kernel_rfl⟩
theorem tb_sleuthref07_reader_number : Entry 43 x_sleuthref07_reader_number := ⟨Try.f43, Try.func43, ck_sleuthref07_reader_number, by kernel_rfl, by kernel_rfl⟩
theorem tb_sleuthref07_packed : Entry 44 x_sleuthref07_packed := ⟨Try.f44, Try.func44, ck_sleuthref07_packed, by kernel_rfl, by kernel_rfl⟩
theorem tb_sleuthref07_reader_count : Entry 45 x_sleuthref07_reader_count := ⟨Try.f45, Try.func45, ck_sleuthref07_reader_count, by kernel_rfl, by kernel_rfl⟩
theorem tb_sleuthref07_reader_ranged : Entry 46 x_sleuthref07_reader_ranged := ⟨Try.f46, Try.func46, ck_sleuthref07_reader_ranged, by kernel_rfl, by kernel_rfl⟩
theorem tb_sleuthref07_Shortest : Entry 47 x_sleuthref07_Shortest := ⟨Try.f47, Try.func47, ck_sleuthref07_Shortest, by kernel_rfl, by kernel_rfl⟩
theorem tb_slices_ContainsFunc_int_int : Entry 48 x_slices_ContainsFunc_int_int := ⟨Try.f48, Try.func48, ck_slices_ContainsFunc_int_int, by kernel_rfl, by kernel_rfl⟩
theorem tb_column_wrong : Entry 49 x_column_wrong := ⟨Try.f49, Try.func49, ck_column_wrong, by kernel_rfl, by kernel_rfl⟩
theorem tb_column_plain : Entry 50 x_column_plain := ⟨Try.f50, Try.func50, ck_column_plain, by kernel_rfl, by kernel_rfl⟩
theorem tb_column_delta : Entry 51 x_column_delta := ⟨Try.f51, Try.func51, ck_column_delta, by kernel_rfl, by kernel_rfl⟩
theorem tb_column_runs : Entry 52 x_column_runs := ⟨Try.f52, Try.func52, ck_column_runs, by kernel_rfl, by kernel_rfl⟩
theorem tb_column_packed : Entry 53 x_column_packed := ⟨Try.f53, Try.func53, ck_column_packed, by kernel_rfl, by kernel_rfl⟩
theorem tb_slices_Min_int_int : Entry 57 x_slices_Min_int_int := ⟨Try.f57, Try.func57, ck_slices_Min_int_int, by kernel_rfl, by kernel_rfl⟩
theorem tb_slices_Max_int_int : Entry 58 x_slices_Max_int_int := ⟨Try.f58, Try.func58, ck_slices_Max_int_int, by kernel_rfl, by kernel_rfl⟩
theorem tb_column_reader_value : Entry 64 x_column_reader_value := ⟨Try.f64, Try.func64, ck_column_reader_value, by kernel_rfl, by kernel_rfl⟩
theorem tb_slices_IndexFunc_int_int : Entry 66 x_slices_IndexFunc_int_int := ⟨Try.f66, Try.func66, ck_slices_IndexFunc_int_int, by kernel_rfl, by kernel_rfl⟩
theorem tb_math_bits_Len : Entry 67 x_math_bits_Len := ⟨Try.f67, Try.func67, ck_math_bits_Len, by kernel_rfl, by kernel_rfl⟩
theorem tb_math_bits_Len32 : Entry 71 x_math_bits_Len32 := ⟨Try.f71, Try.func71, ck_math_bits_Len32, by kernel_rfl, by kernel_rfl⟩
theorem tb_math_bits_Len64 : Entry 72 x_math_bits_Len64 := ⟨Try.f72, Try.func72, ck_math_bits_Len64, by kernel_rfl, by kernel_rfl⟩
theorem Entry.pick {a id : FuncId} {x X : XF} (t : Entry a x) (h1 : some a = some id) (h2 : some x = some X) : Entry id X := by cases h1; cases h2; exact t
theorem entries : ∀ f id X, phi f = some id → XP f = some X → Entry id X
  | 0, _, _, h1, _ => nomatch (show (none : Option FuncId) = some _ from h1)
  | 1, _, _, h1, _ => nomatch (show (none : Option FuncId) = some _ from h1)
  | 2, _, _, h1, _ => nomatch (show (none : Option FuncId) = some _ from h1)
  | 3, _, _, h1, _ => nomatch (show (none : Option FuncId) = some _ from h1)
  | 4, _, _, h1, _ => nomatch (show (none : Option FuncId) = some _ from h1)
  | 5, _, _, h1, _ => nomatch (show (none : Option FuncId) = some _ from h1)
  | 6, _, _, h1, _ => nomatch (show (none : Option FuncId) = some _ from h1)
  | 7, _, _, h1, _ => nomatch (show (none : Option FuncId) = some _ from h1)
  | 8, _, _, h1, _ => nomatch (show (none : Option FuncId) = some _ from h1)
  | 9, _, _, h1, h2 => tb_encoding_Writer_Number.pick h1 h2
  | 10, _, _, h1, h2 => tb_encoding_Writer_Bytes.pick h1 h2
  | 11, _, _, h1, _ => nomatch (show (none : Option FuncId) = some _ from h1)
  | 12, _, _, h1, h2 => tb_encoding_NewReader.pick h1 h2
  | 13, _, _, h1, _ => nomatch (show (none : Option FuncId) = some _ from h1)
  | 14, _, _, h1, _ => nomatch (show (none : Option FuncId) = some _ from h1)
  | 15, _, _, h1, h2 => tb_encoding_Reader_Number.pick h1 h2
  | 16, _, _, h1, _ => nomatch (show (none : Option FuncId) = some _ from h1)
  | 17, _, _, h1, h2 => tb_encoding_Reader_Left.pick h1 h2
  | 18, _, _, h1, _ => nomatch (show (none : Option FuncId) = some _ from h1)
  | 19, _, _, h1, _ => nomatch (show (none : Option FuncId) = some _ from h1)
  | 20, _, _, h1, h2 => tb_encoding_Reader_Err.pick h1 h2
  | 21, _, _, h1, _ => nomatch (show (none : Option FuncId) = some _ from h1)
  | 22, _, _, h1, _ => nomatch (show (none : Option FuncId) = some _ from h1)
  | 23, _, _, h1, _ => nomatch (show (none : Option FuncId) = some _ from h1)
  | 24, _, _, h1, _ => nomatch (show (none : Option FuncId) = some _ from h1)
  | 25, _, _, h1, _ => nomatch (show (none : Option FuncId) = some _ from h1)
  | 26, _, _, h1, _ => nomatch (show (none : Option FuncId) = some _ from h1)
  | 27, _, _, h1, _ => nomatch (show (none : Option FuncId) = some _ from h1)
  | 28, _, _, h1, _ => nomatch (show (none : Option FuncId) = some _ from h1)
  | 29, _, _, h1, _ => nomatch (show (none : Option FuncId) = some _ from h1)
  | 30, _, _, h1, _ => nomatch (show (none : Option FuncId) = some _ from h1)
  | 31, _, _, h1, _ => nomatch (show (none : Option FuncId) = some _ from h1)
  | 32, _, _, h1, _ => nomatch (show (none : Option FuncId) = some _ from h1)
  | 33, _, _, h1, _ => nomatch (show (none : Option FuncId) = some _ from h1)
  | 34, _, _, h1, h2 => tb_encoding_Writer_Text.pick h1 h2
  | 35, _, _, h1, _ => nomatch (show (none : Option FuncId) = some _ from h1)
  | 36, _, _, h1, _ => nomatch (show (none : Option FuncId) = some _ from h1)
  | 37, _, _, h1, _ => nomatch (show (none : Option FuncId) = some _ from h1)
  | 38, _, _, h1, h2 => tb_encoding_Reader_Text.pick h1 h2
  | 39, _, _, h1, h2 => tb_encoding_Reader_Count.pick h1 h2
  | 40, _, _, h1, _ => nomatch (show (none : Option FuncId) = some _ from h1)
  | 41, _, _, h1, _ => nomatch (show (none : Option FuncId) = some _ from h1)
  | 42, _, _, h1, _ => nomatch (show (none : Option FuncId) = some _ from h1)
  | 43, _, _, h1, _ => nomatch (show (none : Option FuncId) = some _ from h1)
  | 44, _, _, h1, _ => nomatch (show (none : Option FuncId) = some _ from h1)
  | 45, _, _, h1, _ => nomatch (show (none : Option FuncId) = some _ from h1)
  | 46, _, _, h1, _ => nomatch (show (none : Option FuncId) = some _ from h1)
  | 47, _, _, h1, h2 => tb_encoding_magnitude.pick h1 h2
  | 48, _, _, h1, _ => nomatch (show (none : Option FuncId) = some _ from h1)
  | 49, _, _, h1, _ => nomatch (show (none : Option FuncId) = some _ from h1)
  | 50, _, _, h1, h2 => tb_encoding_Reader_ok.pick h1 h2
  | 51, _, _, h1, h2 => tb_encoding_Reader_number.pick h1 h2
  | 52, _, _, h1, h2 => tb_encoding_Reader_fail.pick h1 h2
  | 53, _, _, h1, _ => nomatch (show (none : Option FuncId) = some _ from h1)
  | 54, _, _, h1, _ => nomatch (show (none : Option FuncId) = some _ from h1)
  | 55, _, _, h1, _ => nomatch (show (none : Option FuncId) = some _ from h1)
  | 56, _, _, h1, _ => nomatch (show (none : Option FuncId) = some _ from h1)
  | 57, _, _, h1, _ => nomatch (show (none : Option FuncId) = some _ from h1)
  | 58, _, _, h1, _ => nomatch (show (none : Option FuncId) = some _ from h1)
  | 59, _, _, h1, _ => nomatch (show (none : Option FuncId) = some _ from h1)
  | 60, _, _, h1, _ => nomatch (show (none : Option FuncId) = some _ from h1)
  | 61, _, _, h1, _ => nomatch (show (none : Option FuncId) = some _ from h1)
  | 62, _, _, h1, _ => nomatch (show (none : Option FuncId) = some _ from h1)
  | 63, _, _, h1, _ => nomatch (show (none : Option FuncId) = some _ from h1)
  | 64, _, _, h1, _ => nomatch (show (none : Option FuncId) = some _ from h1)
  | 65, _, _, h1, _ => nomatch (show (none : Option FuncId) = some _ from h1)
  | 66, _, _, h1, _ => nomatch (show (none : Option FuncId) = some _ from h1)
  | 67, _, _, h1, _ => nomatch (show (none : Option FuncId) = some _ from h1)
  | 68, _, _, h1, _ => nomatch (show (none : Option FuncId) = some _ from h1)
  | 69, _, _, h1, _ => nomatch (show (none : Option FuncId) = some _ from h1)
  | 70, _, _, h1, _ => nomatch (show (none : Option FuncId) = some _ from h1)
  | 71, _, _, h1, _ => nomatch (show (none : Option FuncId) = some _ from h1)
  | 72, _, _, h1, _ => nomatch (show (none : Option FuncId) = some _ from h1)
  | 73, _, _, h1, _ => nomatch (show (none : Option FuncId) = some _ from h1)
  | 74, _, _, h1, _ => nomatch (show (none : Option FuncId) = some _ from h1)
  | 75, _, _, h1, _ => nomatch (show (none : Option FuncId) = some _ from h1)
  | 76, _, _, h1, _ => nomatch (show (none : Option FuncId) = some _ from h1)
  | 77, _, _, h1, _ => nomatch (show (none : Option FuncId) = some _ from h1)
  | 78, _, _, h1, _ => nomatch (show (none : Option FuncId) = some _ from h1)
  | 79, _, _, h1, _ => nomatch (show (none : Option FuncId) = some _ from h1)
  | 80, _, _, h1, _ => nomatch (show (none : Option FuncId) = some _ from h1)
  | 81, _, _, h1, h2 => tb_encoding_Reader_size.pick h1 h2
  | 82, _, _, h1, _ => nomatch (show (none : Option FuncId) = some _ from h1)
  | 83, _, _, h1, _ => nomatch (show (none : Option FuncId) = some _ from h1)
  | 84, _, _, h1, _ => nomatch (show (none : Option FuncId) = some _ from h1)
  | 85, _, _, h1, _ => nomatch (show (none : Option FuncId) = some _ from h1)
  | 86, _, _, h1, _ => nomatch (show (none : Option FuncId) = some _ from h1)
  | 87, _, _, h1, _ => nomatch (show (none : Option FuncId) = some _ from h1)
  | 88, _, _, h1, _ => nomatch (show (none : Option FuncId) = some _ from h1)
  | 89, _, _, h1, _ => nomatch (show (none : Option FuncId) = some _ from h1)
  | 90, _, _, h1, _ => nomatch (show (none : Option FuncId) = some _ from h1)
  | 91, _, _, h1, _ => nomatch (show (none : Option FuncId) = some _ from h1)
  | 92, _, _, h1, _ => nomatch (show (none : Option FuncId) = some _ from h1)
  | 93, _, _, h1, _ => nomatch (show (none : Option FuncId) = some _ from h1)
  | 94, _, _, h1, _ => nomatch (show (none : Option FuncId) = some _ from h1)
  | 95, _, _, h1, h2 => tb_sleuthlaw07_ColumnOpens.pick h1 h2
  | 96, _, _, h1, h2 => tb_sleuthlaw07_known.pick h1 h2
  | 97, _, _, h1, _ => nomatch (show (none : Option FuncId) = some _ from h1)
  | 98, _, _, h1, h2 => tb_column_New.pick h1 h2
  | 99, _, _, h1, h2 => tb_column_EncodeAs.pick h1 h2
  | 100, _, _, h1, h2 => tb_sleuthref07_Form.pick h1 h2
  | 101, _, _, h1, h2 => tb_column_Column_Encode.pick h1 h2
  | 102, _, _, h1, _ => nomatch (show (none : Option FuncId) = some _ from h1)
  | 103, _, _, h1, _ => nomatch (show (none : Option FuncId) = some _ from h1)
  | 104, _, _, h1, _ => nomatch (show (none : Option FuncId) = some _ from h1)
  | 105, _, _, h1, _ => nomatch (show (none : Option FuncId) = some _ from h1)
  | 106, _, _, h1, _ => nomatch (show (none : Option FuncId) = some _ from h1)
  | 107, _, _, h1, _ => nomatch (show (none : Option FuncId) = some _ from h1)
  | 108, _, _, h1, _ => nomatch (show (none : Option FuncId) = some _ from h1)
  | 109, _, _, h1, h2 => tb_column_Column_Values.pick h1 h2
  | 110, _, _, h1, _ => nomatch (show (none : Option FuncId) = some _ from h1)
  | 111, _, _, h1, _ => nomatch (show (none : Option FuncId) = some _ from h1)
  | 112, _, _, h1, h2 => tb_column_Open.pick h1 h2
  | 113, _, _, h1, h2 => tb_sleuthref07_Open.pick h1 h2
  | 114, _, _, h1, h2 => tb_sleuthref07_Same.pick h1 h2
  | 115, _, _, h1, h2 => tb_column_check.pick h1 h2
  | 116, _, _, h1, h2 => tb_column_made.pick h1 h2
  | 117, _, _, h1, h2 => tb_slices_Clone_int_int.pick h1 h2
  | 118, _, _, h1, h2 => tb_column_encode.pick h1 h2
  | 119, _, _, h1, h2 => tb_sleuthref07_Number.pick h1 h2
  | 120, _, _, h1, h2 => tb_sleuthref07_Zone.pick h1 h2
  | 121, _, _, h1, h2 => tb_sleuthref07_Bits.pick h1 h2
  | 122, _, _, h1, _ => nomatch (show (none : Option FuncId) = some _ from h1)
  | 123, _, _, h1, h2 => tb_column_zone.pick h1 h2
  | 124, _, _, h1, _ => nomatch (show (none : Option FuncId) = some _ from h1)
  | 125, _, _, h1, h2 => tb_column_reader_failed.pick h1 h2
  | 126, _, _, h1, h2 => tb_column_reader_list.pick h1 h2
  | 127, _, _, h1, h2 => tb_column_reader_runs.pick h1 h2
  | 128, _, _, h1, h2 => tb_column_reader_packed.pick h1 h2
  | 129, _, _, h1, h2 => tb_sleuthref07_reader_number.pick h1 h2
  | 130, _, _, h1, h2 => tb_sleuthref07_packed.pick h1 h2
  | 131, _, _, h1, h2 => tb_sleuthref07_reader_count.pick h1 h2
  | 132, _, _, h1, h2 => tb_sleuthref07_reader_ranged.pick h1 h2
  | 133, _, _, h1, h2 => tb_sleuthref07_Shortest.pick h1 h2
  | 134, _, _, h1, h2 => tb_slices_ContainsFunc_int_int.pick h1 h2
  | 135, _, _, h1, h2 => tb_column_wrong.pick h1 h2
  | 136, _, _, h1, h2 => tb_column_plain.pick h1 h2
  | 137, _, _, h1, h2 => tb_column_delta.pick h1 h2
  | 138, _, _, h1, h2 => tb_column_runs.pick h1 h2
  | 139, _, _, h1, h2 => tb_column_packed.pick h1 h2
  | 140, _, _, h1, _ => nomatch (show (none : Option FuncId) = some _ from h1)
  | 141, _, _, h1, h2 => tb_slices_Min_int_int.pick h1 h2
  | 142, _, _, h1, h2 => tb_slices_Max_int_int.pick h1 h2
  | 143, _, _, h1, h2 => tb_column_reader_value.pick h1 h2
  | 144, _, _, h1, h2 => tb_slices_IndexFunc_int_int.pick h1 h2
  | 145, _, _, h1, h2 => tb_math_bits_Len.pick h1 h2
  | 146, _, _, h1, h2 => tb_math_bits_Len32.pick h1 h2
  | 147, _, _, h1, h2 => tb_math_bits_Len64.pick h1 h2
  | _ + 148, _, _, h1, _ => nomatch (show (none : Option FuncId) = some _ from h1)
theorem there : ∀ f id, phi f = some id → ∃ X, XP f = some X
  | 0, _, h1 => nomatch (show (none : Option FuncId) = some _ from h1)
  | 1, _, h1 => nomatch (show (none : Option FuncId) = some _ from h1)
  | 2, _, h1 => nomatch (show (none : Option FuncId) = some _ from h1)
  | 3, _, h1 => nomatch (show (none : Option FuncId) = some _ from h1)
  | 4, _, h1 => nomatch (show (none : Option FuncId) = some _ from h1)
  | 5, _, h1 => nomatch (show (none : Option FuncId) = some _ from h1)
  | 6, _, h1 => nomatch (show (none : Option FuncId) = some _ from h1)
  | 7, _, h1 => nomatch (show (none : Option FuncId) = some _ from h1)
  | 8, _, h1 => nomatch (show (none : Option FuncId) = some _ from h1)
  | 9, _, h1 => ⟨x_encoding_Writer_Number, rfl⟩
  | 10, _, h1 => ⟨x_encoding_Writer_Bytes, rfl⟩
  | 11, _, h1 => nomatch (show (none : Option FuncId) = some _ from h1)
  | 12, _, h1 => ⟨x_encoding_NewReader, rfl⟩
  | 13, _, h1 => nomatch (show (none : Option FuncId) = some _ from h1)
  | 14, _, h1 => nomatch (show (none : Option FuncId) = some _ from h1)
  | 15, _, h1 => ⟨x_encoding_Reader_Number, rfl⟩
  | 16, _, h1 => nomatch (show (none : Option FuncId) = some _ from h1)
  | 17, _, h1 => ⟨x_encoding_Reader_Left, rfl⟩
  | 18, _, h1 => nomatch (show (none : Option FuncId) = some _ from h1)
  | 19, _, h1 => nomatch (show (none : Option FuncId) = some _ from h1)
  | 20, _, h1 => ⟨x_encoding_Reader_Err, rfl⟩
  | 21, _, h1 => nomatch (show (none : Option FuncId) = some _ from h1)
  | 22, _, h1 => nomatch (show (none : Option FuncId) = some _ from h1)
  | 23, _, h1 => nomatch (show (none : Option FuncId) = some _ from h1)
  | 24, _, h1 => nomatch (show (none : Option FuncId) = some _ from h1)
  | 25, _, h1 => nomatch (show (none : Option FuncId) = some _ from h1)
  | 26, _, h1 => nomatch (show (none : Option FuncId) = some _ from h1)
  | 27, _, h1 => nomatch (show (none : Option FuncId) = some _ from h1)
  | 28, _, h1 => nomatch (show (none : Option FuncId) = some _ from h1)
  | 29, _, h1 => nomatch (show (none : Option FuncId) = some _ from h1)
  | 30, _, h1 => nomatch (show (none : Option FuncId) = some _ from h1)
  | 31, _, h1 => nomatch (show (none : Option FuncId) = some _ from h1)
  | 32, _, h1 => nomatch (show (none : Option FuncId) = some _ from h1)
  | 33, _, h1 => nomatch (show (none : Option FuncId) = some _ from h1)
  | 34, _, h1 => ⟨x_encoding_Writer_Text, rfl⟩
  | 35, _, h1 => nomatch (show (none : Option FuncId) = some _ from h1)
  | 36, _, h1 => nomatch (show (none : Option FuncId) = some _ from h1)
  | 37, _, h1 => nomatch (show (none : Option FuncId) = some _ from h1)
  | 38, _, h1 => ⟨x_encoding_Reader_Text, rfl⟩
  | 39, _, h1 => ⟨x_encoding_Reader_Count, rfl⟩
  | 40, _, h1 => nomatch (show (none : Option FuncId) = some _ from h1)
  | 41, _, h1 => nomatch (show (none : Option FuncId) = some _ from h1)
  | 42, _, h1 => nomatch (show (none : Option FuncId) = some _ from h1)
  | 43, _, h1 => nomatch (show (none : Option FuncId) = some _ from h1)
  | 44, _, h1 => nomatch (show (none : Option FuncId) = some _ from h1)
  | 45, _, h1 => nomatch (show (none : Option FuncId) = some _ from h1)
  | 46, _, h1 => nomatch (show (none : Option FuncId) = some _ from h1)
  | 47, _, h1 => ⟨x_encoding_magnitude, rfl⟩
  | 48, _, h1 => nomatch (show (none : Option FuncId) = some _ from h1)
  | 49, _, h1 => nomatch (show (none : Option FuncId) = some _ from h1)
  | 50, _, h1 => ⟨x_encoding_Reader_ok, rfl⟩
  | 51, _, h1 => ⟨x_encoding_Reader_number, rfl⟩
  | 52, _, h1 => ⟨x_encoding_Reader_fail, rfl⟩
  | 53, _, h1 => nomatch (show (none : Option FuncId) = some _ from h1)
  | 54, _, h1 => nomatch (show (none : Option FuncId) = some _ from h1)
  | 55, _, h1 => nomatch (show (none : Option FuncId) = some _ from h1)
  | 56, _, h1 => nomatch (show (none : Option FuncId) = some _ from h1)
  | 57, _, h1 => nomatch (show (none : Option FuncId) = some _ from h1)
  | 58, _, h1 => nomatch (show (none : Option FuncId) = some _ from h1)
  | 59, _, h1 => nomatch (show (none : Option FuncId) = some _ from h1)
  | 60, _, h1 => nomatch (show (none : Option FuncId) = some _ from h1)
  | 61, _, h1 => nomatch (show (none : Option FuncId) = some _ from h1)
  | 62, _, h1 => nomatch (show (none : Option FuncId) = some _ from h1)
  | 63, _, h1 => nomatch (show (none : Option FuncId) = some _ from h1)
  | 64, _, h1 => nomatch (show (none : Option FuncId) = some _ from h1)
  | 65, _, h1 => nomatch (show (none : Option FuncId) = some _ from h1)
  | 66, _, h1 => nomatch (show (none : Option FuncId) = some _ from h1)
  | 67, _, h1 => nomatch (show (none : Option FuncId) = some _ from h1)
  | 68, _, h1 => nomatch (show (none : Option FuncId) = some _ from h1)
  | 69, _, h1 => nomatch (show (none : Option FuncId) = some _ from h1)
  | 70, _, h1 => nomatch (show (none : Option FuncId) = some _ from h1)
  | 71, _, h1 => nomatch (show (none : Option FuncId) = some _ from h1)
  | 72, _, h1 => nomatch (show (none : Option FuncId) = some _ from h1)
  | 73, _, h1 => nomatch (show (none : Option FuncId) = some _ from h1)
  | 74, _, h1 => nomatch (show (none : Option FuncId) = some _ from h1)
  | 75, _, h1 => nomatch (show (none : Option FuncId) = some _ from h1)
  | 76, _, h1 => nomatch (show (none : Option FuncId) = some _ from h1)
  | 77, _, h1 => nomatch (show (none : Option FuncId) = some _ from h1)
  | 78, _, h1 => nomatch (show (none : Option FuncId) = some _ from h1)
  | 79, _, h1 => nomatch (show (none : Option FuncId) = some _ from h1)
  | 80, _, h1 => nomatch (show (none : Option FuncId) = some _ from h1)
  | 81, _, h1 => ⟨x_encoding_Reader_size, rfl⟩
  | 82, _, h1 => nomatch (show (none : Option FuncId) = some _ from h1)
  | 83, _, h1 => nomatch (show (none : Option FuncId) = some _ from h1)
  | 84, _, h1 => nomatch (show (none : Option FuncId) = some _ from h1)
  | 85, _, h1 => nomatch (show (none : Option FuncId) = some _ from h1)
  | 86, _, h1 => nomatch (show (none : Option FuncId) = some _ from h1)
  | 87, _, h1 => nomatch (show (none : Option FuncId) = some _ from h1)
  | 88, _, h1 => nomatch (show (none : Option FuncId) = some _ from h1)
  | 89, _, h1 => nomatch (show (none : Option FuncId) = some _ from h1)
  | 90, _, h1 => nomatch (show (none : Option FuncId) = some _ from h1)
  | 91, _, h1 => nomatch (show (none : Option FuncId) = some _ from h1)
  | 92, _, h1 => nomatch (show (none : Option FuncId) = some _ from h1)
  | 93, _, h1 => nomatch (show (none : Option FuncId) = some _ from h1)
  | 94, _, h1 => nomatch (show (none : Option FuncId) = some _ from h1)
  | 95, _, h1 => ⟨x_sleuthlaw07_ColumnOpens, rfl⟩
  | 96, _, h1 => ⟨x_sleuthlaw07_known, rfl⟩
  | 97, _, h1 => nomatch (show (none : Option FuncId) = some _ from h1)
  | 98, _, h1 => ⟨x_column_New, rfl⟩
  | 99, _, h1 => ⟨x_column_EncodeAs, rfl⟩
  | 100, _, h1 => ⟨x_sleuthref07_Form, rfl⟩
  | 101, _, h1 => ⟨x_column_Column_Encode, rfl⟩
  | 102, _, h1 => nomatch (show (none : Option FuncId) = some _ from h1)
  | 103, _, h1 => nomatch (show (none : Option FuncId) = some _ from h1)
  | 104, _, h1 => nomatch (show (none : Option FuncId) = some _ from h1)
  | 105, _, h1 => nomatch (show (none : Option FuncId) = some _ from h1)
  | 106, _, h1 => nomatch (show (none : Option FuncId) = some _ from h1)
  | 107, _, h1 => nomatch (show (none : Option FuncId) = some _ from h1)
  | 108, _, h1 => nomatch (show (none : Option FuncId) = some _ from h1)
  | 109, _, h1 => ⟨x_column_Column_Values, rfl⟩
  | 110, _, h1 => nomatch (show (none : Option FuncId) = some _ from h1)
  | 111, _, h1 => nomatch (show (none : Option FuncId) = some _ from h1)
  | 112, _, h1 => ⟨x_column_Open, rfl⟩
  | 113, _, h1 => ⟨x_sleuthref07_Open, rfl⟩
  | 114, _, h1 => ⟨x_sleuthref07_Same, rfl⟩
  | 115, _, h1 => ⟨x_column_check, rfl⟩
  | 116, _, h1 => ⟨x_column_made, rfl⟩
  | 117, _, h1 => ⟨x_slices_Clone_int_int, rfl⟩
  | 118, _, h1 => ⟨x_column_encode, rfl⟩
  | 119, _, h1 => ⟨x_sleuthref07_Number, rfl⟩
  | 120, _, h1 => ⟨x_sleuthref07_Zone, rfl⟩
  | 121, _, h1 => ⟨x_sleuthref07_Bits, rfl⟩
  | 122, _, h1 => nomatch (show (none : Option FuncId) = some _ from h1)
  | 123, _, h1 => ⟨x_column_zone, rfl⟩
  | 124, _, h1 => nomatch (show (none : Option FuncId) = some _ from h1)
  | 125, _, h1 => ⟨x_column_reader_failed, rfl⟩
  | 126, _, h1 => ⟨x_column_reader_list, rfl⟩
  | 127, _, h1 => ⟨x_column_reader_runs, rfl⟩
  | 128, _, h1 => ⟨x_column_reader_packed, rfl⟩
  | 129, _, h1 => ⟨x_sleuthref07_reader_number, rfl⟩
  | 130, _, h1 => ⟨x_sleuthref07_packed, rfl⟩
  | 131, _, h1 => ⟨x_sleuthref07_reader_count, rfl⟩
  | 132, _, h1 => ⟨x_sleuthref07_reader_ranged, rfl⟩
  | 133, _, h1 => ⟨x_sleuthref07_Shortest, rfl⟩
  | 134, _, h1 => ⟨x_slices_ContainsFunc_int_int, rfl⟩
  | 135, _, h1 => ⟨x_column_wrong, rfl⟩
  | 136, _, h1 => ⟨x_column_plain, rfl⟩
  | 137, _, h1 => ⟨x_column_delta, rfl⟩
  | 138, _, h1 => ⟨x_column_runs, rfl⟩
  | 139, _, h1 => ⟨x_column_packed, rfl⟩
  | 140, _, h1 => nomatch (show (none : Option FuncId) = some _ from h1)
  | 141, _, h1 => ⟨x_slices_Min_int_int, rfl⟩
  | 142, _, h1 => ⟨x_slices_Max_int_int, rfl⟩
  | 143, _, h1 => ⟨x_column_reader_value, rfl⟩
  | 144, _, h1 => ⟨x_slices_IndexFunc_int_int, rfl⟩
  | 145, _, h1 => ⟨x_math_bits_Len, rfl⟩
  | 146, _, h1 => ⟨x_math_bits_Len32, rfl⟩
  | 147, _, h1 => ⟨x_math_bits_Len64, rfl⟩
  | _ + 148, _, h1 => nomatch (show (none : Option FuncId) = some _ from h1)
theorem table : Table Try.prog phi XP where
  follows := by kernel_rfl
  there := fun f id h => by
    obtain ⟨X, hx⟩ := there f id h
    obtain ⟨fn, h1, _, h2, h3⟩ := entries f id X h hx
    exact ⟨fn, h1, h2, h3⟩
  code := fun f id X h hx => by
    obtain ⟨fn, h1, h2, _⟩ := entries f id X h hx
    exact ⟨fn, h1, h2⟩
theorem prog_own : ownKnob Try.prog.godebug = none := by kernel_rfl
theorem prog_laidOut : laidOutB Try.prog = true := by kernel_rfl
end Go.Proofs.Sl
