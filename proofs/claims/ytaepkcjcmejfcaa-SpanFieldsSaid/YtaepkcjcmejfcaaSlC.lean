/- The functions of the program are what the evaluator has for them. -/
import Derived.Test.YtaepkcjcmejfcaaProg
import Derived.Test.YtaepkcjcmejfcaaSlB
import Derived.Test.YtaepkcjcmejfcaaSlP
import Derived.Test.YtaepkcjcmejfcaaSlN
import Derived.Shelf.SlGeneric
import Derived.Ground.SlsfProg
import Derived.Ground.Names8Prog
set_option linter.unusedVariables false
set_option linter.unusedSimpArgs false
set_option linter.unnecessarySimpa false
set_option maxRecDepth 100000
namespace Go.Proofs.Sl
def phiL : List (Option FuncId) := [none, none, none, none, none, none, none, none, none, none, none, none, none, none, none, none, none, none, none, none, none, none, none, none, none, none, none, none, none, none, none, none, none, none, none, none, none, none, none, none, none, none, none, none, none, none, none, none, none, none, none, none, none, none, none, none, none, none, none, none, none, none, none, none, none, none, none, none, none, none, none, none, none, none, none, none, none, none, none, none, none, none, none, none, none, none, none, none, none, none, none, none, none, none, none, none, none, none, none, none, none, none, none, none, none, none, none, none, none, none, none, none, none, none, none, none, none, none, none, none, none, none, none, none, none, none, none, none, none, none, none, none, none, none, none, none, none, none, none, none, none, none, none, none, none, none, none, none, none, none, none, some 6, none, none, none, none, some 11, some 12, none, some 14, some 15, none, some 17, some 18, some 19, none, some 21, some 22, some 23, some 24, some 25, some 26, some 27, some 28, some 29, none, some 31, some 32, none, none, some 35, some 36, none, none, none, none, none, some 42, none, some 44, some 45, some 46, some 47, some 48, none, some 50, some 51, some 52, some 53, some 54, some 55, some 56, none, none, some 59, some 60, some 61, some 62, some 63, some 64, some 65, some 66, some 67, some 68, none, none, some 71, some 72, some 73, some 74, some 75, some 76, some 77, some 78, some 79, some 80, some 81, some 82, none, some 84, some 85, some 86, some 87, some 88, some 89, none, none, none, none, none, none, none, none, none, none, none, none, none, none, none]
def phi : Nat → Option FuncId := fun n => phiL.getD n none
inductive Each (p : Option FuncId → Option XF → Prop) : List (Option FuncId) → List (Option XF) → Prop
  | nil {l : List (Option XF)} : Each p [] l
  | cons {a : Option FuncId} {x : Option XF} {r : List (Option FuncId)} {l : List (Option XF)} (h : p a x) (k : Each p r l) : Each p (a :: r) (x :: l)
theorem Each.get {p : Option FuncId → Option XF → Prop} (h0 : ∀ x, p none x) : ∀ {r : List (Option FuncId)} {l : List (Option XF)}, Each p r l → ∀ f, p (r.getD f none) (l.getD f none)
  | _, _, .nil, f => by simpa using h0 _
  | _, _, .cons h k, 0 => by simpa using h
  | _, _, .cons h k, f + 1 => by simpa using k.get h0 f
def There (id : FuncId) : Prop := ∃ fn : Func, Try.prog.funcs[id]? = some fn ∧ (fn.name == "runtime.NumGoroutine") = false ∧ fn.body.isNone = false
theorem th_sleuthlaw11_SpanFields : There 6 := ⟨Try.f6, Try.func6, by kernel_rfl, by kernel_rfl⟩
theorem th_sleuthlaw11_known : There 11 := ⟨Try.f11, Try.func11, by kernel_rfl, by kernel_rfl⟩
theorem th_span_Check : There 12 := ⟨Try.f12, Try.func12, by kernel_rfl, by kernel_rfl⟩
theorem th_sleuthlaw11_Span : There 14 := ⟨Try.f14, Try.func14, by kernel_rfl, by kernel_rfl⟩
theorem th_span_Compare : There 15 := ⟨Try.f15, Try.func15, by kernel_rfl, by kernel_rfl⟩
theorem th_span_Equal : There 17 := ⟨Try.f17, Try.func17, by kernel_rfl, by kernel_rfl⟩
theorem th_span_RefOf : There 18 := ⟨Try.f18, Try.func18, by kernel_rfl, by kernel_rfl⟩
theorem th_span_CompareRefs : There 19 := ⟨Try.f19, Try.func19, by kernel_rfl, by kernel_rfl⟩
theorem th_span_Fields : There 21 := ⟨Try.f21, Try.func21, by kernel_rfl, by kernel_rfl⟩
theorem th_sleuthlaw11_names : There 22 := ⟨Try.f22, Try.func22, by kernel_rfl, by kernel_rfl⟩
theorem th_span_View_Value : There 23 := ⟨Try.f23, Try.func23, by kernel_rfl, by kernel_rfl⟩
theorem th_span_FieldKind : There 24 := ⟨Try.f24, Try.func24, by kernel_rfl, by kernel_rfl⟩
theorem th_sleuthlaw11_value : There 25 := ⟨Try.f25, Try.func25, by kernel_rfl, by kernel_rfl⟩
theorem th_attribute_CheckValue : There 26 := ⟨Try.f26, Try.func26, by kernel_rfl, by kernel_rfl⟩
theorem th_sleuthlaw11_isField : There 27 := ⟨Try.f27, Try.func27, by kernel_rfl, by kernel_rfl⟩
theorem th_attribute_Get : There 28 := ⟨Try.f28, Try.func28, by kernel_rfl, by kernel_rfl⟩
theorem th_span_KindName : There 29 := ⟨Try.f29, Try.func29, by kernel_rfl, by kernel_rfl⟩
theorem th_sleuthlaw11_kinds : There 31 := ⟨Try.f31, Try.func31, by kernel_rfl, by kernel_rfl⟩
theorem th_span_Duration : There 32 := ⟨Try.f32, Try.func32, by kernel_rfl, by kernel_rfl⟩
theorem th_span_Slot : There 35 := ⟨Try.f35, Try.func35, by kernel_rfl, by kernel_rfl⟩
theorem th_span_Partition : There 36 := ⟨Try.f36, Try.func36, by kernel_rfl, by kernel_rfl⟩
theorem th_span_Winners : There 42 := ⟨Try.f42, Try.func42, by kernel_rfl, by kernel_rfl⟩
theorem th_span_badId : There 44 := ⟨Try.f44, Try.func44, by kernel_rfl, by kernel_rfl⟩
theorem th_attribute_IsName : There 45 := ⟨Try.f45, Try.func45, by kernel_rfl, by kernel_rfl⟩
theorem th_cmp_Or_api_Errno : There 46 := ⟨Try.f46, Try.func46, by kernel_rfl, by kernel_rfl⟩
theorem th_attribute_CheckAttrs : There 47 := ⟨Try.f47, Try.func47, by kernel_rfl, by kernel_rfl⟩
theorem th_span_checkLinks : There 48 := ⟨Try.f48, Try.func48, by kernel_rfl, by kernel_rfl⟩
theorem th_cmp_Or_int : There 50 := ⟨Try.f50, Try.func50, by kernel_rfl, by kernel_rfl⟩
theorem th_slices_Compare_int_int : There 51 := ⟨Try.f51, Try.func51, by kernel_rfl, by kernel_rfl⟩
theorem th_cmp_Compare_string : There 52 := ⟨Try.f52, Try.func52, by kernel_rfl, by kernel_rfl⟩
theorem th_cmp_Compare_int : There 53 := ⟨Try.f53, Try.func53, by kernel_rfl, by kernel_rfl⟩
theorem th_span_number : There 54 := ⟨Try.f54, Try.func54, by kernel_rfl, by kernel_rfl⟩
theorem th_attribute_CompareAttrs : There 55 := ⟨Try.f55, Try.func55, by kernel_rfl, by kernel_rfl⟩
theorem th_slices_CompareFunc_api_Ref_api_Ref_api_Ref_api_Ref : There 56 := ⟨Try.f56, Try.func56, by kernel_rfl, by kernel_rfl⟩
theorem th_sleuthlaw11_flag : There 59 := ⟨Try.f59, Try.func59, by kernel_rfl, by kernel_rfl⟩
theorem th_span_View_text : There 60 := ⟨Try.f60, Try.func60, by kernel_rfl, by kernel_rfl⟩
theorem th_span_View_number : There 61 := ⟨Try.f61, Try.func61, by kernel_rfl, by kernel_rfl⟩
theorem th_slices_Contains_string_string : There 62 := ⟨Try.f62, Try.func62, by kernel_rfl, by kernel_rfl⟩
theorem th_attribute_within : There 63 := ⟨Try.f63, Try.func63, by kernel_rfl, by kernel_rfl⟩
theorem th_attribute_place : There 64 := ⟨Try.f64, Try.func64, by kernel_rfl, by kernel_rfl⟩
theorem th_span_kinds : There 65 := ⟨Try.f65, Try.func65, by kernel_rfl, by kernel_rfl⟩
theorem th_slices_Index_string_string : There 66 := ⟨Try.f66, Try.func66, by kernel_rfl, by kernel_rfl⟩
theorem th_span_chosen : There 67 := ⟨Try.f67, Try.func67, by kernel_rfl, by kernel_rfl⟩
theorem th_span_set : There 68 := ⟨Try.f68, Try.func68, by kernel_rfl, by kernel_rfl⟩
theorem th_span_Winners_1 : There 71 := ⟨Try.f71, Try.func71, by kernel_rfl, by kernel_rfl⟩
theorem th_cmp_isNaN_string : There 72 := ⟨Try.f72, Try.func72, by kernel_rfl, by kernel_rfl⟩
theorem th_cmp_isNaN_int : There 73 := ⟨Try.f73, Try.func73, by kernel_rfl, by kernel_rfl⟩
theorem th_slices_CompareFunc_api_Attr_api_Attr_api_Attr_api_Attr : There 74 := ⟨Try.f74, Try.func74, by kernel_rfl, by kernel_rfl⟩
theorem th_attribute_CompareAttrs_1 : There 75 := ⟨Try.f75, Try.func75, by kernel_rfl, by kernel_rfl⟩
theorem th_attribute_CompareValues : There 76 := ⟨Try.f76, Try.func76, by kernel_rfl, by kernel_rfl⟩
theorem th_slices_BinarySearchFunc_api_Attr_api_Attr_string : There 77 := ⟨Try.f77, Try.func77, by kernel_rfl, by kernel_rfl⟩
theorem th_attribute_place_1 : There 78 := ⟨Try.f78, Try.func78, by kernel_rfl, by kernel_rfl⟩
theorem th_span_copied : There 79 := ⟨Try.f79, Try.func79, by kernel_rfl, by kernel_rfl⟩
theorem th_slices_CompactFunc_api_Span_api_Span : There 80 := ⟨Try.f80, Try.func80, by kernel_rfl, by kernel_rfl⟩
theorem th_slices_SortedFunc_api_Span : There 81 := ⟨Try.f81, Try.func81, by kernel_rfl, by kernel_rfl⟩
theorem th_slices_Values_api_Span_api_Span : There 82 := ⟨Try.f82, Try.func82, by kernel_rfl, by kernel_rfl⟩
theorem th_slices_Clone_api_Attr_api_Attr : There 84 := ⟨Try.f84, Try.func84, by kernel_rfl, by kernel_rfl⟩
theorem th_slices_Clone_api_Ref_api_Ref : There 85 := ⟨Try.f85, Try.func85, by kernel_rfl, by kernel_rfl⟩
theorem th_slices_Collect_api_Span : There 86 := ⟨Try.f86, Try.func86, by kernel_rfl, by kernel_rfl⟩
theorem th_slices_SortFunc_api_Span_api_Span : There 87 := ⟨Try.f87, Try.func87, by kernel_rfl, by kernel_rfl⟩
theorem th_slices_Values_api_Span_api_Span_1 : There 88 := ⟨Try.f88, Try.func88, by kernel_rfl, by kernel_rfl⟩
theorem th_slices_AppendSeq_api_Span_api_Span : There 89 := ⟨Try.f89, Try.func89, by kernel_rfl, by kernel_rfl⟩
def FitT (a : Option FuncId) (_ : Option XF) : Prop := ∀ id, a = some id → There id
theorem FitT.of {id : FuncId} {x : Option XF} (t : There id) : FitT (some id) x := fun _ h => by cases h; exact t
theorem FitT.none (x : Option XF) : FitT Option.none x := fun _ h => by cases h
theorem eachT : Each FitT phiL XPL :=
  .cons (.none _) <|
  .cons (.none _) <|
  .cons (.none _) <|
  .cons (.none _) <|
  .cons (.none _) <|
  .cons (.none _) <|
  .cons (.none _) <|
  .cons (.none _) <|
  .cons (.none _) <|
  .cons (.none _) <|
  .cons (.none _) <|
  .cons (.none _) <|
  .cons (.none _) <|
  .cons (.none _) <|
  .cons (.none _) <|
  .cons (.none _) <|
  .cons (.none _) <|
  .cons (.none _) <|
  .cons (.none _) <|
  .cons (.none _) <|
  .cons (.none _) <|
  .cons (.none _) <|
  .cons (.none _) <|
  .cons (.none _) <|
  .cons (.none _) <|
  .cons (.none _) <|
  .cons (.none _) <|
  .cons (.none _) <|
  .cons (.none _) <|
  .cons (.none _) <|
  .cons (.none _) <|
  .cons (.none _) <|
  .cons (.none _) <|
  .cons (.none _) <|
  .cons (.none _) <|
  .cons (.none _) <|
  .cons (.none _) <|
  .cons (.none _) <|
  .cons (.none _) <|
  .cons (.none _) <|
  .cons (.none _) <|
  .cons (.none _) <|
  .cons (.none _) <|
  .cons (.none _) <|
  .cons (.none _) <|
  .cons (.none _) <|
  .cons (.none _) <|
  .cons (.none _) <|
  .cons (.none _) <|
  .cons (.none _) <|
  .cons (.none _) <|
  .cons (.none _) <|
  .cons (.none _) <|
  .cons (.none _) <|
  .cons (.none _) <|
  .cons (.none _) <|
  .cons (.none _) <|
  .cons (.none _) <|
  .cons (.none _) <|
  .cons (.none _) <|
  .cons (.none _) <|
  .cons (.none _) <|
  .cons (.none _) <|
  .cons (.none _) <|
  .cons (.none _) <|
  .cons (.none _) <|
  .cons (.none _) <|
  .cons (.none _) <|
  .cons (.none _) <|
  .cons (.none _) <|
  .cons (.none _) <|
  .cons (.none _) <|
  .cons (.none _) <|
  .cons (.none _) <|
  .cons (.none _) <|
  .cons (.none _) <|
  .cons (.none _) <|
  .cons (.none _) <|
  .cons (.none _) <|
  .cons (.none _) <|
  .cons (.none _) <|
  .cons (.none _) <|
  .cons (.none _) <|
  .cons (.none _) <|
  .cons (.none _) <|
  .cons (.none _) <|
  .cons (.none _) <|
  .cons (.none _) <|
  .cons (.none _) <|
  .cons (.none _) <|
  .cons (.none _) <|
  .cons (.none _) <|
  .cons (.none _) <|
  .cons (.none _) <|
  .cons (.none _) <|
  .cons (.none _) <|
  .cons (.none _) <|
  .cons (.none _) <|
  .cons (.none _) <|
  .cons (.none _) <|
  .cons (.none _) <|
  .cons (.none _) <|
  .cons (.none _) <|
  .cons (.none _) <|
  .cons (.none _) <|
  .cons (.none _) <|
  .cons (.none _) <|
  .cons (.none _) <|
  .cons (.none _) <|
  .cons (.none _) <|
  .cons (.none _) <|
  .cons (.none _) <|
  .cons (.none _) <|
  .cons (.none _) <|
  .cons (.none _) <|
  .cons (.none _) <|
  .cons (.none _) <|
  .cons (.none _) <|
  .cons (.none _) <|
  .cons (.none _) <|
  .cons (.none _) <|
  .cons (.none _) <|
  .cons (.none _) <|
  .cons (.none _) <|
  .cons (.none _) <|
  .cons (.none _) <|
  .cons (.none _) <|
  .cons (.none _) <|
  .cons (.none _) <|
  .cons (.none _) <|
  .cons (.none _) <|
  .cons (.none _) <|
  .cons (.none _) <|
  .cons (.none _) <|
  .cons (.none _) <|
  .cons (.none _) <|
  .cons (.none _) <|
  .cons (.none _) <|
  .cons (.none _) <|
  .cons (.none _) <|
  .cons (.none _) <|
  .cons (.none _) <|
  .cons (.none _) <|
  .cons (.none _) <|
  .cons (.none _) <|
  .cons (.none _) <|
  .cons (.none _) <|
  .cons (.none _) <|
  .cons (.none _) <|
  .cons (.none _) <|
  .cons (.none _) <|
  .cons (.of th_sleuthlaw11_SpanFields) <|
  .cons (.none _) <|
  .cons (.none _) <|
  .cons (.none _) <|
  .cons (.none _) <|
  .cons (.of th_sleuthlaw11_known) <|
  .cons (.of th_span_Check) <|
  .cons (.none _) <|
  .cons (.of th_sleuthlaw11_Span) <|
  .cons (.of th_span_Compare) <|
  .cons (.none _) <|
  .cons (.of th_span_Equal) <|
  .cons (.of th_span_RefOf) <|
  .cons (.of th_span_CompareRefs) <|
  .cons (.none _) <|
  .cons (.of th_span_Fields) <|
  .cons (.of th_sleuthlaw11_names) <|
  .cons (.of th_span_View_Value) <|
  .cons (.of th_span_FieldKind) <|
  .cons (.of th_sleuthlaw11_value) <|
  .cons (.of th_attribute_CheckValue) <|
  .cons (.of th_sleuthlaw11_isField) <|
  .cons (.of th_attribute_Get) <|
  .cons (.of th_span_KindName) <|
  .cons (.none _) <|
  .cons (.of th_sleuthlaw11_kinds) <|
  .cons (.of th_span_Duration) <|
  .cons (.none _) <|
  .cons (.none _) <|
  .cons (.of th_span_Slot) <|
  .cons (.of th_span_Partition) <|
  .cons (.none _) <|
  .cons (.none _) <|
  .cons (.none _) <|
  .cons (.none _) <|
  .cons (.none _) <|
  .cons (.of th_span_Winners) <|
  .cons (.none _) <|
  .cons (.of th_span_badId) <|
  .cons (.of th_attribute_IsName) <|
  .cons (.of th_cmp_Or_api_Errno) <|
  .cons (.of th_attribute_CheckAttrs) <|
  .cons (.of th_span_checkLinks) <|
  .cons (.none _) <|
  .cons (.of th_cmp_Or_int) <|
  .cons (.of th_slices_Compare_int_int) <|
  .cons (.of th_cmp_Compare_string) <|
  .cons (.of th_cmp_Compare_int) <|
  .cons (.of th_span_number) <|
  .cons (.of th_attribute_CompareAttrs) <|
  .cons (.of th_slices_CompareFunc_api_Ref_api_Ref_api_Ref_api_Ref) <|
  .cons (.none _) <|
  .cons (.none _) <|
  .cons (.of th_sleuthlaw11_flag) <|
  .cons (.of th_span_View_text) <|
  .cons (.of th_span_View_number) <|
  .cons (.of th_slices_Contains_string_string) <|
  .cons (.of th_attribute_within) <|
  .cons (.of th_attribute_place) <|
  .cons (.of th_span_kinds) <|
  .cons (.of th_slices_Index_string_string) <|
  .cons (.of th_span_chosen) <|
  .cons (.of th_span_set) <|
  .cons (.none _) <|
  .cons (.none _) <|
  .cons (.of th_span_Winners_1) <|
  .cons (.of th_cmp_isNaN_string) <|
  .cons (.of th_cmp_isNaN_int) <|
  .cons (.of th_slices_CompareFunc_api_Attr_api_Attr_api_Attr_api_Attr) <|
  .cons (.of th_attribute_CompareAttrs_1) <|
  .cons (.of th_attribute_CompareValues) <|
  .cons (.of th_slices_BinarySearchFunc_api_Attr_api_Attr_string) <|
  .cons (.of th_attribute_place_1) <|
  .cons (.of th_span_copied) <|
  .cons (.of th_slices_CompactFunc_api_Span_api_Span) <|
  .cons (.of th_slices_SortedFunc_api_Span) <|
  .cons (.of th_slices_Values_api_Span_api_Span) <|
  .cons (.none _) <|
  .cons (.of th_slices_Clone_api_Attr_api_Attr) <|
  .cons (.of th_slices_Clone_api_Ref_api_Ref) <|
  .cons (.of th_slices_Collect_api_Span) <|
  .cons (.of th_slices_SortFunc_api_Span_api_Span) <|
  .cons (.of th_slices_Values_api_Span_api_Span_1) <|
  .cons (.of th_slices_AppendSeq_api_Span_api_Span) <|
  .cons (.none _) <|
  .cons (.none _) <|
  .cons (.none _) <|
  .cons (.none _) <|
  .cons (.none _) <|
  .cons (.none _) <|
  .cons (.none _) <|
  .cons (.none _) <|
  .cons (.none _) <|
  .cons (.none _) <|
  .cons (.none _) <|
  .cons (.none _) <|
  .cons (.none _) <|
  .cons (.none _) <|
  .cons (.none _) <| .nil
theorem tok : TOk Try.prog phi := fun f id h => (eachT.get FitT.none f) id h
end Go.Proofs.Sl
namespace Go.Proofs
open Go.Shelf
shelf_lay_g SlLaysF0.n6 Slsf 6 at Try 87 as Try.sortSpan
shelf_lay_g Lays8.n4 Nm8 4 at Try 83 as Try.growSpan
end Go.Proofs
namespace Go.Proofs.Sl
def zSpan : List V := [.s (.int .i64 0), .s (.int .i64 0), .s (.int .i64 0), .s (.int .i64 0), .s (.int .i64 0), .s (.int .i64 0), .s (.string ⟨#[]⟩), .s (.string ⟨#[]⟩), .s (.string ⟨#[]⟩), .s (.int .i64 0), .s (.int .i64 0), .s (.bool false), .s (.slice none 0 0), .s (.slice none 0 0)]
theorem zSpan_plain : plainZ zSpan := by
  intro i x e
  have : ∀ v ∈ zSpan, v.tl = none := by
    intro v hv
    simp only [zSpan, List.mem_cons, List.not_mem_nil, or_false] at hv
    rcases hv with rfl | rfl | rfl | rfl | rfl | rfl | rfl | rfl | rfl | rfl | rfl | rfl | rfl | rfl <;> rfl
  exact this x (List.mem_of_getElem? e)
theorem nk_slices_SortFunc_api_Span_api_Span : NatOk Try.prog phi 87 (.sort 14) := natSort (sortSpec Try.sortSpan 14 Try.isAgg25 Try.sizeOf25) (sortNil Try.sortSpan) tok
theorem nk_slices_AppendSeq_api_Span_api_Span : NatOk Try.prog phi 89 (.seq i_slices_Values_api_Span_api_Span_1 14 837723144972) :=
  natSeq (φ := phi) (it := i_slices_Values_api_Span_api_Span_1) (vid := 88) (lim := 837723144972) (k := 14) Try.func89 Try.func88 rfl (by kernel_rfl) (by kernel_rfl) (z := zSpan) rfl zSpan_plain (by decide) tok
def zSpanM : Value := .agg #[.int .i64 0, .int .i64 0, .int .i64 0, .int .i64 0, .int .i64 0, .int .i64 0, .string ⟨#[]⟩, .string ⟨#[]⟩, .string ⟨#[]⟩, .int .i64 0, .int .i64 0, .bool false, .slice none 0 0, .slice none 0 0]
theorem infoSpan : (Try.prog.info? 25).map (fun i => (i.zero, i.size, i.bytes)) = some (some zSpanM, 14, 168) := by kernel_rfl
theorem ck_sleuthlaw11_SpanFields : chkFun Try.prog phi Try.f6 x_sleuthlaw11_SpanFields = true := by kernel_rfl
theorem ck_sleuthlaw11_known : chkFun Try.prog phi Try.f11 x_sleuthlaw11_known = true := by kernel_rfl
theorem ck_span_Check : chkFun Try.prog phi Try.f12 x_span_Check = true := by kernel_rfl
theorem ck_sleuthlaw11_Span : chkFun Try.prog phi Try.f14 x_sleuthlaw11_Span = true := by kernel_rfl
theorem ck_span_Compare : chkFun Try.prog phi Try.f15 x_span_Compare = true := by kernel_rfl
theorem ck_span_Equal : chkFun Try.prog phi Try.f17 x_span_Equal = true := by kernel_rfl
theorem ck_span_RefOf : chkFun Try.prog phi Try.f18 x_span_RefOf = true := by kernel_rfl
theorem ck_span_CompareRefs : chkFun Try.prog phi Try.f19 x_span_CompareRefs = true := by kernel_rfl
theorem ck_span_Fields : chkFun Try.prog phi Try.f21 x_span_Fields = true := by kernel_rfl
theorem ck_sleuthlaw11_names : chkFun Try.prog phi Try.f22 x_sleuthlaw11_names = true := by kernel_rfl
theorem ck_span_View_Value : chkFun Try.prog phi Try.f23 x_span_View_Value = true := by kernel_rfl
theorem ck_span_FieldKind : chkFun Try.prog phi Try.f24 x_span_FieldKind = true := by kernel_rfl
theorem ck_sleuthlaw11_value : chkFun Try.prog phi Try.f25 x_sleuthlaw11_value = true := by kernel_rfl
theorem ck_attribute_CheckValue : chkFun Try.prog phi Try.f26 x_attribute_CheckValue = true := by kernel_rfl
theorem ck_sleuthlaw11_isField : chkFun Try.prog phi Try.f27 x_sleuthlaw11_isField = true := by kernel_rfl
theorem ck_attribute_Get : chkFun Try.prog phi Try.f28 x_attribute_Get = true := by kernel_rfl
theorem ck_span_KindName : chkFun Try.prog phi Try.f29 x_span_KindName = true := by kernel_rfl
theorem ck_sleuthlaw11_kinds : chkFun Try.prog phi Try.f31 x_sleuthlaw11_kinds = true := by kernel_rfl
theorem ck_span_Duration : chkFun Try.prog phi Try.f32 x_span_Duration = true := by kernel_rfl
theorem ck_span_Slot : chkFun Try.prog phi Try.f35 x_span_Slot = true := by kernel_rfl
theorem ck_span_Partition : chkFun Try.prog phi Try.f36 x_span_Partition = true := by kernel_rfl
theorem ck_span_Winners : chkFun Try.prog phi Try.f42 x_span_Winners = true := by kernel_rfl
theorem ck_span_badId : chkFun Try.prog phi Try.f44 x_span_badId = true := by kernel_rfl
theorem ck_attribute_IsName : chkFun Try.prog phi Try.f45 x_attribute_IsName = true := by kernel_rfl
theorem ck_cmp_Or_api_Errno : chkFun Try.prog phi Try.f46 x_cmp_Or_api_Errno = true := by kernel_rfl
theorem ck_attribute_CheckAttrs : chkFun Try.prog phi Try.f47 x_attribute_CheckAttrs = true := by kernel_rfl
theorem ck_span_checkLinks : chkFun Try.prog phi Try.f48 x_span_checkLinks = true := by kernel_rfl
theorem ck_cmp_Or_int : chkFun Try.prog phi Try.f50 x_cmp_Or_int = true := by kernel_rfl
theorem ck_slices_Compare_int_int : chkFun Try.prog phi Try.f51 x_slices_Compare_int_int = true := by kernel_rfl
theorem ck_cmp_Compare_string : chkFun Try.prog phi Try.f52 x_cmp_Compare_string = true := by kernel_rfl
theorem ck_cmp_Compare_int : chkFun Try.prog phi Try.f53 x_cmp_Compare_int = true := by kernel_rfl
theorem ck_span_number : chkFun Try.prog phi Try.f54 x_span_number = true := by kernel_rfl
theorem ck_attribute_CompareAttrs : chkFun Try.prog phi Try.f55 x_attribute_CompareAttrs = true := by kernel_rfl
theorem ck_slices_CompareFunc_api_Ref_api_Ref_api_Ref_api_Ref : chkFun Try.prog phi Try.f56 x_slices_CompareFunc_api_Ref_api_Ref_api_Ref_api_Ref = true := by kernel_rfl
theorem ck_sleuthlaw11_flag : chkFun Try.prog phi Try.f59 x_sleuthlaw11_flag = true := by kernel_rfl
theorem ck_span_View_text : chkFun Try.prog phi Try.f60 x_span_View_text = true := by kernel_rfl
theorem ck_span_View_number : chkFun Try.prog phi Try.f61 x_span_View_number = true := by kernel_rfl
theorem ck_slices_Contains_string_string : chkFun Try.prog phi Try.f62 x_slices_Contains_string_string = true := by kernel_rfl
theorem ck_attribute_within : chkFun Try.prog phi Try.f63 x_attribute_within = true := by kernel_rfl
theorem ck_attribute_place : chkFun Try.prog phi Try.f64 x_attribute_place = true := by kernel_rfl
theorem ck_span_kinds : chkFun Try.prog phi Try.f65 x_span_kinds = true := by kernel_rfl
theorem ck_slices_Index_string_string : chkFun Try.prog phi Try.f66 x_slices_Index_string_string = true := by kernel_rfl
theorem ck_span_chosen : chkFun Try.prog phi Try.f67 x_span_chosen = true := by kernel_rfl
theorem ck_span_set : chkFun Try.prog phi Try.f68 x_span_set = true := by kernel_rfl
theorem ck_span_Winners_1 : chkFun Try.prog phi Try.f71 x_span_Winners_1 = true := by kernel_rfl
theorem ck_cmp_isNaN_string : chkFun Try.prog phi Try.f72 x_cmp_isNaN_string = true := by kernel_rfl
theorem ck_cmp_isNaN_int : chkFun Try.prog phi Try.f73 x_cmp_isNaN_int = true := by kernel_rfl
theorem ck_slices_CompareFunc_api_Attr_api_Attr_api_Attr_api_Attr : chkFun Try.prog phi Try.f74 x_slices_CompareFunc_api_Attr_api_Attr_api_Attr_api_Attr = true := by kernel_rfl
theorem ck_attribute_CompareAttrs_1 : chkFun Try.prog phi Try.f75 x_attribute_CompareAttrs_1 = true := by kernel_rfl
theorem ck_attribute_CompareValues : chkFun Try.prog phi Try.f76 x_attribute_CompareValues = true := by kernel_rfl
theorem ck_slices_BinarySearchFunc_api_Attr_api_Attr_string : chkFun Try.prog phi Try.f77 x_slices_BinarySearchFunc_api_Attr_api_Attr_string = true := by kernel_rfl
theorem ck_attribute_place_1 : chkFun Try.prog phi Try.f78 x_attribute_place_1 = true := by kernel_rfl
theorem ck_span_copied : chkFun Try.prog phi Try.f79 x_span_copied = true := by kernel_rfl
theorem ck_slices_CompactFunc_api_Span_api_Span : chkFun Try.prog phi Try.f80 x_slices_CompactFunc_api_Span_api_Span = true := by kernel_rfl
theorem ck_slices_SortedFunc_api_Span : chkFun Try.prog phi Try.f81 x_slices_SortedFunc_api_Span = true := by kernel_rfl
theorem ck_slices_Values_api_Span_api_Span : chkFun Try.prog phi Try.f82 x_slices_Values_api_Span_api_Span = true := by kernel_rfl
theorem ck_slices_Clone_api_Attr_api_Attr : chkFun Try.prog phi Try.f84 x_slices_Clone_api_Attr_api_Attr = true := by kernel_rfl
theorem ck_slices_Clone_api_Ref_api_Ref : chkFun Try.prog phi Try.f85 x_slices_Clone_api_Ref_api_Ref = true := by kernel_rfl
theorem ck_slices_Collect_api_Span : chkFun Try.prog phi Try.f86 x_slices_Collect_api_Span = true := by kernel_rfl
theorem ck_slices_Values_api_Span_api_Span_1 : chkFun Try.prog phi Try.f88 x_slices_Values_api_Span_api_Span_1 = true := by kernel_rfl
def Entry (id : FuncId) (X : XF) : Prop := ∃ fn, Try.prog.funcs[id]? = some fn ∧ FunOk Try.prog phi id fn X
theorem tb_sleuthlaw11_SpanFields : Entry 6 x_sleuthlaw11_SpanFields := ⟨Try.f6, Try.func6, ck_sleuthlaw11_SpanFields⟩
theorem tb_sleuthlaw11_known : Entry 11 x_sleuthlaw11_known := ⟨Try.f11, Try.func11, ck_sleuthlaw11_known⟩
theorem tb_span_Check : Entry 12 x_span_Check := ⟨Try.f12, Try.func12, ck_span_Check⟩
theorem tb_sleuthlaw11_Span : Entry 14 x_sleuthlaw11_Span := ⟨Try.f14, Try.func14, ck_sleuthlaw11_Span⟩
theorem tb_span_Compare : Entry 15 x_span_Compare := ⟨Try.f15, Try.func15, ck_span_Compare⟩
theorem tb_span_Equal : Entry 17 x_span_Equal := ⟨Try.f17, Try.func17, ck_span_Equal⟩
theorem tb_span_RefOf : Entry 18 x_span_RefOf := ⟨Try.f18, Try.func18, ck_span_RefOf⟩
theorem tb_span_CompareRefs : Entry 19 x_span_CompareRefs := ⟨Try.f19, Try.func19, ck_span_CompareRefs⟩
theorem tb_span_Fields : Entry 21 x_span_Fields := ⟨Try.f21, Try.func21, ck_span_Fields⟩
theorem tb_sleuthlaw11_names : Entry 22 x_sleuthlaw11_names := ⟨Try.f22, Try.func22, ck_sleuthlaw11_names⟩
theorem tb_span_View_Value : Entry 23 x_span_View_Value := ⟨Try.f23, Try.func23, ck_span_View_Value⟩
theorem tb_span_FieldKind : Entry 24 x_span_FieldKind := ⟨Try.f24, Try.func24, ck_span_FieldKind⟩
theorem tb_sleuthlaw11_value : Entry 25 x_sleuthlaw11_value := ⟨Try.f25, Try.func25, ck_sleuthlaw11_value⟩
theorem tb_attribute_CheckValue : Entry 26 x_attribute_CheckValue := ⟨Try.f26, Try.func26, ck_attribute_CheckValue⟩
theorem tb_sleuthlaw11_isField : Entry 27 x_sleuthlaw11_isField := ⟨Try.f27, Try.func27, ck_sleuthlaw11_isField⟩
theorem tb_attribute_Get : Entry 28 x_attribute_Get := ⟨Try.f28, Try.func28, ck_attribute_Get⟩
theorem tb_span_KindName : Entry 29 x_span_KindName := ⟨Try.f29, Try.func29, ck_span_KindName⟩
theorem tb_sleuthlaw11_kinds : Entry 31 x_sleuthlaw11_kinds := ⟨Try.f31, Try.func31, ck_sleuthlaw11_kinds⟩
theorem tb_span_Duration : Entry 32 x_span_Duration := ⟨Try.f32, Try.func32, ck_span_Duration⟩
theorem tb_span_Slot : Entry 35 x_span_Slot := ⟨Try.f35, Try.func35, ck_span_Slot⟩
theorem tb_span_Partition : Entry 36 x_span_Partition := ⟨Try.f36, Try.func36, ck_span_Partition⟩
theorem tb_span_Winners : Entry 42 x_span_Winners := ⟨Try.f42, Try.func42, ck_span_Winners⟩
theorem tb_span_badId : Entry 44 x_span_badId := ⟨Try.f44, Try.func44, ck_span_badId⟩
theorem tb_attribute_IsName : Entry 45 x_attribute_IsName := ⟨Try.f45, Try.func45, ck_attribute_IsName⟩
theorem tb_cmp_Or_api_Errno : Entry 46 x_cmp_Or_api_Errno := ⟨Try.f46, Try.func46, ck_cmp_Or_api_Errno⟩
theorem tb_attribute_CheckAttrs : Entry 47 x_attribute_CheckAttrs := ⟨Try.f47, Try.func47, ck_attribute_CheckAttrs⟩
theorem tb_span_checkLinks : Entry 48 x_span_checkLinks := ⟨Try.f48, Try.func48, ck_span_checkLinks⟩
theorem tb_cmp_Or_int : Entry 50 x_cmp_Or_int := ⟨Try.f50, Try.func50, ck_cmp_Or_int⟩
theorem tb_slices_Compare_int_int : Entry 51 x_slices_Compare_int_int := ⟨Try.f51, Try.func51, ck_slices_Compare_int_int⟩
theorem tb_cmp_Compare_string : Entry 52 x_cmp_Compare_string := ⟨Try.f52, Try.func52, ck_cmp_Compare_string⟩
theorem tb_cmp_Compare_int : Entry 53 x_cmp_Compare_int := ⟨Try.f53, Try.func53, ck_cmp_Compare_int⟩
theorem tb_span_number : Entry 54 x_span_number := ⟨Try.f54, Try.func54, ck_span_number⟩
theorem tb_attribute_CompareAttrs : Entry 55 x_attribute_CompareAttrs := ⟨Try.f55, Try.func55, ck_attribute_CompareAttrs⟩
theorem tb_slices_CompareFunc_api_Ref_api_Ref_api_Ref_api_Ref : Entry 56 x_slices_CompareFunc_api_Ref_api_Ref_api_Ref_api_Ref := ⟨Try.f56, Try.func56, ck_slices_CompareFunc_api_Ref_api_Ref_api_Ref_api_Ref⟩
theorem tb_sleuthlaw11_flag : Entry 59 x_sleuthlaw11_flag := ⟨Try.f59, Try.func59, ck_sleuthlaw11_flag⟩
theorem tb_span_View_text : Entry 60 x_span_View_text := ⟨Try.f60, Try.func60, ck_span_View_text⟩
theorem tb_span_View_number : Entry 61 x_span_View_number := ⟨Try.f61, Try.func61, ck_span_View_number⟩
theorem tb_slices_Contains_string_string : Entry 62 x_slices_Contains_string_string := ⟨Try.f62, Try.func62, ck_slices_Contains_string_string⟩
theorem tb_attribute_within : Entry 63 x_attribute_within := ⟨Try.f63, Try.func63, ck_attribute_within⟩
theorem tb_attribute_place : Entry 64 x_attribute_place := ⟨Try.f64, Try.func64, ck_attribute_place⟩
theorem tb_span_kinds : Entry 65 x_span_kinds := ⟨Try.f65, Try.func65, ck_span_kinds⟩
theorem tb_slices_Index_string_string : Entry 66 x_slices_Index_string_string := ⟨Try.f66, Try.func66, ck_slices_Index_string_string⟩
theorem tb_span_chosen : Entry 67 x_span_chosen := ⟨Try.f67, Try.func67, ck_span_chosen⟩
theorem tb_span_set : Entry 68 x_span_set := ⟨Try.f68, Try.func68, ck_span_set⟩
theorem tb_span_Winners_1 : Entry 71 x_span_Winners_1 := ⟨Try.f71, Try.func71, ck_span_Winners_1⟩
theorem tb_cmp_isNaN_string : Entry 72 x_cmp_isNaN_string := ⟨Try.f72, Try.func72, ck_cmp_isNaN_string⟩
theorem tb_cmp_isNaN_int : Entry 73 x_cmp_isNaN_int := ⟨Try.f73, Try.func73, ck_cmp_isNaN_int⟩
theorem tb_slices_CompareFunc_api_Attr_api_Attr_api_Attr_api_Attr : Entry 74 x_slices_CompareFunc_api_Attr_api_Attr_api_Attr_api_Attr := ⟨Try.f74, Try.func74, ck_slices_CompareFunc_api_Attr_api_Attr_api_Attr_api_Attr⟩
theorem tb_attribute_CompareAttrs_1 : Entry 75 x_attribute_CompareAttrs_1 := ⟨Try.f75, Try.func75, ck_attribute_CompareAttrs_1⟩
theorem tb_attribute_CompareValues : Entry 76 x_attribute_CompareValues := ⟨Try.f76, Try.func76, ck_attribute_CompareValues⟩
theorem tb_slices_BinarySearchFunc_api_Attr_api_Attr_string : Entry 77 x_slices_BinarySearchFunc_api_Attr_api_Attr_string := ⟨Try.f77, Try.func77, ck_slices_BinarySearchFunc_api_Attr_api_Attr_string⟩
theorem tb_attribute_place_1 : Entry 78 x_attribute_place_1 := ⟨Try.f78, Try.func78, ck_attribute_place_1⟩
theorem tb_span_copied : Entry 79 x_span_copied := ⟨Try.f79, Try.func79, ck_span_copied⟩
theorem tb_slices_CompactFunc_api_Span_api_Span : Entry 80 x_slices_CompactFunc_api_Span_api_Span := ⟨Try.f80, Try.func80, ck_slices_CompactFunc_api_Span_api_Span⟩
theorem tb_slices_SortedFunc_api_Span : Entry 81 x_slices_SortedFunc_api_Span := ⟨Try.f81, Try.func81, ck_slices_SortedFunc_api_Span⟩
theorem tb_slices_Values_api_Span_api_Span : Entry 82 x_slices_Values_api_Span_api_Span := ⟨Try.f82, Try.func82, ck_slices_Values_api_Span_api_Span⟩
theorem tb_slices_Clone_api_Attr_api_Attr : Entry 84 x_slices_Clone_api_Attr_api_Attr := ⟨Try.f84, Try.func84, ck_slices_Clone_api_Attr_api_Attr⟩
theorem tb_slices_Clone_api_Ref_api_Ref : Entry 85 x_slices_Clone_api_Ref_api_Ref := ⟨Try.f85, Try.func85, ck_slices_Clone_api_Ref_api_Ref⟩
theorem tb_slices_Collect_api_Span : Entry 86 x_slices_Collect_api_Span := ⟨Try.f86, Try.func86, ck_slices_Collect_api_Span⟩
theorem tb_slices_SortFunc_api_Span_api_Span : Entry 87 x_slices_SortFunc_api_Span_api_Span := ⟨Try.f87, Try.func87, nk_slices_SortFunc_api_Span_api_Span⟩
theorem tb_slices_Values_api_Span_api_Span_1 : Entry 88 x_slices_Values_api_Span_api_Span_1 := ⟨Try.f88, Try.func88, ck_slices_Values_api_Span_api_Span_1⟩
theorem tb_slices_AppendSeq_api_Span_api_Span : Entry 89 x_slices_AppendSeq_api_Span_api_Span := ⟨Try.f89, Try.func89, nk_slices_AppendSeq_api_Span_api_Span⟩
def Fit (a : Option FuncId) (x : Option XF) : Prop := ∀ id, a = some id → ∃ X, x = some X ∧ Entry id X
theorem Fit.of {id : FuncId} {X : XF} (t : Entry id X) : Fit (some id) (some X) := fun _ h => by cases h; exact ⟨X, rfl, t⟩
theorem Fit.none (x : Option XF) : Fit Option.none x := fun _ h => by cases h
theorem each : Each Fit phiL XPL :=
  .cons (.none _) <|
  .cons (.none _) <|
  .cons (.none _) <|
  .cons (.none _) <|
  .cons (.none _) <|
  .cons (.none _) <|
  .cons (.none _) <|
  .cons (.none _) <|
  .cons (.none _) <|
  .cons (.none _) <|
  .cons (.none _) <|
  .cons (.none _) <|
  .cons (.none _) <|
  .cons (.none _) <|
  .cons (.none _) <|
  .cons (.none _) <|
  .cons (.none _) <|
  .cons (.none _) <|
  .cons (.none _) <|
  .cons (.none _) <|
  .cons (.none _) <|
  .cons (.none _) <|
  .cons (.none _) <|
  .cons (.none _) <|
  .cons (.none _) <|
  .cons (.none _) <|
  .cons (.none _) <|
  .cons (.none _) <|
  .cons (.none _) <|
  .cons (.none _) <|
  .cons (.none _) <|
  .cons (.none _) <|
  .cons (.none _) <|
  .cons (.none _) <|
  .cons (.none _) <|
  .cons (.none _) <|
  .cons (.none _) <|
  .cons (.none _) <|
  .cons (.none _) <|
  .cons (.none _) <|
  .cons (.none _) <|
  .cons (.none _) <|
  .cons (.none _) <|
  .cons (.none _) <|
  .cons (.none _) <|
  .cons (.none _) <|
  .cons (.none _) <|
  .cons (.none _) <|
  .cons (.none _) <|
  .cons (.none _) <|
  .cons (.none _) <|
  .cons (.none _) <|
  .cons (.none _) <|
  .cons (.none _) <|
  .cons (.none _) <|
  .cons (.none _) <|
  .cons (.none _) <|
  .cons (.none _) <|
  .cons (.none _) <|
  .cons (.none _) <|
  .cons (.none _) <|
  .cons (.none _) <|
  .cons (.none _) <|
  .cons (.none _) <|
  .cons (.none _) <|
  .cons (.none _) <|
  .cons (.none _) <|
  .cons (.none _) <|
  .cons (.none _) <|
  .cons (.none _) <|
  .cons (.none _) <|
  .cons (.none _) <|
  .cons (.none _) <|
  .cons (.none _) <|
  .cons (.none _) <|
  .cons (.none _) <|
  .cons (.none _) <|
  .cons (.none _) <|
  .cons (.none _) <|
  .cons (.none _) <|
  .cons (.none _) <|
  .cons (.none _) <|
  .cons (.none _) <|
  .cons (.none _) <|
  .cons (.none _) <|
  .cons (.none _) <|
  .cons (.none _) <|
  .cons (.none _) <|
  .cons (.none _) <|
  .cons (.none _) <|
  .cons (.none _) <|
  .cons (.none _) <|
  .cons (.none _) <|
  .cons (.none _) <|
  .cons (.none _) <|
  .cons (.none _) <|
  .cons (.none _) <|
  .cons (.none _) <|
  .cons (.none _) <|
  .cons (.none _) <|
  .cons (.none _) <|
  .cons (.none _) <|
  .cons (.none _) <|
  .cons (.none _) <|
  .cons (.none _) <|
  .cons (.none _) <|
  .cons (.none _) <|
  .cons (.none _) <|
  .cons (.none _) <|
  .cons (.none _) <|
  .cons (.none _) <|
  .cons (.none _) <|
  .cons (.none _) <|
  .cons (.none _) <|
  .cons (.none _) <|
  .cons (.none _) <|
  .cons (.none _) <|
  .cons (.none _) <|
  .cons (.none _) <|
  .cons (.none _) <|
  .cons (.none _) <|
  .cons (.none _) <|
  .cons (.none _) <|
  .cons (.none _) <|
  .cons (.none _) <|
  .cons (.none _) <|
  .cons (.none _) <|
  .cons (.none _) <|
  .cons (.none _) <|
  .cons (.none _) <|
  .cons (.none _) <|
  .cons (.none _) <|
  .cons (.none _) <|
  .cons (.none _) <|
  .cons (.none _) <|
  .cons (.none _) <|
  .cons (.none _) <|
  .cons (.none _) <|
  .cons (.none _) <|
  .cons (.none _) <|
  .cons (.none _) <|
  .cons (.none _) <|
  .cons (.none _) <|
  .cons (.none _) <|
  .cons (.none _) <|
  .cons (.none _) <|
  .cons (.none _) <|
  .cons (.none _) <|
  .cons (.none _) <|
  .cons (.none _) <|
  .cons (.none _) <|
  .cons (.of tb_sleuthlaw11_SpanFields) <|
  .cons (.none _) <|
  .cons (.none _) <|
  .cons (.none _) <|
  .cons (.none _) <|
  .cons (.of tb_sleuthlaw11_known) <|
  .cons (.of tb_span_Check) <|
  .cons (.none _) <|
  .cons (.of tb_sleuthlaw11_Span) <|
  .cons (.of tb_span_Compare) <|
  .cons (.none _) <|
  .cons (.of tb_span_Equal) <|
  .cons (.of tb_span_RefOf) <|
  .cons (.of tb_span_CompareRefs) <|
  .cons (.none _) <|
  .cons (.of tb_span_Fields) <|
  .cons (.of tb_sleuthlaw11_names) <|
  .cons (.of tb_span_View_Value) <|
  .cons (.of tb_span_FieldKind) <|
  .cons (.of tb_sleuthlaw11_value) <|
  .cons (.of tb_attribute_CheckValue) <|
  .cons (.of tb_sleuthlaw11_isField) <|
  .cons (.of tb_attribute_Get) <|
  .cons (.of tb_span_KindName) <|
  .cons (.none _) <|
  .cons (.of tb_sleuthlaw11_kinds) <|
  .cons (.of tb_span_Duration) <|
  .cons (.none _) <|
  .cons (.none _) <|
  .cons (.of tb_span_Slot) <|
  .cons (.of tb_span_Partition) <|
  .cons (.none _) <|
  .cons (.none _) <|
  .cons (.none _) <|
  .cons (.none _) <|
  .cons (.none _) <|
  .cons (.of tb_span_Winners) <|
  .cons (.none _) <|
  .cons (.of tb_span_badId) <|
  .cons (.of tb_attribute_IsName) <|
  .cons (.of tb_cmp_Or_api_Errno) <|
  .cons (.of tb_attribute_CheckAttrs) <|
  .cons (.of tb_span_checkLinks) <|
  .cons (.none _) <|
  .cons (.of tb_cmp_Or_int) <|
  .cons (.of tb_slices_Compare_int_int) <|
  .cons (.of tb_cmp_Compare_string) <|
  .cons (.of tb_cmp_Compare_int) <|
  .cons (.of tb_span_number) <|
  .cons (.of tb_attribute_CompareAttrs) <|
  .cons (.of tb_slices_CompareFunc_api_Ref_api_Ref_api_Ref_api_Ref) <|
  .cons (.none _) <|
  .cons (.none _) <|
  .cons (.of tb_sleuthlaw11_flag) <|
  .cons (.of tb_span_View_text) <|
  .cons (.of tb_span_View_number) <|
  .cons (.of tb_slices_Contains_string_string) <|
  .cons (.of tb_attribute_within) <|
  .cons (.of tb_attribute_place) <|
  .cons (.of tb_span_kinds) <|
  .cons (.of tb_slices_Index_string_string) <|
  .cons (.of tb_span_chosen) <|
  .cons (.of tb_span_set) <|
  .cons (.none _) <|
  .cons (.none _) <|
  .cons (.of tb_span_Winners_1) <|
  .cons (.of tb_cmp_isNaN_string) <|
  .cons (.of tb_cmp_isNaN_int) <|
  .cons (.of tb_slices_CompareFunc_api_Attr_api_Attr_api_Attr_api_Attr) <|
  .cons (.of tb_attribute_CompareAttrs_1) <|
  .cons (.of tb_attribute_CompareValues) <|
  .cons (.of tb_slices_BinarySearchFunc_api_Attr_api_Attr_string) <|
  .cons (.of tb_attribute_place_1) <|
  .cons (.of tb_span_copied) <|
  .cons (.of tb_slices_CompactFunc_api_Span_api_Span) <|
  .cons (.of tb_slices_SortedFunc_api_Span) <|
  .cons (.of tb_slices_Values_api_Span_api_Span) <|
  .cons (.none _) <|
  .cons (.of tb_slices_Clone_api_Attr_api_Attr) <|
  .cons (.of tb_slices_Clone_api_Ref_api_Ref) <|
  .cons (.of tb_slices_Collect_api_Span) <|
  .cons (.of tb_slices_SortFunc_api_Span_api_Span) <|
  .cons (.of tb_slices_Values_api_Span_api_Span_1) <|
  .cons (.of tb_slices_AppendSeq_api_Span_api_Span) <|
  .cons (.none _) <|
  .cons (.none _) <|
  .cons (.none _) <|
  .cons (.none _) <|
  .cons (.none _) <|
  .cons (.none _) <|
  .cons (.none _) <|
  .cons (.none _) <|
  .cons (.none _) <|
  .cons (.none _) <|
  .cons (.none _) <|
  .cons (.none _) <|
  .cons (.none _) <|
  .cons (.none _) <|
  .cons (.none _) <| .nil
theorem entries (f : Nat) (id : FuncId) (X : XF) (h1 : phi f = some id) (h2 : XP f = some X) : Entry id X := by
  obtain ⟨Y, h3, h4⟩ := (each.get Fit.none f : Fit (phi f) (XP f)) id h1
  have h3 : XP f = some Y := h3
  rw [h2] at h3
  cases h3
  exact h4
theorem table : Table Try.prog phi XP where
  follows := by kernel_rfl
  there := tok
  code := fun f id X h hx => entries f id X h hx
theorem prog_own : ownKnob Try.prog.godebug = none := by kernel_rfl
theorem prog_laidOut : laidOutB Try.prog = true := by kernel_rfl
end Go.Proofs.Sl
