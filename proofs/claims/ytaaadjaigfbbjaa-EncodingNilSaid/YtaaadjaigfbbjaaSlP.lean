/- A part of the proof. -/
import Derived.Test.YtaaadjaigfbbjaaSlA
set_option linter.unusedVariables false
set_option linter.unusedSimpArgs false
set_option linter.unnecessarySimpa false
namespace Go.Proofs.Sl
def i_sleuthlaw01_EncodingOrder : Nat := 0
def i_sleuthlaw01_EncodingNumbers : Nat := 1
def i_sleuthlaw01_EncodingWrites : Nat := 2
def i_sleuthlaw01_EncodingReads : Nat := 3
def i_sleuthlaw01_EncodingDecodes : Nat := 4
def i_sleuthlaw01_EncodingSpans : Nat := 5
def i_sleuthlaw01_EncodingCuts : Nat := 6
def i_sleuthlaw01_EncodingNil : Nat := 7
def i_sleuthlaw01_EncodingFragments : Nat := 8
def i_encoding_Writer_Number : Nat := 9
def i_encoding_Writer_Bytes : Nat := 10
def i_sleuthlaw01_known : Nat := 11
def i_encoding_NewReader : Nat := 12
def i_sleuthref01_Number : Nat := 13
def i_encoding_Writer_Len : Nat := 14
def i_encoding_Reader_Number : Nat := 15
def i_encoding_Reader_End : Nat := 16
def i_encoding_Reader_Left : Nat := 17
def i_sleuthlaw01_part : Nat := 18
def i_sleuthlaw01_reads : Nat := 19
def i_encoding_Reader_Err : Nat := 20
def i_sleuthref01_End : Nat := 21
def i_encoding_DecodeSpan : Nat := 22
def i_encoding_DecodeFragment : Nat := 23
def i_encoding_DecodeTrace : Nat := 24
def i_sleuthref01_ReadSpan : Nat := 25
def i_sleuthref01_Span : Nat := 26
def i_sleuthref01_Fragment : Nat := 27
def i_sleuthref01_Trace : Nat := 28
def i_sleuthlaw01_short : Nat := 29
def i_encoding_EncodeSpan : Nat := 30
def i_sleuthlaw01_shortSpans : Nat := 31
def i_encoding_EncodeFragment : Nat := 32
def i_encoding_Writer_Bool : Nat := 33
def i_encoding_Writer_Text : Nat := 34
def i_encoding_Writer_Span : Nat := 35
def i_encoding_Writer_Message : Nat := 36
def i_encoding_Reader_Bool : Nat := 37
def i_encoding_Reader_Text : Nat := 38
def i_encoding_Reader_Count : Nat := 39
def i_encoding_Reader_Value : Nat := 40
def i_encoding_Reader_Attr : Nat := 41
def i_encoding_Reader_Ref : Nat := 42
def i_encoding_Reader_Exchange : Nat := 43
def i_encoding_Reader_Message : Nat := 44
def i_encoding_Reader_Span : Nat := 45
def i_encoding_EncodeTrace : Nat := 46
def i_encoding_magnitude : Nat := 47
def i_encoding_Writer_Attr : Nat := 48
def i_sleuthref01_magnitude : Nat := 49
def i_encoding_Reader_ok : Nat := 50
def i_encoding_Reader_number : Nat := 51
def i_encoding_Reader_fail : Nat := 52
def i_sleuthref01_Bool : Nat := 53
def i_sleuthref01_Text : Nat := 54
def i_encoding_Writer_Value : Nat := 55
def i_sleuthref01_Value : Nat := 56
def i_sleuthref01_Attr : Nat := 57
def i_encoding_Writer_Ref : Nat := 58
def i_sleuthref01_Ref : Nat := 59
def i_encoding_Writer_Exchange : Nat := 60
def i_sleuthref01_Exchange : Nat := 61
def i_sleuthref01_Message : Nat := 62
def i_sleuthref01_ReadNumber : Nat := 63
def i_sleuthref01_ReadBool : Nat := 64
def i_sleuthref01_ReadText : Nat := 65
def i_sleuthref01_ReadCount : Nat := 66
def i_sleuthref01_ReadValue : Nat := 67
def i_sleuthref01_ReadAttr : Nat := 68
def i_sleuthref01_ReadRef : Nat := 69
def i_sleuthref01_ReadExchange : Nat := 70
def i_sleuthref01_ReadMessage : Nat := 71
def i_encoding_Reader_numbers : Nat := 72
def i_encoding_elements_api_Span : Nat := 73
def i_encoding_elements_api_Exchange : Nat := 74
def i_sleuthref01_Spans : Nat := 75
def i_encoding_Writer_numbers : Nat := 76
def i_encoding_list_api_Span : Nat := 77
def i_encoding_list_api_Exchange : Nat := 78
def i_encoding_list_api_Attr : Nat := 79
def i_encoding_list_api_Ref : Nat := 80
def i_encoding_Reader_size : Nat := 81
def i_encoding_read_api_Value : Nat := 82
def i_encoding_read_api_Attr : Nat := 83
def i_encoding_read_api_Ref : Nat := 84
def i_encoding_read_api_Exchange : Nat := 85
def i_encoding_read_api_Message : Nat := 86
def i_encoding_elements_api_Attr : Nat := 87
def i_encoding_elements_api_Ref : Nat := 88
def i_encoding_read_api_Span : Nat := 89
def i_sleuthref01_number : Nat := 90
def i_sleuthref01_sized : Nat := 91
def x_sleuthlaw01_EncodingOrder : XF := { np := 2, results := [(.inl 4, .v)], body :=
  (.seq (.region [
    ⟨some 4, .cp (.c (.s (.bool false))), none⟩] (none))
  (.seq (.region [
    ⟨some 5, .alloc [.s (.slice none 0 0)], none⟩,
    ⟨some 6, .alloc [.s (.slice none 0 0)], none⟩] (none))
  (.seq (.region [
    ⟨some 10, .cp (.t 0), none⟩,
    ⟨some 11, .call false i_encoding_Writer_Number [(.t 5), (.t 10)], none⟩] (none))
  (.seq (.region [
    ⟨some 12, .cp (.t 1), none⟩,
    ⟨some 13, .call false i_encoding_Writer_Number [(.t 6), (.t 12)], none⟩] (none))
  (.seq (.region [
    ⟨some 14, .call false i_encoding_Writer_Bytes [(.t 5)], none⟩,
    ⟨some 15, .call false i_encoding_Writer_Bytes [(.t 6)], none⟩,
    ⟨some 7, .cp (.t 14), none⟩,
    ⟨some 8, .cp (.t 15), none⟩] (none))
  (.seq (.seq (.region [
    ⟨some 16, .call false i_sleuthlaw01_known [], none⟩,
    ⟨some 17, .un .not (.t 16), none⟩,
    ⟨some 18, .cp (.t 17), none⟩,
    ⟨some 19, .cp (.t 7), some (18, false)⟩,
    ⟨some 20, .cp (.t 8), some (18, false)⟩,
    ⟨some 21, .bin .lss (.t 19) (.t 20), some (18, false)⟩,
    ⟨some 22, .cp (.t 0), some (18, false)⟩,
    ⟨some 23, .cp (.t 1), some (18, false)⟩,
    ⟨some 24, .bin .lss (.t 22) (.t 23), some (18, false)⟩,
    ⟨some 25, .eqv .b true (.t 21) (.t 24), some (18, false)⟩,
    ⟨some 26, .pick (.t 18) (.c (.s (.bool true))) (.t 25), none⟩,
    ⟨some 27, .cp (.t 26), none⟩,
    ⟨some 28, .cp (.t 7), some (27, false)⟩,
    ⟨some 29, .cp (.t 8), some (27, false)⟩,
    ⟨some 30, .bin .eql (.t 28) (.t 29), some (27, false)⟩,
    ⟨some 31, .cp (.t 0), some (27, false)⟩,
    ⟨some 32, .cp (.t 1), some (27, false)⟩,
    ⟨some 33, .bin .eql (.t 31) (.t 32), some (27, false)⟩,
    ⟨some 34, .eqv .b true (.t 30) (.t 33), some (27, false)⟩,
    ⟨some 35, .pick (.t 27) (.c (.s (.bool true))) (.t 34), none⟩] (none))
  (.cond (.t 35)
    (.seq (.region [
      ⟨some 4, .cp (.c (.s (.bool false))), none⟩] (none))
    .ret)
    .skip))
  (.seq (.region [
    ⟨some 36, .cp (.t 7), none⟩,
    ⟨some 37, .len true (.t 36), none⟩,
    ⟨some 38, .cp (.t 8), none⟩,
    ⟨some 39, .len true (.t 38), none⟩,
    ⟨some 40, .minmax false [(.t 37), (.t 39)], none⟩,
    ⟨some 9, .cp (.t 40), none⟩] (none))
  (.seq (.region [
    ⟨some 41, .cp (.t 0), none⟩,
    ⟨some 42, .cp (.t 1), none⟩,
    ⟨some 43, .bin .eql (.t 41) (.t 42), none⟩,
    ⟨some 44, .cp (.t 43), none⟩,
    ⟨some 45, .cp (.t 7), some (44, false)⟩,
    ⟨some 46, .cp (.t 9), some (44, false)⟩,
    ⟨some 47, .slStr (.t 45) none (some (.t 46)), some (44, false)⟩,
    ⟨some 48, .cp (.t 8), some (44, false)⟩,
    ⟨some 49, .cp (.t 9), some (44, false)⟩,
    ⟨some 50, .slStr (.t 48) none (some (.t 49)), some (44, false)⟩,
    ⟨some 51, .bin .neq (.t 47) (.t 50), some (44, false)⟩,
    ⟨some 52, .pick (.t 44) (.c (.s (.bool true))) (.t 51), none⟩,
    ⟨some 4, .cp (.t 52), none⟩] (some []))
  .ret)))))))) }

def x_sleuthlaw01_EncodingNumbers : XF := { np := 2, results := [(.inl 4, .v)], body :=
  (.seq (.region [
    ⟨some 4, .cp (.c (.s (.bool false))), none⟩] (none))
  (.seq (.region [
    ⟨some 5, .alloc [.s (.slice none 0 0)], none⟩] (none))
  (.seq (.region [
    ⟨some 8, .cp (.t 0), none⟩,
    ⟨some 9, .call false i_encoding_Writer_Number [(.t 5), (.t 8)], none⟩] (none))
  (.seq (.region [
    ⟨some 10, .cp (.t 1), none⟩,
    ⟨some 11, .call false i_encoding_Writer_Number [(.t 5), (.t 10)], none⟩] (none))
  (.seq (.region [
    ⟨some 12, .call false i_encoding_Writer_Bytes [(.t 5)], none⟩,
    ⟨some 6, .cp (.t 12), none⟩] (none))
  (.seq (.region [
    ⟨some 13, .cp (.t 6), none⟩,
    ⟨some 14, .call false i_encoding_NewReader [(.t 13)], none⟩,
    ⟨some 7, .cp (.t 14), none⟩] (none))
  (.seq (.seq (.region [
    ⟨some 15, .call false i_sleuthlaw01_known [], none⟩,
    ⟨some 16, .un .not (.t 15), none⟩,
    ⟨some 17, .cp (.t 16), none⟩,
    ⟨some 18, .cp (.t 6), some (17, false)⟩,
    ⟨some 19, .cp (.t 0), some (17, false)⟩,
    ⟨some 20, .call false i_sleuthref01_Number [(.t 19)], some (17, false)⟩,
    ⟨some 21, .cp (.t 1), some (17, false)⟩,
    ⟨some 22, .call false i_sleuthref01_Number [(.t 21)], some (17, false)⟩,
    ⟨some 23, .bin .add (.t 20) (.t 22), some (17, false)⟩,
    ⟨some 24, .bin .neq (.t 18) (.t 23), some (17, false)⟩,
    ⟨some 25, .pick (.t 17) (.c (.s (.bool true))) (.t 24), none⟩,
    ⟨some 26, .cp (.t 25), none⟩,
    ⟨some 27, .call false i_encoding_Writer_Len [(.t 5)], some (26, false)⟩,
    ⟨some 28, .cp (.t 6), some (26, false)⟩,
    ⟨some 29, .len true (.t 28), some (26, false)⟩,
    ⟨some 30, .bin .neq (.t 27) (.t 29), some (26, false)⟩,
    ⟨some 31, .pick (.t 26) (.c (.s (.bool true))) (.t 30), none⟩] (none))
  (.cond (.t 31)
    (.seq (.region [
      ⟨some 4, .cp (.c (.s (.bool false))), none⟩] (none))
    .ret)
    .skip))
  (.seq (.region [
    ⟨some 32, .cp (.t 7), none⟩,
    ⟨some 33, .call false i_encoding_Reader_Number [(.t 32)], none⟩,
    ⟨some 34, .cp (.t 0), none⟩,
    ⟨some 35, .bin .eql (.t 33) (.t 34), none⟩,
    ⟨some 36, .cp (.t 35), none⟩,
    ⟨some 37, .cp (.t 7), some (36, true)⟩,
    ⟨some 38, .call false i_encoding_Reader_Number [(.t 37)], some (36, true)⟩,
    ⟨some 39, .cp (.t 1), some (36, true)⟩,
    ⟨some 40, .bin .eql (.t 38) (.t 39), some (36, true)⟩,
    ⟨some 41, .pick (.t 36) (.t 40) (.c (.s (.bool false))), none⟩,
    ⟨some 42, .cp (.t 41), none⟩,
    ⟨some 43, .cp (.t 7), some (42, true)⟩,
    ⟨some 44, .call false i_encoding_Reader_End [(.t 43)], some (42, true)⟩,
    ⟨some 45, .bin .eql (.t 44) (.c (.s (.int .i64 0))), some (42, true)⟩,
    ⟨some 46, .pick (.t 42) (.t 45) (.c (.s (.bool false))), none⟩,
    ⟨some 47, .cp (.t 46), none⟩,
    ⟨some 48, .cp (.t 7), some (47, true)⟩,
    ⟨some 49, .call false i_encoding_Reader_Left [(.t 48)], some (47, true)⟩,
    ⟨some 50, .bin .eql (.t 49) (.c (.s (.int .i64 0))), some (47, true)⟩,
    ⟨some 51, .pick (.t 47) (.t 50) (.c (.s (.bool false))), none⟩,
    ⟨some 4, .cp (.t 51), none⟩] (none))
  .ret)))))))) }

def x_sleuthlaw01_EncodingWrites_l0 : XC :=
  (.seq (.seq (.region [
    ⟨some 14, .cp (.t 5), none⟩,
    ⟨some 15, .cp (.t 0), none⟩,
    ⟨some 16, .len false (.t 15), none⟩,
    ⟨some 17, .bin .lss (.t 14) (.t 16), none⟩] (none))
  (.cond (.t 17)
    .skip
    (.exit 0)))
  (.seq (.block 1
    (.seq (.seq (.region [
      ⟨some 20, .cp (.t 0), none⟩,
      ⟨some 21, .cp (.t 5), none⟩,
      ⟨some 22, .iaddr 11 (.t 20) (.t 21), none⟩,
      ⟨some 23, .faddr (.t 22) 9, none⟩,
      ⟨some 24, .load 1 false (.t 23), none⟩,
      ⟨some 25, .len true (.t 24), none⟩,
      ⟨some 26, .bin .gtr (.t 25) (.c (.s (.int .i64 50))), none⟩,
      ⟨some 27, .cp (.t 26), none⟩,
      ⟨some 28, .cp (.t 0), some (27, false)⟩,
      ⟨some 29, .cp (.t 5), some (27, false)⟩,
      ⟨some 30, .iaddr 11 (.t 28) (.t 29), some (27, false)⟩,
      ⟨some 31, .faddr (.t 30) 10, some (27, false)⟩,
      ⟨some 32, .load 1 false (.t 31), some (27, false)⟩,
      ⟨some 33, .len true (.t 32), some (27, false)⟩,
      ⟨some 34, .bin .gtr (.t 33) (.c (.s (.int .i64 50))), some (27, false)⟩,
      ⟨some 35, .pick (.t 27) (.c (.s (.bool true))) (.t 34), none⟩] (none))
    (.cond (.t 35)
      (.seq (.region [
        ⟨some 2, .cp (.c (.s (.bool true))), none⟩] (none))
      .ret)
      .skip))
    (.seq (.region [
      ⟨some 36, .cp (.t 4), none⟩,
      ⟨some 37, .cp (.t 0), none⟩,
      ⟨some 38, .cp (.t 5), none⟩,
      ⟨some 39, .iaddr 11 (.t 37) (.t 38), none⟩,
      ⟨some 40, .load 11 true (.t 39), none⟩,
      ⟨some 41, .call false i_sleuthlaw01_part [(.t 3), (.t 40)], none⟩,
      ⟨some 42, .bin .add (.t 36) (.t 41), none⟩,
      ⟨some 4, .cp (.t 42), none⟩] (none))
    (.seq (.region [
      ⟨some 43, .call false i_encoding_Writer_Bytes [(.t 3)], none⟩,
      ⟨some 44, .cp (.t 4), none⟩,
      ⟨some 45, .bin .neq (.t 43) (.t 44), none⟩,
      ⟨some 46, .cp (.t 45), none⟩,
      ⟨some 47, .call false i_encoding_Writer_Len [(.t 3)], some (46, false)⟩,
      ⟨some 48, .cp (.t 4), some (46, false)⟩,
      ⟨some 49, .len true (.t 48), some (46, false)⟩,
      ⟨some 50, .bin .neq (.t 47) (.t 49), some (46, false)⟩,
      ⟨some 51, .pick (.t 46) (.c (.s (.bool true))) (.t 50), none⟩] (none))
    (.cond (.t 51)
      (.seq (.region [
        ⟨some 2, .cp (.c (.s (.bool false))), none⟩] (none))
      .ret)
      .skip)))))
  (.region [
    ⟨some 18, .cp (.t 5), none⟩,
    ⟨some 19, .bin .add (.t 18) (.c (.s (.int .i64 1))), none⟩,
    ⟨some 5, .cp (.t 19), none⟩] (none))))
def x_sleuthlaw01_EncodingWrites : XF := { np := 1, results := [(.inl 2, .v)], body :=
  (.seq (.region [
    ⟨some 2, .cp (.c (.s (.bool false))), none⟩] (none))
  (.seq (.seq (.region [
    ⟨some 6, .call false i_sleuthlaw01_known [], none⟩,
    ⟨some 7, .un .not (.t 6), none⟩,
    ⟨some 8, .cp (.t 7), none⟩,
    ⟨some 9, .cp (.t 0), some (8, false)⟩,
    ⟨some 10, .len false (.t 9), some (8, false)⟩,
    ⟨some 11, .bin .gtr (.t 10) (.c (.s (.int .i64 8))), some (8, false)⟩,
    ⟨some 12, .pick (.t 8) (.c (.s (.bool true))) (.t 11), none⟩] (none))
  (.cond (.t 12)
    (.seq (.region [
      ⟨some 13, .call false i_sleuthlaw01_known [], none⟩,
      ⟨some 2, .cp (.t 13), none⟩] (none))
    .ret)
    .skip))
  (.seq (.region [
    ⟨some 3, .alloc [.s (.slice none 0 0)], none⟩] (none))
  (.seq (.region [
    ⟨some 4, .cp (.c (.s (.string ⟨#[]⟩))), none⟩] (none))
  (.seq (.seq (.region [
    ⟨some 5, .cp (.c (.s (.int .i64 0))), none⟩] (none))
  (.block 0
    (.loop x_sleuthlaw01_EncodingWrites_l0)))
  (.seq (.region [
    ⟨some 2, .cp (.c (.s (.bool true))), none⟩] (none))
  .ret)))))) }

def x_sleuthlaw01_EncodingReads_l0 : XC :=
  (.seq (.seq (.region [
    ⟨some 25, .cp (.t 7), none⟩,
    ⟨some 26, .cp (.t 1), none⟩,
    ⟨some 27, .len false (.t 26), none⟩,
    ⟨some 28, .bin .lss (.t 25) (.t 27), none⟩] (none))
  (.cond (.t 28)
    .skip
    (.exit 0)))
  (.seq (.block 1
    (.seq (.region [
      ⟨some 31, .cp (.t 5), none⟩,
      ⟨some 32, .cp (.t 1), none⟩,
      ⟨some 33, .cp (.t 7), none⟩,
      ⟨some 34, .iaddr 2 (.t 32) (.t 33), none⟩,
      ⟨some 35, .load 2 true (.t 34), none⟩,
      ⟨some 36, .call false i_sleuthlaw01_reads [(.t 31), (.t 6), (.t 35)], none⟩,
      ⟨some 37, .un .not (.t 36), none⟩,
      ⟨some 38, .cp (.t 37), none⟩,
      ⟨some 39, .cp (.t 5), some (38, false)⟩,
      ⟨some 40, .call false i_encoding_Reader_Err [(.t 39)], some (38, false)⟩,
      ⟨some 41, .faddr (.t 6) 2, some (38, false)⟩,
      ⟨some 42, .load 1 false (.t 41), some (38, false)⟩,
      ⟨some 43, .bin .neq (.t 40) (.t 42), some (38, false)⟩,
      ⟨some 44, .pick (.t 38) (.c (.s (.bool true))) (.t 43), none⟩,
      ⟨some 45, .cp (.t 44), none⟩,
      ⟨some 46, .cp (.t 5), some (45, false)⟩,
      ⟨some 47, .call false i_encoding_Reader_Left [(.t 46)], some (45, false)⟩,
      ⟨some 48, .cp (.t 0), some (45, false)⟩,
      ⟨some 49, .len true (.t 48), some (45, false)⟩,
      ⟨some 50, .faddr (.t 6) 1, some (45, false)⟩,
      ⟨some 51, .load 1 false (.t 50), some (45, false)⟩,
      ⟨some 52, .bin .sub (.t 49) (.t 51), some (45, false)⟩,
      ⟨some 53, .bin .neq (.t 47) (.t 52), some (45, false)⟩,
      ⟨some 54, .pick (.t 45) (.c (.s (.bool true))) (.t 53), none⟩,
      ⟨some 55, .cp (.t 54), none⟩,
      ⟨some 56, .cp (.t 5), some (55, false)⟩,
      ⟨some 57, .call false i_encoding_Reader_End [(.t 56)], some (55, false)⟩,
      ⟨some 58, .call false i_sleuthref01_End [(.t 6)], some (55, false)⟩,
      ⟨some 59, .bin .neq (.t 57) (.t 58), some (55, false)⟩,
      ⟨some 60, .pick (.t 55) (.c (.s (.bool true))) (.t 59), none⟩] (some [(9, some 11), (16, some 18), (16, some 20)]))
    (.cond (.t 60)
      (.seq (.region [
        ⟨some 4, .cp (.c (.s (.bool false))), none⟩] (none))
      .ret)
      .skip)))
  (.region [
    ⟨some 29, .cp (.t 7), none⟩,
    ⟨some 30, .bin .add (.t 29) (.c (.s (.int .i64 1))), none⟩,
    ⟨some 7, .cp (.t 30), none⟩] (none))))
def x_sleuthlaw01_EncodingReads : XF := { np := 2, results := [(.inl 4, .v)], body :=
  (.seq (.region [
    ⟨some 4, .cp (.c (.s (.bool false))), none⟩] (none))
  (.seq (.seq (.region [
    ⟨some 8, .call false i_sleuthlaw01_known [], none⟩,
    ⟨some 9, .un .not (.t 8), none⟩,
    ⟨some 10, .cp (.t 9), none⟩,
    ⟨some 11, .cp (.t 0), some (10, false)⟩,
    ⟨some 12, .len true (.t 11), some (10, false)⟩,
    ⟨some 13, .bin .gtr (.t 12) (.c (.s (.int .i64 200))), some (10, false)⟩,
    ⟨some 14, .pick (.t 10) (.c (.s (.bool true))) (.t 13), none⟩,
    ⟨some 15, .cp (.t 14), none⟩,
    ⟨some 16, .cp (.t 1), some (15, false)⟩,
    ⟨some 17, .len false (.t 16), some (15, false)⟩,
    ⟨some 18, .bin .gtr (.t 17) (.c (.s (.int .i64 20))), some (15, false)⟩,
    ⟨some 19, .pick (.t 15) (.c (.s (.bool true))) (.t 18), none⟩] (none))
  (.cond (.t 19)
    (.seq (.region [
      ⟨some 20, .call false i_sleuthlaw01_known [], none⟩,
      ⟨some 4, .cp (.t 20), none⟩] (none))
    .ret)
    .skip))
  (.seq (.region [
    ⟨some 21, .cp (.t 0), none⟩,
    ⟨some 22, .call false i_encoding_NewReader [(.t 21)], none⟩,
    ⟨some 23, .cp (.t 0), none⟩,
    ⟨some 24, .build false [.s (.string ⟨#[]⟩), .s (.int .i64 0), .s (.int .i64 0)] [(0, 1, (.t 23))], none⟩,
    ⟨some 6, .alloc [.s (.string ⟨#[]⟩), .s (.int .i64 0), .s (.int .i64 0)], none⟩,
    ⟨some 5, .cp (.t 22), none⟩,
    ⟨none, .store 3 (.t 6) (.t 24), none⟩] (none))
  (.seq (.seq (.region [
    ⟨some 7, .cp (.c (.s (.int .i64 0))), none⟩] (none))
  (.block 0
    (.loop x_sleuthlaw01_EncodingReads_l0)))
  (.seq (.region [
    ⟨some 4, .cp (.c (.s (.bool true))), none⟩] (none))
  .ret))))) }

def x_sleuthlaw01_EncodingDecodes : XF := { np := 1, results := [(.inl 2, .v)], body :=
  (.seq (.region [
    ⟨some 2, .cp (.c (.s (.bool false))), none⟩] (none))
  (.seq (.seq (.region [
    ⟨some 11, .call false i_sleuthlaw01_known [], none⟩,
    ⟨some 12, .un .not (.t 11), none⟩,
    ⟨some 13, .cp (.t 12), none⟩,
    ⟨some 14, .cp (.t 0), some (13, false)⟩,
    ⟨some 15, .len true (.t 14), some (13, false)⟩,
    ⟨some 16, .bin .gtr (.t 15) (.c (.s (.int .i64 400))), some (13, false)⟩,
    ⟨some 17, .pick (.t 13) (.c (.s (.bool true))) (.t 16), none⟩] (none))
  (.cond (.t 17)
    (.seq (.region [
      ⟨some 18, .call false i_sleuthlaw01_known [], none⟩,
      ⟨some 2, .cp (.t 18), none⟩] (none))
    .ret)
    .skip))
  (.seq (.region [
    ⟨some 20, .cp (.t 0), none⟩,
    ⟨some 21, .call false i_encoding_DecodeSpan [(.t 20)], none⟩,
    ⟨some 19, .cp (.t 21), none⟩,
    ⟨some 22, .extract (.t 19) 0, none⟩,
    ⟨some 23, .extract (.t 19) 1, none⟩,
    ⟨some 3, .alloc [.s (.int .i64 0), .s (.int .i64 0), .s (.int .i64 0), .s (.int .i64 0), .s (.int .i64 0), .s (.int .i64 0), .s (.string ⟨#[]⟩), .s (.string ⟨#[]⟩), .s (.string ⟨#[]⟩), .s (.int .i64 0), .s (.int .i64 0), .s (.bool false), .s (.slice none 0 0), .s (.slice none 0 0)], none⟩,
    ⟨none, .store 14 (.t 3) (.t 22), none⟩,
    ⟨some 4, .cp (.t 23), none⟩] (none))
  (.seq (.region [
    ⟨some 25, .cp (.t 0), none⟩,
    ⟨some 26, .call false i_encoding_DecodeFragment [(.t 25)], none⟩,
    ⟨some 24, .cp (.t 26), none⟩,
    ⟨some 27, .extract (.t 24) 0, none⟩,
    ⟨some 28, .extract (.t 24) 1, none⟩,
    ⟨some 5, .alloc [.s (.int .i64 0), .s (.int .i64 0), .s (.slice none 0 0), .s (.slice none 0 0)], none⟩,
    ⟨none, .store 4 (.t 5) (.t 27), none⟩,
    ⟨some 6, .cp (.t 28), none⟩] (none))
  (.seq (.region [
    ⟨some 30, .cp (.t 0), none⟩,
    ⟨some 31, .call false i_encoding_DecodeTrace [(.t 30)], none⟩,
    ⟨some 29, .cp (.t 31), none⟩,
    ⟨some 32, .extract (.t 29) 0, none⟩,
    ⟨some 33, .extract (.t 29) 1, none⟩,
    ⟨some 7, .alloc [.s (.int .i64 0), .s (.int .i64 0), .s (.slice none 0 0)], none⟩,
    ⟨none, .store 3 (.t 7) (.t 32), none⟩,
    ⟨some 8, .cp (.t 33), none⟩] (none))
  (.seq (.region [
    ⟨some 34, .cp (.t 0), none⟩,
    ⟨some 35, .build false [.s (.string ⟨#[]⟩), .s (.int .i64 0), .s (.int .i64 0)] [(0, 1, (.t 34))], none⟩,
    ⟨some 9, .alloc [.s (.string ⟨#[]⟩), .s (.int .i64 0), .s (.int .i64 0)], none⟩,
    ⟨none, .store 3 (.t 9) (.t 35), none⟩] (none))
  (.seq (.region [
    ⟨some 36, .call false i_sleuthref01_ReadSpan [(.t 9)], none⟩,
    ⟨some 10, .alloc [.s (.int .i64 0), .s (.int .i64 0), .s (.int .i64 0), .s (.int .i64 0), .s (.int .i64 0), .s (.int .i64 0), .s (.string ⟨#[]⟩), .s (.string ⟨#[]⟩), .s (.string ⟨#[]⟩), .s (.int .i64 0), .s (.int .i64 0), .s (.bool false), .s (.slice none 0 0), .s (.slice none 0 0)], none⟩,
    ⟨none, .store 14 (.t 10) (.t 36), none⟩] (none))
  (.seq (.seq (.region [
    ⟨some 37, .cp (.t 4), none⟩,
    ⟨some 38, .call false i_sleuthref01_End [(.t 9)], none⟩,
    ⟨some 39, .bin .neq (.t 37) (.t 38), none⟩,
    ⟨some 40, .cp (.t 39), none⟩,
    ⟨some 41, .cp (.t 4), some (40, false)⟩,
    ⟨some 42, .bin .eql (.t 41) (.c (.s (.int .i64 0))), some (40, false)⟩,
    ⟨some 43, .cp (.t 42), some (40, false)⟩,
    ⟨some 44, .load 14 true (.t 3), some (43, true)⟩,
    ⟨some 45, .call false i_sleuthref01_Span [(.t 44)], some (43, true)⟩,
    ⟨some 46, .cp (.t 0), some (43, true)⟩,
    ⟨some 47, .bin .neq (.t 45) (.t 46), some (43, true)⟩,
    ⟨some 48, .cp (.t 47), some (43, true)⟩,
    ⟨some 49, .load 14 true (.t 10), some (48, false)⟩,
    ⟨some 50, .call false i_sleuthref01_Span [(.t 49)], some (48, false)⟩,
    ⟨some 51, .cp (.t 0), some (48, false)⟩,
    ⟨some 52, .bin .neq (.t 50) (.t 51), some (48, false)⟩,
    ⟨some 53, .pick (.t 48) (.c (.s (.bool true))) (.t 52), some (43, true)⟩,
    ⟨some 54, .pick (.t 43) (.t 53) (.c (.s (.bool false))), some (40, false)⟩,
    ⟨some 55, .pick (.t 40) (.c (.s (.bool true))) (.t 54), none⟩,
    ⟨some 56, .cp (.t 55), none⟩,
    ⟨some 57, .cp (.t 4), some (56, false)⟩,
    ⟨some 58, .bin .neq (.t 57) (.c (.s (.int .i64 0))), some (56, false)⟩,
    ⟨some 59, .cp (.t 58), some (56, false)⟩,
    ⟨some 60, .load 14 true (.t 3), some (59, true)⟩,
    ⟨some 61, .call false i_sleuthref01_Span [(.t 60)], some (59, true)⟩,
    ⟨some 62, .build false [.s (.int .i64 0), .s (.int .i64 0), .s (.int .i64 0), .s (.int .i64 0), .s (.int .i64 0), .s (.int .i64 0), .s (.string ⟨#[]⟩), .s (.string ⟨#[]⟩), .s (.string ⟨#[]⟩), .s (.int .i64 0), .s (.int .i64 0), .s (.bool false), .s (.slice none 0 0), .s (.slice none 0 0)] [], some (59, true)⟩,
    ⟨some 63, .call false i_sleuthref01_Span [(.t 62)], some (59, true)⟩,
    ⟨some 64, .bin .neq (.t 61) (.t 63), some (59, true)⟩,
    ⟨some 65, .pick (.t 59) (.t 64) (.c (.s (.bool false))), some (56, false)⟩,
    ⟨some 66, .pick (.t 56) (.c (.s (.bool true))) (.t 65), none⟩] (none))
  (.cond (.t 66)
    (.seq (.region [
      ⟨some 2, .cp (.c (.s (.bool false))), none⟩] (none))
    .ret)
    .skip))
  (.seq (.seq (.region [
    ⟨some 67, .cp (.t 6), none⟩,
    ⟨some 68, .bin .eql (.t 67) (.c (.s (.int .i64 0))), none⟩,
    ⟨some 69, .cp (.t 68), none⟩,
    ⟨some 70, .load 4 true (.t 5), some (69, true)⟩,
    ⟨some 71, .call false i_sleuthref01_Fragment [(.t 70)], some (69, true)⟩,
    ⟨some 72, .cp (.t 0), some (69, true)⟩,
    ⟨some 73, .bin .neq (.t 71) (.t 72), some (69, true)⟩,
    ⟨some 74, .pick (.t 69) (.t 73) (.c (.s (.bool false))), none⟩,
    ⟨some 75, .cp (.t 74), none⟩,
    ⟨some 76, .cp (.t 6), some (75, false)⟩,
    ⟨some 77, .bin .neq (.t 76) (.c (.s (.int .i64 0))), some (75, false)⟩,
    ⟨some 78, .cp (.t 77), some (75, false)⟩,
    ⟨some 79, .load 4 true (.t 5), some (78, true)⟩,
    ⟨some 80, .call false i_sleuthref01_Fragment [(.t 79)], some (78, true)⟩,
    ⟨some 81, .build false [.s (.int .i64 0), .s (.int .i64 0), .s (.slice none 0 0), .s (.slice none 0 0)] [], some (78, true)⟩,
    ⟨some 82, .call false i_sleuthref01_Fragment [(.t 81)], some (78, true)⟩,
    ⟨some 83, .bin .neq (.t 80) (.t 82), some (78, true)⟩,
    ⟨some 84, .pick (.t 78) (.t 83) (.c (.s (.bool false))), some (75, false)⟩,
    ⟨some 85, .pick (.t 75) (.c (.s (.bool true))) (.t 84), none⟩] (none))
  (.cond (.t 85)
    (.seq (.region [
      ⟨some 2, .cp (.c (.s (.bool false))), none⟩] (none))
    .ret)
    .skip))
  (.seq (.region [
    ⟨some 86, .cp (.t 8), none⟩,
    ⟨some 87, .bin .neq (.t 86) (.c (.s (.int .i64 0))), none⟩,
    ⟨some 88, .cp (.t 87), none⟩,
    ⟨some 89, .load 3 true (.t 7), some (88, false)⟩,
    ⟨some 90, .call false i_sleuthref01_Trace [(.t 89)], some (88, false)⟩,
    ⟨some 91, .cp (.t 0), some (88, false)⟩,
    ⟨some 92, .bin .eql (.t 90) (.t 91), some (88, false)⟩,
    ⟨some 93, .pick (.t 88) (.c (.s (.bool true))) (.t 92), none⟩,
    ⟨some 94, .cp (.t 93), none⟩,
    ⟨some 95, .cp (.t 8), some (94, true)⟩,
    ⟨some 96, .bin .eql (.t 95) (.c (.s (.int .i64 0))), some (94, true)⟩,
    ⟨some 97, .cp (.t 96), some (94, true)⟩,
    ⟨some 98, .load 3 true (.t 7), some (97, false)⟩,
    ⟨some 99, .call false i_sleuthref01_Trace [(.t 98)], some (97, false)⟩,
    ⟨some 100, .build false [.s (.int .i64 0), .s (.int .i64 0), .s (.slice none 0 0)] [], some (97, false)⟩,
    ⟨some 101, .call false i_sleuthref01_Trace [(.t 100)], some (97, false)⟩,
    ⟨some 102, .bin .eql (.t 99) (.t 101), some (97, false)⟩,
    ⟨some 103, .pick (.t 97) (.c (.s (.bool true))) (.t 102), some (94, true)⟩,
    ⟨some 104, .pick (.t 94) (.t 103) (.c (.s (.bool false))), none⟩,
    ⟨some 2, .cp (.t 104), none⟩] (none))
  .ret)))))))))) }

def x_sleuthlaw01_EncodingSpans : XF := { np := 1, results := [(.inl 2, .v)], body :=
  (.seq (.region [
    ⟨some 1, .box false (.t 0), none⟩,
    ⟨some 2, .cp (.c (.s (.bool false))), none⟩] (none))
  (.seq (.seq (.region [
    ⟨some 6, .call false i_sleuthlaw01_known [], none⟩,
    ⟨some 7, .un .not (.t 6), none⟩,
    ⟨some 8, .cp (.t 7), none⟩,
    ⟨some 9, .load 14 true (.t 1), some (8, false)⟩,
    ⟨some 10, .call false i_sleuthlaw01_short [(.t 9)], some (8, false)⟩,
    ⟨some 11, .un .not (.t 10), some (8, false)⟩,
    ⟨some 12, .pick (.t 8) (.c (.s (.bool true))) (.t 11), none⟩] (none))
  (.cond (.t 12)
    (.seq (.region [
      ⟨some 13, .call false i_sleuthlaw01_known [], none⟩,
      ⟨some 2, .cp (.t 13), none⟩] (none))
    .ret)
    .skip))
  (.seq (.region [
    ⟨some 14, .load 14 true (.t 1), none⟩,
    ⟨some 15, .call false i_encoding_EncodeSpan [(.t 14)], none⟩,
    ⟨some 3, .cp (.t 15), none⟩] (none))
  (.seq (.region [
    ⟨some 17, .cp (.t 3), none⟩,
    ⟨some 18, .call false i_encoding_DecodeSpan [(.t 17)], none⟩,
    ⟨some 16, .cp (.t 18), none⟩,
    ⟨some 19, .extract (.t 16) 0, none⟩,
    ⟨some 20, .extract (.t 16) 1, none⟩,
    ⟨some 4, .alloc [.s (.int .i64 0), .s (.int .i64 0), .s (.int .i64 0), .s (.int .i64 0), .s (.int .i64 0), .s (.int .i64 0), .s (.string ⟨#[]⟩), .s (.string ⟨#[]⟩), .s (.string ⟨#[]⟩), .s (.int .i64 0), .s (.int .i64 0), .s (.bool false), .s (.slice none 0 0), .s (.slice none 0 0)], none⟩,
    ⟨none, .store 14 (.t 4) (.t 19), none⟩,
    ⟨some 5, .cp (.t 20), none⟩] (none))
  (.seq (.region [
    ⟨some 21, .cp (.t 3), none⟩,
    ⟨some 22, .load 14 true (.t 1), none⟩,
    ⟨some 23, .call false i_sleuthref01_Span [(.t 22)], none⟩,
    ⟨some 24, .bin .eql (.t 21) (.t 23), none⟩,
    ⟨some 25, .cp (.t 24), none⟩,
    ⟨some 26, .cp (.t 5), some (25, true)⟩,
    ⟨some 27, .bin .eql (.t 26) (.c (.s (.int .i64 0))), some (25, true)⟩,
    ⟨some 28, .pick (.t 25) (.t 27) (.c (.s (.bool false))), none⟩,
    ⟨some 29, .cp (.t 28), none⟩,
    ⟨some 30, .load 14 true (.t 4), some (29, true)⟩,
    ⟨some 31, .call false i_sleuthref01_Span [(.t 30)], some (29, true)⟩,
    ⟨some 32, .cp (.t 3), some (29, true)⟩,
    ⟨some 33, .bin .eql (.t 31) (.t 32), some (29, true)⟩,
    ⟨some 34, .pick (.t 29) (.t 33) (.c (.s (.bool false))), none⟩,
    ⟨some 2, .cp (.t 34), none⟩] (none))
  .ret))))) }

def x_sleuthlaw01_EncodingCuts : XF := { np := 3, results := [(.inl 6, .v)], body :=
  (.seq (.region [
    ⟨some 3, .box false (.t 0), none⟩,
    ⟨some 6, .cp (.c (.s (.bool false))), none⟩] (none))
  (.seq (.seq (.region [
    ⟨some 12, .call false i_sleuthlaw01_known [], none⟩,
    ⟨some 13, .un .not (.t 12), none⟩,
    ⟨some 14, .cp (.t 13), none⟩,
    ⟨some 15, .faddr (.t 3) 2, some (14, false)⟩,
    ⟨some 16, .load 1 false (.t 15), some (14, false)⟩,
    ⟨some 17, .call false i_sleuthlaw01_shortSpans [(.t 16)], some (14, false)⟩,
    ⟨some 18, .un .not (.t 17), some (14, false)⟩,
    ⟨some 19, .pick (.t 14) (.c (.s (.bool true))) (.t 18), none⟩,
    ⟨some 20, .cp (.t 19), none⟩,
    ⟨some 21, .faddr (.t 3) 3, some (20, false)⟩,
    ⟨some 22, .load 1 false (.t 21), some (20, false)⟩,
    ⟨some 23, .len false (.t 22), some (20, false)⟩,
    ⟨some 24, .bin .gtr (.t 23) (.c (.s (.int .i64 8))), some (20, false)⟩,
    ⟨some 25, .pick (.t 20) (.c (.s (.bool true))) (.t 24), none⟩] (none))
  (.cond (.t 25)
    (.seq (.region [
      ⟨some 26, .call false i_sleuthlaw01_known [], none⟩,
      ⟨some 6, .cp (.t 26), none⟩] (none))
    .ret)
    .skip))
  (.seq (.region [
    ⟨some 27, .load 4 true (.t 3), none⟩,
    ⟨some 28, .call false i_encoding_EncodeFragment [(.t 27)], none⟩,
    ⟨some 7, .cp (.t 28), none⟩] (none))
  (.seq (.seq (.region [
    ⟨some 29, .cp (.t 7), none⟩,
    ⟨some 30, .len true (.t 29), none⟩,
    ⟨some 31, .bin .eql (.t 30) (.c (.s (.int .i64 0))), none⟩] (none))
  (.cond (.t 31)
    (.seq (.region [
      ⟨some 6, .cp (.c (.s (.bool false))), none⟩] (none))
    .ret)
    .skip))
  (.seq (.region [
    ⟨some 33, .cp (.t 7), none⟩,
    ⟨some 34, .cp (.t 1), none⟩,
    ⟨some 35, .conv .i64 (.t 34), none⟩,
    ⟨some 36, .cp (.t 7), none⟩,
    ⟨some 37, .len true (.t 36), none⟩,
    ⟨some 38, .bin .rem (.t 35) (.t 37), none⟩,
    ⟨some 39, .slStr (.t 33) none (some (.t 38)), none⟩,
    ⟨some 40, .call false i_encoding_DecodeFragment [(.t 39)], none⟩,
    ⟨some 32, .cp (.t 40), none⟩,
    ⟨some 41, .extract (.t 32) 0, none⟩,
    ⟨some 42, .extract (.t 32) 1, none⟩,
    ⟨some 8, .alloc [.s (.int .i64 0), .s (.int .i64 0), .s (.slice none 0 0), .s (.slice none 0 0)], none⟩,
    ⟨none, .store 4 (.t 8) (.t 41), none⟩,
    ⟨some 9, .cp (.t 42), none⟩] (none))
  (.seq (.region [
    ⟨some 44, .cp (.t 7), none⟩,
    ⟨some 45, .cp (.t 2), none⟩,
    ⟨some 46, .bslice false 1 [(.t 45)], none⟩,
    ⟨some 47, .toStr (.t 46), none⟩,
    ⟨some 48, .bin .add (.t 44) (.t 47), none⟩,
    ⟨some 49, .call false i_encoding_DecodeFragment [(.t 48)], none⟩,
    ⟨some 43, .cp (.t 49), none⟩,
    ⟨some 50, .extract (.t 43) 0, none⟩,
    ⟨some 51, .extract (.t 43) 1, none⟩,
    ⟨some 10, .alloc [.s (.int .i64 0), .s (.int .i64 0), .s (.slice none 0 0), .s (.slice none 0 0)], none⟩,
    ⟨none, .store 4 (.t 10) (.t 50), none⟩,
    ⟨some 11, .cp (.t 51), none⟩] (none))
  (.seq (.region [
    ⟨some 52, .cp (.t 9), none⟩,
    ⟨some 53, .bin .eql (.t 52) (.c (.s (.int .i64 4))), none⟩,
    ⟨some 54, .cp (.t 53), none⟩,
    ⟨some 55, .cp (.t 11), some (54, true)⟩,
    ⟨some 56, .bin .eql (.t 55) (.c (.s (.int .i64 3))), some (54, true)⟩,
    ⟨some 57, .pick (.t 54) (.t 56) (.c (.s (.bool false))), none⟩,
    ⟨some 6, .cp (.t 57), none⟩] (none))
  .ret))))))) }

def x_sleuthlaw01_EncodingNil : XF := { np := 2, results := [(.inl 4, .v)], body :=
  (.seq (.region [
    ⟨some 4, .cp (.c (.s (.bool false))), none⟩] (none))
  (.seq (.seq (.region [
    ⟨some 8, .call false i_sleuthlaw01_known [], none⟩,
    ⟨some 9, .un .not (.t 8), none⟩,
    ⟨some 10, .cp (.t 9), none⟩,
    ⟨some 11, .cp (.t 1), some (10, false)⟩,
    ⟨some 12, .len true (.t 11), some (10, false)⟩,
    ⟨some 13, .bin .gtr (.t 12) (.c (.s (.int .i64 20))), some (10, false)⟩,
    ⟨some 14, .pick (.t 10) (.c (.s (.bool true))) (.t 13), none⟩] (none))
  (.cond (.t 14)
    (.seq (.region [
      ⟨some 15, .call false i_sleuthlaw01_known [], none⟩,
      ⟨some 4, .cp (.t 15), none⟩] (none))
    .ret)
    .skip))
  (.seq (.region [
    ⟨some 5, .cp (.c (.s (.pointer none))), none⟩] (none))
  (.seq (.region [
    ⟨some 16, .cp (.t 5), none⟩,
    ⟨some 17, .cp (.t 0), none⟩,
    ⟨some 18, .call false i_encoding_Writer_Number [(.t 16), (.t 17)], none⟩] (none))
  (.seq (.region [
    ⟨some 19, .cp (.t 5), none⟩,
    ⟨some 20, .cp (.t 0), none⟩,
    ⟨some 21, .bin .gtr (.t 20) (.c (.s (.int .i64 0))), none⟩,
    ⟨some 22, .call false i_encoding_Writer_Bool [(.t 19), (.t 21)], none⟩] (none))
  (.seq (.region [
    ⟨some 23, .cp (.t 5), none⟩,
    ⟨some 24, .cp (.t 1), none⟩,
    ⟨some 25, .call false i_encoding_Writer_Text [(.t 23), (.t 24)], none⟩] (none))
  (.seq (.region [
    ⟨some 26, .cp (.t 5), none⟩,
    ⟨some 27, .cp (.t 1), none⟩,
    ⟨some 28, .build false [.s (.int .i64 0), .s (.int .i64 0), .s (.int .i64 0), .s (.int .i64 0), .s (.int .i64 0), .s (.int .i64 0), .s (.string ⟨#[]⟩), .s (.string ⟨#[]⟩), .s (.string ⟨#[]⟩), .s (.int .i64 0), .s (.int .i64 0), .s (.bool false), .s (.slice none 0 0), .s (.slice none 0 0)] [(6, 1, (.t 27))], none⟩,
    ⟨some 29, .call false i_encoding_Writer_Span [(.t 26), (.t 28)], none⟩] (none))
  (.seq (.region [
    ⟨some 30, .cp (.t 5), none⟩,
    ⟨some 31, .cp (.t 0), none⟩,
    ⟨some 32, .build false [.s (.int .i64 0), .s (.int .i64 0), .s (.int .i64 0), .s (.int .i64 0), .s (.int .i64 0), .s (.int .i64 0), .s (.int .i64 0), .s (.int .i64 0), .s (.int .i64 0), .s (.int .i64 0)] [(0, 1, (.t 31))], none⟩,
    ⟨some 33, .call false i_encoding_Writer_Message [(.t 30), (.t 32)], none⟩] (none))
  (.seq (.region [
    ⟨some 6, .cp (.c (.s (.pointer none))), none⟩] (none))
  (.seq (.region [
    ⟨some 34, .cp (.t 6), none⟩,
    ⟨some 35, .call false i_encoding_Reader_Number [(.t 34)], none⟩,
    ⟨some 36, .bin .eql (.t 35) (.c (.s (.int .i64 0))), none⟩,
    ⟨some 37, .cp (.t 36), none⟩,
    ⟨some 38, .cp (.t 6), some (37, true)⟩,
    ⟨some 39, .call false i_encoding_Reader_Bool [(.t 38)], some (37, true)⟩,
    ⟨some 40, .un .not (.t 39), some (37, true)⟩,
    ⟨some 41, .pick (.t 37) (.t 40) (.c (.s (.bool false))), none⟩,
    ⟨some 42, .cp (.t 41), none⟩,
    ⟨some 43, .cp (.t 6), some (42, true)⟩,
    ⟨some 44, .cp (.t 0), some (42, true)⟩,
    ⟨some 45, .call false i_encoding_Reader_Text [(.t 43), (.t 44)], some (42, true)⟩,
    ⟨some 46, .bin .eql (.t 45) (.c (.s (.string ⟨#[]⟩))), some (42, true)⟩,
    ⟨some 47, .pick (.t 42) (.t 46) (.c (.s (.bool false))), none⟩,
    ⟨some 48, .cp (.t 47), none⟩,
    ⟨some 49, .cp (.t 6), some (48, true)⟩,
    ⟨some 50, .cp (.t 0), some (48, true)⟩,
    ⟨some 51, .call false i_encoding_Reader_Count [(.t 49), (.t 50)], some (48, true)⟩,
    ⟨some 52, .bin .eql (.t 51) (.c (.s (.int .i64 0))), some (48, true)⟩,
    ⟨some 53, .pick (.t 48) (.t 52) (.c (.s (.bool false))), none⟩,
    ⟨some 54, .cp (.t 53), none⟩,
    ⟨some 55, .cp (.t 6), some (54, true)⟩,
    ⟨some 56, .call false i_encoding_Reader_Value [(.t 55)], some (54, true)⟩,
    ⟨some 57, .build false [.s (.int .i64 0), .s (.string ⟨#[]⟩), .s (.int .i64 0)] [], some (54, true)⟩,
    ⟨some 58, .eqv (.a [.i, .t, .i]) false (.t 56) (.t 57), some (54, true)⟩,
    ⟨some 59, .pick (.t 54) (.t 58) (.c (.s (.bool false))), none⟩,
    ⟨some 60, .cp (.t 59), none⟩,
    ⟨some 61, .cp (.t 6), some (60, true)⟩,
    ⟨some 62, .call false i_encoding_Reader_Attr [(.t 61)], some (60, true)⟩,
    ⟨some 63, .build false [.s (.string ⟨#[]⟩), .s (.int .i64 0), .s (.string ⟨#[]⟩), .s (.int .i64 0)] [], some (60, true)⟩,
    ⟨some 64, .eqv (.a [.t, .i, .t, .i]) false (.t 62) (.t 63), some (60, true)⟩,
    ⟨some 65, .pick (.t 60) (.t 64) (.c (.s (.bool false))), none⟩,
    ⟨some 66, .cp (.t 65), none⟩,
    ⟨some 67, .cp (.t 6), some (66, true)⟩,
    ⟨some 68, .call false i_encoding_Reader_Ref [(.t 67)], some (66, true)⟩,
    ⟨some 69, .build false [.s (.int .i64 0), .s (.int .i64 0)] [], some (66, true)⟩,
    ⟨some 70, .eqv (.a [.i, .i]) false (.t 68) (.t 69), some (66, true)⟩,
    ⟨some 71, .pick (.t 66) (.t 70) (.c (.s (.bool false))), none⟩,
    ⟨some 72, .cp (.t 71), none⟩,
    ⟨some 73, .cp (.t 6), some (72, true)⟩,
    ⟨some 74, .call false i_encoding_Reader_Exchange [(.t 73)], some (72, true)⟩,
    ⟨some 75, .build false [.s (.int .i64 0), .s (.int .i64 0), .s (.int .i64 0), .s (.int .i64 0), .s (.int .i64 0)] [], some (72, true)⟩,
    ⟨some 76, .eqv (.a [.i, .i, .i, .i, .i]) false (.t 74) (.t 75), some (72, true)⟩,
    ⟨some 77, .pick (.t 72) (.t 76) (.c (.s (.bool false))), none⟩,
    ⟨some 78, .cp (.t 77), none⟩,
    ⟨some 79, .cp (.t 6), some (78, true)⟩,
    ⟨some 80, .call false i_encoding_Reader_Message [(.t 79)], some (78, true)⟩,
    ⟨some 81, .build false [.s (.int .i64 0), .s (.int .i64 0), .s (.int .i64 0), .s (.int .i64 0), .s (.int .i64 0), .s (.int .i64 0), .s (.int .i64 0), .s (.int .i64 0), .s (.int .i64 0), .s (.int .i64 0)] [], some (78, true)⟩,
    ⟨some 82, .eqv (.a [.i, .i, .i, .i, .i, .i, .i, .i, .i, .i]) false (.t 80) (.t 81), some (78, true)⟩,
    ⟨some 83, .pick (.t 78) (.t 82) (.c (.s (.bool false))), none⟩,
    ⟨some 84, .cp (.t 83), none⟩,
    ⟨some 85, .cp (.t 6), some (84, true)⟩,
    ⟨some 86, .call false i_encoding_Reader_Left [(.t 85)], some (84, true)⟩,
    ⟨some 87, .bin .eql (.t 86) (.c (.s (.int .i64 0))), some (84, true)⟩,
    ⟨some 88, .pick (.t 84) (.t 87) (.c (.s (.bool false))), none⟩,
    ⟨some 7, .cp (.t 88), none⟩] (none))
  (.seq (.region [
    ⟨some 89, .cp (.t 7), none⟩,
    ⟨some 90, .cp (.t 89), none⟩,
    ⟨some 91, .cp (.t 6), some (90, true)⟩,
    ⟨some 92, .call false i_encoding_Reader_Span [(.t 91)], some (90, true)⟩,
    ⟨some 93, .call false i_sleuthref01_Span [(.t 92)], some (90, true)⟩,
    ⟨some 94, .build false [.s (.int .i64 0), .s (.int .i64 0), .s (.int .i64 0), .s (.int .i64 0), .s (.int .i64 0), .s (.int .i64 0), .s (.string ⟨#[]⟩), .s (.string ⟨#[]⟩), .s (.string ⟨#[]⟩), .s (.int .i64 0), .s (.int .i64 0), .s (.bool false), .s (.slice none 0 0), .s (.slice none 0 0)] [], some (90, true)⟩,
    ⟨some 95, .call false i_sleuthref01_Span [(.t 94)], some (90, true)⟩,
    ⟨some 96, .bin .eql (.t 93) (.t 95), some (90, true)⟩,
    ⟨some 97, .pick (.t 90) (.t 96) (.c (.s (.bool false))), none⟩,
    ⟨some 98, .cp (.t 97), none⟩,
    ⟨some 99, .cp (.t 5), some (98, true)⟩,
    ⟨some 100, .call false i_encoding_Writer_Bytes [(.t 99)], some (98, true)⟩,
    ⟨some 101, .bin .eql (.t 100) (.c (.s (.string ⟨#[]⟩))), some (98, true)⟩,
    ⟨some 102, .pick (.t 98) (.t 101) (.c (.s (.bool false))), none⟩,
    ⟨some 103, .cp (.t 102), none⟩,
    ⟨some 104, .cp (.t 5), some (103, true)⟩,
    ⟨some 105, .call false i_encoding_Writer_Len [(.t 104)], some (103, true)⟩,
    ⟨some 106, .bin .eql (.t 105) (.c (.s (.int .i64 0))), some (103, true)⟩,
    ⟨some 107, .pick (.t 103) (.t 106) (.c (.s (.bool false))), none⟩,
    ⟨some 108, .cp (.t 107), none⟩,
    ⟨some 109, .cp (.t 6), some (108, true)⟩,
    ⟨some 110, .call false i_encoding_Reader_Err [(.t 109)], some (108, true)⟩,
    ⟨some 111, .bin .eql (.t 110) (.c (.s (.int .i64 1))), some (108, true)⟩,
    ⟨some 112, .pick (.t 108) (.t 111) (.c (.s (.bool false))), none⟩,
    ⟨some 113, .cp (.t 112), none⟩,
    ⟨some 114, .cp (.t 6), some (113, true)⟩,
    ⟨some 115, .call false i_encoding_Reader_End [(.t 114)], some (113, true)⟩,
    ⟨some 116, .bin .eql (.t 115) (.c (.s (.int .i64 1))), some (113, true)⟩,
    ⟨some 117, .pick (.t 113) (.t 116) (.c (.s (.bool false))), none⟩,
    ⟨some 4, .cp (.t 117), none⟩] (none))
  .ret))))))))))) }

def x_sleuthlaw01_EncodingFragments : XF := { np := 3, results := [(.inl 6, .v)], body :=
  (.seq (.region [
    ⟨some 3, .box false (.t 0), none⟩,
    ⟨some 6, .cp (.c (.s (.bool false))), none⟩] (none))
  (.seq (.seq (.region [
    ⟨some 14, .call false i_sleuthlaw01_known [], none⟩,
    ⟨some 15, .un .not (.t 14), none⟩,
    ⟨some 16, .cp (.t 15), none⟩,
    ⟨some 17, .faddr (.t 3) 2, some (16, false)⟩,
    ⟨some 18, .load 1 false (.t 17), some (16, false)⟩,
    ⟨some 19, .call false i_sleuthlaw01_shortSpans [(.t 18)], some (16, false)⟩,
    ⟨some 20, .un .not (.t 19), some (16, false)⟩,
    ⟨some 21, .pick (.t 16) (.c (.s (.bool true))) (.t 20), none⟩,
    ⟨some 22, .cp (.t 21), none⟩,
    ⟨some 23, .faddr (.t 3) 3, some (22, false)⟩,
    ⟨some 24, .load 1 false (.t 23), some (22, false)⟩,
    ⟨some 25, .len false (.t 24), some (22, false)⟩,
    ⟨some 26, .bin .gtr (.t 25) (.c (.s (.int .i64 8))), some (22, false)⟩,
    ⟨some 27, .pick (.t 22) (.c (.s (.bool true))) (.t 26), none⟩] (none))
  (.cond (.t 27)
    (.seq (.region [
      ⟨some 28, .call false i_sleuthlaw01_known [], none⟩,
      ⟨some 6, .cp (.t 28), none⟩] (none))
    .ret)
    .skip))
  (.seq (.region [
    ⟨some 29, .cp (.t 1), none⟩,
    ⟨some 30, .cp (.t 2), none⟩,
    ⟨some 31, .faddr (.t 3) 2, none⟩,
    ⟨some 32, .load 1 false (.t 31), none⟩,
    ⟨some 33, .build false [.s (.int .i64 0), .s (.int .i64 0), .s (.slice none 0 0)] [(0, 1, (.t 29)), (1, 1, (.t 30)), (2, 1, (.t 32))], none⟩,
    ⟨some 7, .alloc [.s (.int .i64 0), .s (.int .i64 0), .s (.slice none 0 0)], none⟩,
    ⟨none, .store 3 (.t 7) (.t 33), none⟩] (none))
  (.seq (.region [
    ⟨some 34, .load 4 true (.t 3), none⟩,
    ⟨some 35, .call false i_encoding_EncodeFragment [(.t 34)], none⟩,
    ⟨some 36, .load 3 true (.t 7), none⟩,
    ⟨some 37, .call false i_encoding_EncodeTrace [(.t 36)], none⟩,
    ⟨some 8, .cp (.t 35), none⟩,
    ⟨some 9, .cp (.t 37), none⟩] (some [(1, some 2)]))
  (.seq (.region [
    ⟨some 39, .cp (.t 8), none⟩,
    ⟨some 40, .call false i_encoding_DecodeFragment [(.t 39)], none⟩,
    ⟨some 38, .cp (.t 40), none⟩,
    ⟨some 41, .extract (.t 38) 0, none⟩,
    ⟨some 42, .extract (.t 38) 1, none⟩,
    ⟨some 10, .alloc [.s (.int .i64 0), .s (.int .i64 0), .s (.slice none 0 0), .s (.slice none 0 0)], none⟩,
    ⟨none, .store 4 (.t 10) (.t 41), none⟩,
    ⟨some 11, .cp (.t 42), none⟩] (none))
  (.seq (.region [
    ⟨some 44, .cp (.t 9), none⟩,
    ⟨some 45, .call false i_encoding_DecodeTrace [(.t 44)], none⟩,
    ⟨some 43, .cp (.t 45), none⟩,
    ⟨some 46, .extract (.t 43) 0, none⟩,
    ⟨some 47, .extract (.t 43) 1, none⟩,
    ⟨some 12, .alloc [.s (.int .i64 0), .s (.int .i64 0), .s (.slice none 0 0)], none⟩,
    ⟨none, .store 3 (.t 12) (.t 46), none⟩,
    ⟨some 13, .cp (.t 47), none⟩] (none))
  (.seq (.region [
    ⟨some 48, .cp (.t 8), none⟩,
    ⟨some 49, .load 4 true (.t 3), none⟩,
    ⟨some 50, .call false i_sleuthref01_Fragment [(.t 49)], none⟩,
    ⟨some 51, .bin .eql (.t 48) (.t 50), none⟩,
    ⟨some 52, .cp (.t 51), none⟩,
    ⟨some 53, .cp (.t 9), some (52, true)⟩,
    ⟨some 54, .load 3 true (.t 7), some (52, true)⟩,
    ⟨some 55, .call false i_sleuthref01_Trace [(.t 54)], some (52, true)⟩,
    ⟨some 56, .bin .eql (.t 53) (.t 55), some (52, true)⟩,
    ⟨some 57, .pick (.t 52) (.t 56) (.c (.s (.bool false))), none⟩,
    ⟨some 58, .cp (.t 57), none⟩,
    ⟨some 59, .cp (.t 11), some (58, true)⟩,
    ⟨some 60, .bin .eql (.t 59) (.c (.s (.int .i64 0))), some (58, true)⟩,
    ⟨some 61, .pick (.t 58) (.t 60) (.c (.s (.bool false))), none⟩,
    ⟨some 62, .cp (.t 61), none⟩,
    ⟨some 63, .cp (.t 13), some (62, true)⟩,
    ⟨some 64, .bin .eql (.t 63) (.c (.s (.int .i64 0))), some (62, true)⟩,
    ⟨some 65, .pick (.t 62) (.t 64) (.c (.s (.bool false))), none⟩,
    ⟨some 66, .cp (.t 65), none⟩,
    ⟨some 67, .load 4 true (.t 10), some (66, true)⟩,
    ⟨some 68, .call false i_sleuthref01_Fragment [(.t 67)], some (66, true)⟩,
    ⟨some 69, .cp (.t 8), some (66, true)⟩,
    ⟨some 70, .bin .eql (.t 68) (.t 69), some (66, true)⟩,
    ⟨some 71, .pick (.t 66) (.t 70) (.c (.s (.bool false))), none⟩,
    ⟨some 72, .cp (.t 71), none⟩,
    ⟨some 73, .load 3 true (.t 12), some (72, true)⟩,
    ⟨some 74, .call false i_sleuthref01_Trace [(.t 73)], some (72, true)⟩,
    ⟨some 75, .cp (.t 9), some (72, true)⟩,
    ⟨some 76, .bin .eql (.t 74) (.t 75), some (72, true)⟩,
    ⟨some 77, .pick (.t 72) (.t 76) (.c (.s (.bool false))), none⟩,
    ⟨some 6, .cp (.t 77), none⟩] (none))
  .ret))))))) }

def x_encoding_Writer_Number_l0 : XC :=
  (.seq (.seq (.region [
    ⟨some 14, .cp (.t 6), none⟩,
    ⟨some 15, .bin .gtr (.t 14) (.c (.s (.int .u64 0))), none⟩] (none))
  (.cond (.t 15)
    .skip
    (.exit 0)))
  (.seq (.block 1
    (.region [
      ⟨some 18, .cp (.t 5), none⟩,
      ⟨some 19, .bin .add (.t 18) (.c (.s (.int .i64 1))), none⟩,
      ⟨some 5, .cp (.t 19), none⟩] (none)))
  (.region [
    ⟨some 16, .cp (.t 6), none⟩,
    ⟨some 17, .bin .shr (.t 16) (.c (.s (.int .u64 8))), none⟩,
    ⟨some 6, .cp (.t 17), none⟩] (none))))

def x_encoding_Writer_Number_l1 : XC :=
  (.seq (.seq (.region [
    ⟨some 48, .cp (.t 8), none⟩,
    ⟨some 49, .bin .geq (.t 48) (.c (.s (.int .i64 0))), none⟩] (none))
  (.cond (.t 49)
    .skip
    (.exit 2)))
  (.seq (.block 3
    (.region [
      ⟨some 52, .cp (.t 0), none⟩,
      ⟨some 53, .cp (.t 0), none⟩,
      ⟨some 54, .nilchk (.t 53), none⟩,
      ⟨some 55, .faddr (.t 54) 0, none⟩,
      ⟨some 56, .load 1 false (.t 55), none⟩,
      ⟨some 57, .cp (.t 4), none⟩,
      ⟨some 58, .cp (.t 8), none⟩,
      ⟨some 59, .bin .mul (.c (.s (.int .i64 8))) (.t 58), none⟩,
      ⟨some 60, .bin .shr (.t 57) (.t 59), none⟩,
      ⟨some 61, .conv .u8 (.t 60), none⟩,
      ⟨some 62, .cp (.t 7), none⟩,
      ⟨some 63, .bin .xor (.t 61) (.t 62), none⟩,
      ⟨some 64, .bslice false 1 [(.t 63)], none⟩,
      ⟨some 65, .append 1 140737488355328 (.t 56) (.t 64), none⟩,
      ⟨some 66, .nilchk (.t 52), none⟩,
      ⟨some 67, .faddr (.t 66) 0, none⟩,
      ⟨none, .store 1 (.t 67) (.t 65), none⟩] (some [])))
  (.region [
    ⟨some 50, .cp (.t 8), none⟩,
    ⟨some 51, .bin .sub (.t 50) (.c (.s (.int .i64 1))), none⟩,
    ⟨some 8, .cp (.t 51), none⟩] (none))))
def x_encoding_Writer_Number : XF := { np := 2, results := [], body :=
  (.seq (.seq (.region [
    ⟨some 9, .cp (.t 0), none⟩,
    ⟨some 10, .eqv .p false (.t 9) (.c (.s (.pointer none))), none⟩] (none))
  (.cond (.t 10)
    .ret
    .skip))
  (.seq (.region [
    ⟨some 11, .cp (.t 1), none⟩,
    ⟨some 12, .call false i_encoding_magnitude [(.t 11)], none⟩,
    ⟨some 4, .cp (.t 12), none⟩,
    ⟨some 5, .cp (.c (.s (.int .i64 0))), none⟩] (none))
  (.seq (.seq (.region [
    ⟨some 13, .cp (.t 4), none⟩,
    ⟨some 6, .cp (.t 13), none⟩] (none))
  (.block 0
    (.loop x_encoding_Writer_Number_l0)))
  (.seq (.region [
    ⟨some 7, .cp (.c (.s (.int .u8 0))), none⟩] (none))
  (.seq (.seq (.region [
    ⟨some 20, .cp (.t 1), none⟩,
    ⟨some 21, .bin .lss (.t 20) (.c (.s (.int .i64 0))), none⟩] (none))
  (.cond (.t 21)
    (.seq (.region [
      ⟨some 7, .cp (.c (.s (.int .u8 255))), none⟩] (none))
    (.region [
      ⟨some 22, .cp (.t 0), none⟩,
      ⟨some 23, .cp (.t 0), none⟩,
      ⟨some 24, .nilchk (.t 23), none⟩,
      ⟨some 25, .faddr (.t 24) 0, none⟩,
      ⟨some 26, .load 1 false (.t 25), none⟩,
      ⟨some 27, .cp (.t 5), none⟩,
      ⟨some 28, .bin .sub (.c (.s (.int .i64 128))) (.t 27), none⟩,
      ⟨some 29, .conv .u8 (.t 28), none⟩,
      ⟨some 30, .bslice false 1 [(.t 29)], none⟩,
      ⟨some 31, .append 1 140737488355328 (.t 26) (.t 30), none⟩,
      ⟨some 32, .nilchk (.t 22), none⟩,
      ⟨some 33, .faddr (.t 32) 0, none⟩,
      ⟨none, .store 1 (.t 33) (.t 31), none⟩] (none)))
    (.region [
      ⟨some 34, .cp (.t 0), none⟩,
      ⟨some 35, .cp (.t 0), none⟩,
      ⟨some 36, .nilchk (.t 35), none⟩,
      ⟨some 37, .faddr (.t 36) 0, none⟩,
      ⟨some 38, .load 1 false (.t 37), none⟩,
      ⟨some 39, .cp (.t 5), none⟩,
      ⟨some 40, .bin .add (.c (.s (.int .i64 128))) (.t 39), none⟩,
      ⟨some 41, .conv .u8 (.t 40), none⟩,
      ⟨some 42, .bslice false 1 [(.t 41)], none⟩,
      ⟨some 43, .append 1 140737488355328 (.t 38) (.t 42), none⟩,
      ⟨some 44, .nilchk (.t 34), none⟩,
      ⟨some 45, .faddr (.t 44) 0, none⟩,
      ⟨none, .store 1 (.t 45) (.t 43), none⟩] (none))))
  (.seq (.region [
    ⟨some 46, .cp (.t 5), none⟩,
    ⟨some 47, .bin .sub (.t 46) (.c (.s (.int .i64 1))), none⟩,
    ⟨some 8, .cp (.t 47), none⟩] (none))
  (.block 2
    (.loop x_encoding_Writer_Number_l1)))))))) }

def x_encoding_Writer_Bytes : XF := { np := 1, results := [(.inl 2, .v)], body :=
  (.seq (.region [
    ⟨some 2, .cp (.c (.s (.string ⟨#[]⟩))), none⟩] (none))
  (.seq (.seq (.region [
    ⟨some 3, .cp (.t 0), none⟩,
    ⟨some 4, .eqv .p false (.t 3) (.c (.s (.pointer none))), none⟩] (none))
  (.cond (.t 4)
    (.seq (.region [
      ⟨some 2, .cp (.c (.s (.string ⟨#[]⟩))), none⟩] (none))
    .ret)
    .skip))
  (.seq (.region [
    ⟨some 5, .cp (.t 0), none⟩,
    ⟨some 6, .nilchk (.t 5), none⟩,
    ⟨some 7, .faddr (.t 6) 0, none⟩,
    ⟨some 8, .load 1 false (.t 7), none⟩,
    ⟨some 9, .toStr (.t 8), none⟩,
    ⟨some 2, .cp (.t 9), none⟩] (none))
  .ret))) }

def x_sleuthlaw01_known : XF := { np := 0, results := [(.inl 0, .v)], body :=
  (.seq (.region [
    ⟨some 0, .cp (.c (.s (.bool false))), none⟩] (none))
  (.seq (.region [
    ⟨some 1, .alloc [.s (.slice none 0 0)], none⟩] (none))
  (.seq (.region [
    ⟨some 5, .call false i_encoding_Writer_Number [(.t 1), (.c (.s (.int .i64 300)))], none⟩] (none))
  (.seq (.region [
    ⟨some 6, .call false i_encoding_Writer_Number [(.t 1), (.c (.s (.int .i64 (-300))))], none⟩] (none))
  (.seq (.region [
    ⟨some 7, .build false [.s (.int .i64 0), .s (.string ⟨#[]⟩), .s (.int .i64 0)] [(0, 1, (.c (.s (.int .i64 3)))), (2, 1, (.c (.s (.int .i64 1))))], none⟩,
    ⟨some 8, .build false [.s (.string ⟨#[]⟩), .s (.int .i64 0), .s (.string ⟨#[]⟩), .s (.int .i64 0)] [(0, 1, (.c (.s (.string ⟨#[97]⟩)))), (1, 3, (.t 7))], none⟩,
    ⟨some 9, .call false i_encoding_Writer_Attr [(.t 1), (.t 8)], none⟩] (none))
  (.seq (.region [
    ⟨some 10, .call false i_encoding_NewReader [(.c (.s (.string ⟨#[129, 7, 128, 129, 0]⟩)))], none⟩,
    ⟨some 2, .cp (.t 10), none⟩] (none))
  (.seq (.region [
    ⟨some 11, .cp (.t 2), none⟩,
    ⟨some 12, .call false i_encoding_Reader_Ref [(.t 11)], none⟩,
    ⟨some 3, .alloc [.s (.int .i64 0), .s (.int .i64 0)], none⟩,
    ⟨none, .store 2 (.t 3) (.t 12), none⟩] (none))
  (.seq (.region [
    ⟨some 13, .cp (.t 2), none⟩,
    ⟨some 14, .call false i_encoding_Reader_Number [(.t 13)], none⟩,
    ⟨some 4, .cp (.t 14), none⟩] (none))
  (.seq (.region [
    ⟨some 15, .call false i_encoding_Writer_Bytes [(.t 1)], none⟩,
    ⟨some 16, .bin .eql (.t 15) (.c (.s (.string ⟨#[130, 1, 44, 126, 254, 211, 129, 1, 97, 129, 3, 128, 129, 1]⟩))), none⟩,
    ⟨some 17, .cp (.t 16), none⟩,
    ⟨some 18, .load 2 true (.t 3), some (17, true)⟩,
    ⟨some 19, .build false [.s (.int .i64 0), .s (.int .i64 0)] [(0, 1, (.c (.s (.int .i64 7))))], some (17, true)⟩,
    ⟨some 20, .eqv (.a [.i, .i]) false (.t 18) (.t 19), some (17, true)⟩,
    ⟨some 21, .pick (.t 17) (.t 20) (.c (.s (.bool false))), none⟩,
    ⟨some 22, .cp (.t 21), none⟩,
    ⟨some 23, .cp (.t 4), some (22, true)⟩,
    ⟨some 24, .bin .eql (.t 23) (.c (.s (.int .i64 0))), some (22, true)⟩,
    ⟨some 25, .pick (.t 22) (.t 24) (.c (.s (.bool false))), none⟩,
    ⟨some 26, .cp (.t 25), none⟩,
    ⟨some 27, .cp (.t 2), some (26, true)⟩,
    ⟨some 28, .call false i_encoding_Reader_Err [(.t 27)], some (26, true)⟩,
    ⟨some 29, .bin .eql (.t 28) (.c (.s (.int .i64 3))), some (26, true)⟩,
    ⟨some 30, .pick (.t 26) (.t 29) (.c (.s (.bool false))), none⟩,
    ⟨some 31, .cp (.t 30), none⟩,
    ⟨some 32, .cp (.t 2), some (31, true)⟩,
    ⟨some 33, .call false i_encoding_Reader_Left [(.t 32)], some (31, true)⟩,
    ⟨some 34, .bin .eql (.t 33) (.c (.s (.int .i64 2))), some (31, true)⟩,
    ⟨some 35, .pick (.t 31) (.t 34) (.c (.s (.bool false))), none⟩,
    ⟨some 0, .cp (.t 35), none⟩] (none))
  .ret))))))))) }

def x_encoding_NewReader : XF := { np := 1, results := [(.inl 2, .o)], body :=
  (.seq (.region [
    ⟨some 2, .cp (.c (.s (.pointer none))), none⟩] (none))
  (.seq (.region [
    ⟨some 3, .cp (.t 0), none⟩,
    ⟨some 4, .build false [.s (.string ⟨#[]⟩), .s (.int .i64 0), .s (.int .i64 0)] [(0, 1, (.t 3))], none⟩,
    ⟨some 5, .box false (.t 4), none⟩,
    ⟨some 2, .cp (.t 5), none⟩] (none))
  .ret)) }

def x_sleuthref01_Number_l0 : XC :=
  (.seq (.seq (.region [
    ⟨some 11, .cp (.t 4), none⟩,
    ⟨some 12, .bin .gtr (.t 11) (.c (.s (.int .u64 0))), none⟩] (none))
  (.cond (.t 12)
    .skip
    (.exit 0)))
  (.seq (.block 1
    (.region [
      ⟨some 15, .cp (.t 3), none⟩,
      ⟨some 16, .cp (.t 4), none⟩,
      ⟨some 17, .bin .rem (.t 16) (.c (.s (.int .u64 256))), none⟩,
      ⟨some 18, .conv .u8 (.t 17), none⟩,
      ⟨some 19, .bslice false 1 [(.t 18)], none⟩,
      ⟨some 20, .append 1 140737488355328 (.t 15) (.t 19), none⟩,
      ⟨some 3, .cp (.t 20), none⟩] (none)))
  (.region [
    ⟨some 13, .cp (.t 4), none⟩,
    ⟨some 14, .bin .quo (.t 13) (.c (.s (.int .u64 256))), none⟩,
    ⟨some 4, .cp (.t 14), none⟩] (none))))

def x_sleuthref01_Number_l1 : XC :=
  (.seq (.seq (.region [
    ⟨some 35, .cp (.t 7), none⟩,
    ⟨some 36, .bin .geq (.t 35) (.c (.s (.int .i64 0))), none⟩] (none))
  (.cond (.t 36)
    .skip
    (.exit 2)))
  (.seq (.block 3
    (.seq (.region [
      ⟨some 39, .cp (.t 3), none⟩,
      ⟨some 40, .cp (.t 7), none⟩,
      ⟨some 41, .iaddr 1 (.t 39) (.t 40), none⟩,
      ⟨some 42, .load 1 false (.t 41), none⟩,
      ⟨some 8, .cp (.t 42), none⟩] (none))
    (.seq (.seq (.region [
      ⟨some 43, .cp (.t 0), none⟩,
      ⟨some 44, .bin .lss (.t 43) (.c (.s (.int .i64 0))), none⟩] (none))
    (.cond (.t 44)
      (.region [
        ⟨some 45, .cp (.t 8), none⟩,
        ⟨some 46, .bin .sub (.c (.s (.int .u8 255))) (.t 45), none⟩,
        ⟨some 8, .cp (.t 46), none⟩] (none))
      .skip))
    (.region [
      ⟨some 47, .cp (.t 6), none⟩,
      ⟨some 48, .cp (.t 8), none⟩,
      ⟨some 49, .bslice false 1 [(.t 48)], none⟩,
      ⟨some 50, .append 1 140737488355328 (.t 47) (.t 49), none⟩,
      ⟨some 6, .cp (.t 50), none⟩] (none)))))
  (.region [
    ⟨some 37, .cp (.t 7), none⟩,
    ⟨some 38, .bin .sub (.t 37) (.c (.s (.int .i64 1))), none⟩,
    ⟨some 7, .cp (.t 38), none⟩] (none))))
def x_sleuthref01_Number : XF := { np := 1, results := [(.inl 2, .v)], body :=
  (.seq (.region [
    ⟨some 2, .cp (.c (.s (.string ⟨#[]⟩))), none⟩] (none))
  (.seq (.region [
    ⟨some 3, .cp (.c (.s (.slice none 0 0))), none⟩] (none))
  (.seq (.seq (.region [
    ⟨some 9, .cp (.t 0), none⟩,
    ⟨some 10, .call false i_sleuthref01_magnitude [(.t 9)], none⟩,
    ⟨some 4, .cp (.t 10), none⟩] (none))
  (.block 0
    (.loop x_sleuthref01_Number_l0)))
  (.seq (.region [
    ⟨some 21, .cp (.t 3), none⟩,
    ⟨some 22, .len false (.t 21), none⟩,
    ⟨some 23, .bin .add (.c (.s (.int .i64 128))) (.t 22), none⟩,
    ⟨some 5, .cp (.t 23), none⟩] (none))
  (.seq (.seq (.region [
    ⟨some 24, .cp (.t 0), none⟩,
    ⟨some 25, .bin .lss (.t 24) (.c (.s (.int .i64 0))), none⟩] (none))
  (.cond (.t 25)
    (.region [
      ⟨some 26, .cp (.t 3), none⟩,
      ⟨some 27, .len false (.t 26), none⟩,
      ⟨some 28, .bin .sub (.c (.s (.int .i64 128))) (.t 27), none⟩,
      ⟨some 5, .cp (.t 28), none⟩] (none))
    .skip))
  (.seq (.region [
    ⟨some 29, .cp (.t 5), none⟩,
    ⟨some 30, .conv .u8 (.t 29), none⟩,
    ⟨some 31, .bslice true 1 [(.t 30)], none⟩,
    ⟨some 6, .cp (.t 31), none⟩] (none))
  (.seq (.seq (.region [
    ⟨some 32, .cp (.t 3), none⟩,
    ⟨some 33, .len false (.t 32), none⟩,
    ⟨some 34, .bin .sub (.t 33) (.c (.s (.int .i64 1))), none⟩,
    ⟨some 7, .cp (.t 34), none⟩] (none))
  (.block 2
    (.loop x_sleuthref01_Number_l1)))
  (.seq (.region [
    ⟨some 51, .cp (.t 6), none⟩,
    ⟨some 52, .toStr (.t 51), none⟩,
    ⟨some 2, .cp (.t 52), none⟩] (none))
  .ret)))))))) }

def x_encoding_Writer_Len : XF := { np := 1, results := [(.inl 2, .v)], body :=
  (.seq (.region [
    ⟨some 2, .cp (.c (.s (.int .i64 0))), none⟩] (none))
  (.seq (.seq (.region [
    ⟨some 3, .cp (.t 0), none⟩,
    ⟨some 4, .eqv .p false (.t 3) (.c (.s (.pointer none))), none⟩] (none))
  (.cond (.t 4)
    (.seq (.region [
      ⟨some 2, .cp (.c (.s (.int .i64 0))), none⟩] (none))
    .ret)
    .skip))
  (.seq (.region [
    ⟨some 5, .cp (.t 0), none⟩,
    ⟨some 6, .nilchk (.t 5), none⟩,
    ⟨some 7, .faddr (.t 6) 0, none⟩,
    ⟨some 8, .load 1 false (.t 7), none⟩,
    ⟨some 9, .len false (.t 8), none⟩,
    ⟨some 2, .cp (.t 9), none⟩] (none))
  .ret))) }

def x_encoding_Reader_Number : XF := { np := 1, results := [(.inl 2, .v)], body :=
  (.seq (.region [
    ⟨some 2, .cp (.c (.s (.int .i64 0))), none⟩] (none))
  (.seq (.seq (.region [
    ⟨some 6, .cp (.t 0), none⟩,
    ⟨some 7, .call false i_encoding_Reader_ok [(.t 6)], none⟩,
    ⟨some 8, .un .not (.t 7), none⟩] (none))
  (.cond (.t 8)
    (.seq (.region [
      ⟨some 2, .cp (.c (.s (.int .i64 0))), none⟩] (none))
    .ret)
    .skip))
  (.seq (.region [
    ⟨some 10, .cp (.t 0), none⟩,
    ⟨some 11, .cp (.t 0), none⟩,
    ⟨some 12, .nilchk (.t 11), none⟩,
    ⟨some 13, .faddr (.t 12) 1, none⟩,
    ⟨some 14, .load 1 false (.t 13), none⟩,
    ⟨some 15, .call false i_encoding_Reader_number [(.t 10), (.t 14)], none⟩,
    ⟨some 9, .cp (.t 15), none⟩,
    ⟨some 16, .extract (.t 9) 0, none⟩,
    ⟨some 17, .extract (.t 9) 1, none⟩,
    ⟨some 18, .extract (.t 9) 2, none⟩,
    ⟨some 3, .cp (.t 16), none⟩,
    ⟨some 4, .cp (.t 17), none⟩,
    ⟨some 5, .cp (.t 18), none⟩] (none))
  (.seq (.seq (.region [
    ⟨some 19, .cp (.t 5), none⟩,
    ⟨some 20, .bin .neq (.t 19) (.c (.s (.int .i64 0))), none⟩] (none))
  (.cond (.t 20)
    (.seq (.region [
      ⟨some 21, .cp (.t 0), none⟩,
      ⟨some 22, .cp (.t 5), none⟩,
      ⟨some 23, .call false i_encoding_Reader_fail [(.t 21), (.t 22)], none⟩] (none))
    (.seq (.region [
      ⟨some 2, .cp (.c (.s (.int .i64 0))), none⟩] (none))
    .ret))
    .skip))
  (.seq (.region [
    ⟨some 24, .cp (.t 0), none⟩,
    ⟨some 25, .cp (.t 4), none⟩,
    ⟨some 26, .nilchk (.t 24), none⟩,
    ⟨some 27, .faddr (.t 26) 1, none⟩,
    ⟨none, .store 1 (.t 27) (.t 25), none⟩] (none))
  (.seq (.region [
    ⟨some 28, .cp (.t 3), none⟩,
    ⟨some 2, .cp (.t 28), none⟩] (none))
  .ret)))))) }

def x_encoding_Reader_End : XF := { np := 1, results := [(.inl 2, .v)], body :=
  (.seq (.region [
    ⟨some 2, .cp (.c (.s (.int .i64 0))), none⟩] (none))
  (.seq (.block 0
    (.seq (.region [
      ⟨some 4, .cp (.t 0), none⟩,
      ⟨some 5, .eqv .p false (.t 4) (.c (.s (.pointer none))), none⟩,
      ⟨some 3, .cp (.t 5), none⟩] (none))
    (.cond (.t 3)
      (.seq (.region [
        ⟨some 2, .cp (.c (.s (.int .i64 1))), none⟩] (none))
      .ret)
      (.seq (.region [
        ⟨some 7, .cp (.t 0), none⟩,
        ⟨some 8, .nilchk (.t 7), none⟩,
        ⟨some 9, .faddr (.t 8) 2, none⟩,
        ⟨some 10, .load 1 false (.t 9), none⟩,
        ⟨some 11, .bin .neq (.t 10) (.c (.s (.int .i64 0))), none⟩,
        ⟨some 6, .cp (.t 11), none⟩] (none))
      (.cond (.t 6)
        (.seq (.region [
          ⟨some 12, .cp (.t 0), none⟩,
          ⟨some 13, .nilchk (.t 12), none⟩,
          ⟨some 14, .faddr (.t 13) 2, none⟩,
          ⟨some 15, .load 1 false (.t 14), none⟩,
          ⟨some 2, .cp (.t 15), none⟩] (none))
        .ret)
        (.seq (.region [
          ⟨some 17, .cp (.t 0), none⟩,
          ⟨some 18, .nilchk (.t 17), none⟩,
          ⟨some 19, .faddr (.t 18) 1, none⟩,
          ⟨some 20, .load 1 false (.t 19), none⟩,
          ⟨some 21, .cp (.t 0), none⟩,
          ⟨some 22, .nilchk (.t 21), none⟩,
          ⟨some 23, .faddr (.t 22) 0, none⟩,
          ⟨some 24, .load 1 false (.t 23), none⟩,
          ⟨some 25, .len true (.t 24), none⟩,
          ⟨some 26, .bin .lss (.t 20) (.t 25), none⟩,
          ⟨some 16, .cp (.t 26), none⟩] (some []))
        (.cond (.t 16)
          (.seq (.region [
            ⟨some 2, .cp (.c (.s (.int .i64 3))), none⟩] (none))
          .ret)
          .skip)))))))
  (.seq (.region [
    ⟨some 2, .cp (.c (.s (.int .i64 0))), none⟩] (none))
  .ret))) }

def x_encoding_Reader_Left : XF := { np := 1, results := [(.inl 2, .v)], body :=
  (.seq (.region [
    ⟨some 2, .cp (.c (.s (.int .i64 0))), none⟩] (none))
  (.seq (.seq (.region [
    ⟨some 3, .cp (.t 0), none⟩,
    ⟨some 4, .eqv .p false (.t 3) (.c (.s (.pointer none))), none⟩] (none))
  (.cond (.t 4)
    (.seq (.region [
      ⟨some 2, .cp (.c (.s (.int .i64 0))), none⟩] (none))
    .ret)
    .skip))
  (.seq (.region [
    ⟨some 5, .cp (.t 0), none⟩,
    ⟨some 6, .nilchk (.t 5), none⟩,
    ⟨some 7, .faddr (.t 6) 0, none⟩,
    ⟨some 8, .load 1 false (.t 7), none⟩,
    ⟨some 9, .len true (.t 8), none⟩,
    ⟨some 10, .cp (.t 0), none⟩,
    ⟨some 11, .nilchk (.t 10), none⟩,
    ⟨some 12, .faddr (.t 11) 1, none⟩,
    ⟨some 13, .load 1 false (.t 12), none⟩,
    ⟨some 14, .bin .sub (.t 9) (.t 13), none⟩,
    ⟨some 2, .cp (.t 14), none⟩] (some []))
  .ret))) }

def x_sleuthlaw01_part : XF := { np := 2, results := [(.inl 4, .v)], body :=
  (.seq (.region [
    ⟨some 3, .box false (.t 1), none⟩,
    ⟨some 4, .cp (.c (.s (.string ⟨#[]⟩))), none⟩] (none))
  (.seq (.region [
    ⟨some 11, .faddr (.t 3) 1, none⟩,
    ⟨some 12, .iaddrA 8 1 (.t 11) (.c (.s (.int .i64 0))), none⟩,
    ⟨some 13, .load 1 false (.t 12), none⟩,
    ⟨some 14, .faddr (.t 3) 10, none⟩,
    ⟨some 15, .load 1 false (.t 14), none⟩,
    ⟨some 16, .faddr (.t 3) 1, none⟩,
    ⟨some 17, .iaddrA 8 1 (.t 16) (.c (.s (.int .i64 1))), none⟩,
    ⟨some 18, .load 1 false (.t 17), none⟩,
    ⟨some 19, .build false [.s (.int .i64 0), .s (.string ⟨#[]⟩), .s (.int .i64 0)] [(0, 1, (.t 13)), (1, 1, (.t 15)), (2, 1, (.t 18))], none⟩,
    ⟨some 5, .alloc [.s (.int .i64 0), .s (.string ⟨#[]⟩), .s (.int .i64 0)], none⟩,
    ⟨none, .store 3 (.t 5) (.t 19), none⟩] (none))
  (.seq (.region [
    ⟨some 20, .faddr (.t 3) 9, none⟩,
    ⟨some 21, .load 1 false (.t 20), none⟩,
    ⟨some 22, .load 3 true (.t 5), none⟩,
    ⟨some 23, .build false [.s (.string ⟨#[]⟩), .s (.int .i64 0), .s (.string ⟨#[]⟩), .s (.int .i64 0)] [(0, 1, (.t 21)), (1, 3, (.t 22))], none⟩,
    ⟨some 6, .alloc [.s (.string ⟨#[]⟩), .s (.int .i64 0), .s (.string ⟨#[]⟩), .s (.int .i64 0)], none⟩,
    ⟨none, .store 4 (.t 6) (.t 23), none⟩] (none))
  (.seq (.region [
    ⟨some 24, .faddr (.t 3) 1, none⟩,
    ⟨some 25, .iaddrA 8 1 (.t 24) (.c (.s (.int .i64 0))), none⟩,
    ⟨some 26, .load 1 false (.t 25), none⟩,
    ⟨some 27, .faddr (.t 3) 1, none⟩,
    ⟨some 28, .iaddrA 8 1 (.t 27) (.c (.s (.int .i64 1))), none⟩,
    ⟨some 29, .load 1 false (.t 28), none⟩,
    ⟨some 30, .build false [.s (.int .i64 0), .s (.int .i64 0)] [(0, 1, (.t 26)), (1, 1, (.t 29))], none⟩,
    ⟨some 7, .alloc [.s (.int .i64 0), .s (.int .i64 0)], none⟩,
    ⟨none, .store 2 (.t 7) (.t 30), none⟩] (none))
  (.seq (.region [
    ⟨some 31, .faddr (.t 3) 1, none⟩,
    ⟨some 32, .iaddrA 8 1 (.t 31) (.c (.s (.int .i64 0))), none⟩,
    ⟨some 33, .load 1 false (.t 32), none⟩,
    ⟨some 34, .faddr (.t 3) 1, none⟩,
    ⟨some 35, .iaddrA 8 1 (.t 34) (.c (.s (.int .i64 1))), none⟩,
    ⟨some 36, .load 1 false (.t 35), none⟩,
    ⟨some 37, .faddr (.t 3) 1, none⟩,
    ⟨some 38, .iaddrA 8 1 (.t 37) (.c (.s (.int .i64 2))), none⟩,
    ⟨some 39, .load 1 false (.t 38), none⟩,
    ⟨some 40, .faddr (.t 3) 1, none⟩,
    ⟨some 41, .iaddrA 8 1 (.t 40) (.c (.s (.int .i64 3))), none⟩,
    ⟨some 42, .load 1 false (.t 41), none⟩,
    ⟨some 43, .faddr (.t 3) 1, none⟩,
    ⟨some 44, .iaddrA 8 1 (.t 43) (.c (.s (.int .i64 4))), none⟩,
    ⟨some 45, .load 1 false (.t 44), none⟩,
    ⟨some 46, .build false [.s (.int .i64 0), .s (.int .i64 0), .s (.int .i64 0), .s (.int .i64 0), .s (.int .i64 0)] [(0, 1, (.t 33)), (1, 1, (.t 36)), (2, 1, (.t 39)), (3, 1, (.t 42)), (4, 1, (.t 45))], none⟩,
    ⟨some 8, .alloc [.s (.int .i64 0), .s (.int .i64 0), .s (.int .i64 0), .s (.int .i64 0), .s (.int .i64 0)], none⟩,
    ⟨none, .store 5 (.t 8) (.t 46), none⟩] (none))
  (.seq (.region [
    ⟨some 47, .faddr (.t 3) 1, none⟩,
    ⟨some 48, .iaddrA 8 1 (.t 47) (.c (.s (.int .i64 0))), none⟩,
    ⟨some 49, .load 1 false (.t 48), none⟩,
    ⟨some 50, .load 2 true (.t 7), none⟩,
    ⟨some 51, .faddr (.t 3) 1, none⟩,
    ⟨some 52, .iaddrA 8 1 (.t 51) (.c (.s (.int .i64 2))), none⟩,
    ⟨some 53, .load 1 false (.t 52), none⟩,
    ⟨some 54, .faddr (.t 3) 1, none⟩,
    ⟨some 55, .iaddrA 8 1 (.t 54) (.c (.s (.int .i64 3))), none⟩,
    ⟨some 56, .load 1 false (.t 55), none⟩,
    ⟨some 57, .build false [.s (.int .i64 0), .s (.int .i64 0)] [(0, 1, (.t 53)), (1, 1, (.t 56))], none⟩,
    ⟨some 58, .faddr (.t 3) 1, none⟩,
    ⟨some 59, .iaddrA 8 1 (.t 58) (.c (.s (.int .i64 4))), none⟩,
    ⟨some 60, .load 1 false (.t 59), none⟩,
    ⟨some 61, .faddr (.t 3) 1, none⟩,
    ⟨some 62, .iaddrA 8 1 (.t 61) (.c (.s (.int .i64 5))), none⟩,
    ⟨some 63, .load 1 false (.t 62), none⟩,
    ⟨some 64, .faddr (.t 3) 1, none⟩,
    ⟨some 65, .iaddrA 8 1 (.t 64) (.c (.s (.int .i64 6))), none⟩,
    ⟨some 66, .load 1 false (.t 65), none⟩,
    ⟨some 67, .faddr (.t 3) 1, none⟩,
    ⟨some 68, .iaddrA 8 1 (.t 67) (.c (.s (.int .i64 7))), none⟩,
    ⟨some 69, .load 1 false (.t 68), none⟩,
    ⟨some 70, .faddr (.t 3) 1, none⟩,
    ⟨some 71, .iaddrA 8 1 (.t 70) (.c (.s (.int .i64 1))), none⟩,
    ⟨some 72, .load 1 false (.t 71), none⟩,
    ⟨some 73, .build false [.s (.int .i64 0), .s (.int .i64 0), .s (.int .i64 0), .s (.int .i64 0), .s (.int .i64 0), .s (.int .i64 0), .s (.int .i64 0), .s (.int .i64 0), .s (.int .i64 0), .s (.int .i64 0)] [(0, 1, (.t 49)), (1, 2, (.t 50)), (3, 2, (.t 57)), (5, 1, (.t 60)), (6, 1, (.t 63)), (7, 1, (.t 66)), (8, 1, (.t 69)), (9, 1, (.t 72))], none⟩,
    ⟨some 9, .alloc [.s (.int .i64 0), .s (.int .i64 0), .s (.int .i64 0), .s (.int .i64 0), .s (.int .i64 0), .s (.int .i64 0), .s (.int .i64 0), .s (.int .i64 0), .s (.int .i64 0), .s (.int .i64 0)], none⟩,
    ⟨none, .store 10 (.t 9) (.t 73), none⟩] (none))
  (.seq (.region [
    ⟨some 74, .faddr (.t 3) 1, none⟩,
    ⟨some 75, .iaddrA 8 1 (.t 74) (.c (.s (.int .i64 0))), none⟩,
    ⟨some 76, .load 1 false (.t 75), none⟩,
    ⟨some 77, .faddr (.t 3) 1, none⟩,
    ⟨some 78, .iaddrA 8 1 (.t 77) (.c (.s (.int .i64 1))), none⟩,
    ⟨some 79, .load 1 false (.t 78), none⟩,
    ⟨some 80, .faddr (.t 3) 1, none⟩,
    ⟨some 81, .iaddrA 8 1 (.t 80) (.c (.s (.int .i64 2))), none⟩,
    ⟨some 82, .load 1 false (.t 81), none⟩,
    ⟨some 83, .faddr (.t 3) 1, none⟩,
    ⟨some 84, .iaddrA 8 1 (.t 83) (.c (.s (.int .i64 3))), none⟩,
    ⟨some 85, .load 1 false (.t 84), none⟩,
    ⟨some 86, .faddr (.t 3) 1, none⟩,
    ⟨some 87, .iaddrA 8 1 (.t 86) (.c (.s (.int .i64 4))), none⟩,
    ⟨some 88, .load 1 false (.t 87), none⟩,
    ⟨some 89, .faddr (.t 3) 1, none⟩,
    ⟨some 90, .iaddrA 8 1 (.t 89) (.c (.s (.int .i64 5))), none⟩,
    ⟨some 91, .load 1 false (.t 90), none⟩,
    ⟨some 92, .faddr (.t 3) 9, none⟩,
    ⟨some 93, .load 1 false (.t 92), none⟩,
    ⟨some 94, .faddr (.t 3) 10, none⟩,
    ⟨some 95, .load 1 false (.t 94), none⟩,
    ⟨some 96, .faddr (.t 3) 9, none⟩,
    ⟨some 97, .load 1 false (.t 96), none⟩,
    ⟨some 98, .faddr (.t 3) 1, none⟩,
    ⟨some 99, .iaddrA 8 1 (.t 98) (.c (.s (.int .i64 6))), none⟩,
    ⟨some 100, .load 1 false (.t 99), none⟩,
    ⟨some 101, .faddr (.t 3) 1, none⟩,
    ⟨some 102, .iaddrA 8 1 (.t 101) (.c (.s (.int .i64 7))), none⟩,
    ⟨some 103, .load 1 false (.t 102), none⟩,
    ⟨some 104, .faddr (.t 3) 1, none⟩,
    ⟨some 105, .iaddrA 8 1 (.t 104) (.c (.s (.int .i64 0))), none⟩,
    ⟨some 106, .load 1 false (.t 105), none⟩,
    ⟨some 107, .bin .gtr (.t 106) (.c (.s (.int .i64 0))), none⟩,
    ⟨some 108, .load 4 true (.t 6), none⟩,
    ⟨some 109, .bslice false 4 [(.t 108)], none⟩,
    ⟨some 110, .load 2 true (.t 7), none⟩,
    ⟨some 111, .load 2 true (.t 7), none⟩,
    ⟨some 112, .bslice false 2 [(.t 110), (.t 111)], none⟩,
    ⟨some 113, .build false [.s (.int .i64 0), .s (.int .i64 0), .s (.int .i64 0), .s (.int .i64 0), .s (.int .i64 0), .s (.int .i64 0), .s (.string ⟨#[]⟩), .s (.string ⟨#[]⟩), .s (.string ⟨#[]⟩), .s (.int .i64 0), .s (.int .i64 0), .s (.bool false), .s (.slice none 0 0), .s (.slice none 0 0)] [(0, 1, (.t 76)), (1, 1, (.t 79)), (2, 1, (.t 82)), (3, 1, (.t 85)), (4, 1, (.t 88)), (5, 1, (.t 91)), (6, 1, (.t 93)), (7, 1, (.t 95)), (8, 1, (.t 97)), (9, 1, (.t 100)), (10, 1, (.t 103)), (11, 1, (.t 107)), (12, 1, (.t 109)), (13, 1, (.t 112))], none⟩,
    ⟨some 10, .alloc [.s (.int .i64 0), .s (.int .i64 0), .s (.int .i64 0), .s (.int .i64 0), .s (.int .i64 0), .s (.int .i64 0), .s (.string ⟨#[]⟩), .s (.string ⟨#[]⟩), .s (.string ⟨#[]⟩), .s (.int .i64 0), .s (.int .i64 0), .s (.bool false), .s (.slice none 0 0), .s (.slice none 0 0)], none⟩,
    ⟨none, .store 14 (.t 10) (.t 113), none⟩] (none))
  (.seq (.seq (.region [
    ⟨some 114, .faddr (.t 3) 0, none⟩,
    ⟨some 115, .load 1 false (.t 114), none⟩,
    ⟨some 116, .bin .rem (.t 115) (.c (.s (.int .u8 9))), none⟩] (none))
  (.block 0
    (.seq (.region [
      ⟨some 118, .bin .eql (.t 116) (.c (.s (.int .u8 0))), none⟩,
      ⟨some 117, .cp (.t 118), none⟩] (none))
    (.cond (.t 117)
      (.seq (.region [
        ⟨some 119, .cp (.t 0), none⟩,
        ⟨some 120, .faddr (.t 3) 1, none⟩,
        ⟨some 121, .iaddrA 8 1 (.t 120) (.c (.s (.int .i64 0))), none⟩,
        ⟨some 122, .load 1 false (.t 121), none⟩,
        ⟨some 123, .call false i_encoding_Writer_Number [(.t 119), (.t 122)], none⟩] (none))
      (.seq (.region [
        ⟨some 124, .faddr (.t 3) 1, none⟩,
        ⟨some 125, .iaddrA 8 1 (.t 124) (.c (.s (.int .i64 0))), none⟩,
        ⟨some 126, .load 1 false (.t 125), none⟩,
        ⟨some 127, .call false i_sleuthref01_Number [(.t 126)], none⟩,
        ⟨some 4, .cp (.t 127), none⟩] (none))
      .ret))
      (.seq (.region [
        ⟨some 129, .bin .eql (.t 116) (.c (.s (.int .u8 1))), none⟩,
        ⟨some 128, .cp (.t 129), none⟩] (none))
      (.cond (.t 128)
        (.seq (.region [
          ⟨some 130, .cp (.t 0), none⟩,
          ⟨some 131, .faddr (.t 3) 1, none⟩,
          ⟨some 132, .iaddrA 8 1 (.t 131) (.c (.s (.int .i64 0))), none⟩,
          ⟨some 133, .load 1 false (.t 132), none⟩,
          ⟨some 134, .bin .gtr (.t 133) (.c (.s (.int .i64 0))), none⟩,
          ⟨some 135, .call false i_encoding_Writer_Bool [(.t 130), (.t 134)], none⟩] (none))
        (.seq (.region [
          ⟨some 136, .faddr (.t 3) 1, none⟩,
          ⟨some 137, .iaddrA 8 1 (.t 136) (.c (.s (.int .i64 0))), none⟩,
          ⟨some 138, .load 1 false (.t 137), none⟩,
          ⟨some 139, .bin .gtr (.t 138) (.c (.s (.int .i64 0))), none⟩,
          ⟨some 140, .call false i_sleuthref01_Bool [(.t 139)], none⟩,
          ⟨some 4, .cp (.t 140), none⟩] (none))
        .ret))
        (.seq (.region [
          ⟨some 142, .bin .eql (.t 116) (.c (.s (.int .u8 2))), none⟩,
          ⟨some 141, .cp (.t 142), none⟩] (none))
        (.cond (.t 141)
          (.seq (.region [
            ⟨some 143, .cp (.t 0), none⟩,
            ⟨some 144, .faddr (.t 3) 10, none⟩,
            ⟨some 145, .load 1 false (.t 144), none⟩,
            ⟨some 146, .call false i_encoding_Writer_Text [(.t 143), (.t 145)], none⟩] (none))
          (.seq (.region [
            ⟨some 147, .faddr (.t 3) 10, none⟩,
            ⟨some 148, .load 1 false (.t 147), none⟩,
            ⟨some 149, .call false i_sleuthref01_Text [(.t 148)], none⟩,
            ⟨some 4, .cp (.t 149), none⟩] (none))
          .ret))
          (.seq (.region [
            ⟨some 151, .bin .eql (.t 116) (.c (.s (.int .u8 3))), none⟩,
            ⟨some 150, .cp (.t 151), none⟩] (none))
          (.cond (.t 150)
            (.seq (.region [
              ⟨some 152, .cp (.t 0), none⟩,
              ⟨some 153, .load 3 true (.t 5), none⟩,
              ⟨some 154, .call false i_encoding_Writer_Value [(.t 152), (.t 153)], none⟩] (none))
            (.seq (.region [
              ⟨some 155, .load 3 true (.t 5), none⟩,
              ⟨some 156, .call false i_sleuthref01_Value [(.t 155)], none⟩,
              ⟨some 4, .cp (.t 156), none⟩] (none))
            .ret))
            (.seq (.region [
              ⟨some 158, .bin .eql (.t 116) (.c (.s (.int .u8 4))), none⟩,
              ⟨some 157, .cp (.t 158), none⟩] (none))
            (.cond (.t 157)
              (.seq (.region [
                ⟨some 159, .cp (.t 0), none⟩,
                ⟨some 160, .load 4 true (.t 6), none⟩,
                ⟨some 161, .call false i_encoding_Writer_Attr [(.t 159), (.t 160)], none⟩] (none))
              (.seq (.region [
                ⟨some 162, .load 4 true (.t 6), none⟩,
                ⟨some 163, .call false i_sleuthref01_Attr [(.t 162)], none⟩,
                ⟨some 4, .cp (.t 163), none⟩] (none))
              .ret))
              (.seq (.region [
                ⟨some 165, .bin .eql (.t 116) (.c (.s (.int .u8 5))), none⟩,
                ⟨some 164, .cp (.t 165), none⟩] (none))
              (.cond (.t 164)
                (.seq (.region [
                  ⟨some 166, .cp (.t 0), none⟩,
                  ⟨some 167, .load 2 true (.t 7), none⟩,
                  ⟨some 168, .call false i_encoding_Writer_Ref [(.t 166), (.t 167)], none⟩] (none))
                (.seq (.region [
                  ⟨some 169, .load 2 true (.t 7), none⟩,
                  ⟨some 170, .call false i_sleuthref01_Ref [(.t 169)], none⟩,
                  ⟨some 4, .cp (.t 170), none⟩] (none))
                .ret))
                (.seq (.region [
                  ⟨some 172, .bin .eql (.t 116) (.c (.s (.int .u8 6))), none⟩,
                  ⟨some 171, .cp (.t 172), none⟩] (none))
                (.cond (.t 171)
                  (.seq (.region [
                    ⟨some 173, .cp (.t 0), none⟩,
                    ⟨some 174, .load 5 true (.t 8), none⟩,
                    ⟨some 175, .call false i_encoding_Writer_Exchange [(.t 173), (.t 174)], none⟩] (none))
                  (.seq (.region [
                    ⟨some 176, .load 5 true (.t 8), none⟩,
                    ⟨some 177, .call false i_sleuthref01_Exchange [(.t 176)], none⟩,
                    ⟨some 4, .cp (.t 177), none⟩] (none))
                  .ret))
                  (.seq (.region [
                    ⟨some 179, .bin .eql (.t 116) (.c (.s (.int .u8 7))), none⟩,
                    ⟨some 178, .cp (.t 179), none⟩] (none))
                  (.cond (.t 178)
                    (.seq (.region [
                      ⟨some 180, .cp (.t 0), none⟩,
                      ⟨some 181, .load 10 true (.t 9), none⟩,
                      ⟨some 182, .call false i_encoding_Writer_Message [(.t 180), (.t 181)], none⟩] (none))
                    (.seq (.region [
                      ⟨some 183, .load 10 true (.t 9), none⟩,
                      ⟨some 184, .call false i_sleuthref01_Message [(.t 183)], none⟩,
                      ⟨some 4, .cp (.t 184), none⟩] (none))
                    .ret))
                    .skip))))))))))))))))))
  (.seq (.region [
    ⟨some 185, .cp (.t 0), none⟩,
    ⟨some 186, .load 14 true (.t 10), none⟩,
    ⟨some 187, .call false i_encoding_Writer_Span [(.t 185), (.t 186)], none⟩] (none))
  (.seq (.region [
    ⟨some 188, .load 14 true (.t 10), none⟩,
    ⟨some 189, .call false i_sleuthref01_Span [(.t 188)], none⟩,
    ⟨some 4, .cp (.t 189), none⟩] (none))
  .ret)))))))))) }

def x_sleuthlaw01_reads : XF := { np := 3, results := [(.inl 6, .v)], body :=
  (.seq (.region [
    ⟨some 5, .box false (.t 2), none⟩,
    ⟨some 6, .cp (.c (.s (.bool false))), none⟩] (none))
  (.seq (.seq (.region [
    ⟨some 7, .faddr (.t 5) 0, none⟩,
    ⟨some 8, .load 1 false (.t 7), none⟩,
    ⟨some 9, .bin .rem (.t 8) (.c (.s (.int .u8 10))), none⟩] (none))
  (.block 0
    (.seq (.region [
      ⟨some 11, .bin .eql (.t 9) (.c (.s (.int .u8 0))), none⟩,
      ⟨some 10, .cp (.t 11), none⟩] (none))
    (.cond (.t 10)
      (.seq (.region [
        ⟨some 12, .cp (.t 0), none⟩,
        ⟨some 13, .call false i_encoding_Reader_Number [(.t 12)], none⟩,
        ⟨some 14, .cp (.t 1), none⟩,
        ⟨some 15, .call false i_sleuthref01_ReadNumber [(.t 14)], none⟩,
        ⟨some 16, .bin .eql (.t 13) (.t 15), none⟩,
        ⟨some 6, .cp (.t 16), none⟩] (none))
      .ret)
      (.seq (.region [
        ⟨some 18, .bin .eql (.t 9) (.c (.s (.int .u8 1))), none⟩,
        ⟨some 17, .cp (.t 18), none⟩] (none))
      (.cond (.t 17)
        (.seq (.region [
          ⟨some 19, .cp (.t 0), none⟩,
          ⟨some 20, .call false i_encoding_Reader_Bool [(.t 19)], none⟩,
          ⟨some 21, .cp (.t 1), none⟩,
          ⟨some 22, .call false i_sleuthref01_ReadBool [(.t 21)], none⟩,
          ⟨some 23, .eqv .b false (.t 20) (.t 22), none⟩,
          ⟨some 6, .cp (.t 23), none⟩] (none))
        .ret)
        (.seq (.region [
          ⟨some 25, .bin .eql (.t 9) (.c (.s (.int .u8 2))), none⟩,
          ⟨some 24, .cp (.t 25), none⟩] (none))
        (.cond (.t 24)
          (.seq (.region [
            ⟨some 26, .cp (.t 0), none⟩,
            ⟨some 27, .faddr (.t 5) 1, none⟩,
            ⟨some 28, .load 1 false (.t 27), none⟩,
            ⟨some 29, .call false i_encoding_Reader_Text [(.t 26), (.t 28)], none⟩,
            ⟨some 30, .cp (.t 1), none⟩,
            ⟨some 31, .faddr (.t 5) 1, none⟩,
            ⟨some 32, .load 1 false (.t 31), none⟩,
            ⟨some 33, .call false i_sleuthref01_ReadText [(.t 30), (.t 32)], none⟩,
            ⟨some 34, .bin .eql (.t 29) (.t 33), none⟩,
            ⟨some 6, .cp (.t 34), none⟩] (some [(3, some 6)]))
          .ret)
          (.seq (.region [
            ⟨some 36, .bin .eql (.t 9) (.c (.s (.int .u8 3))), none⟩,
            ⟨some 35, .cp (.t 36), none⟩] (none))
          (.cond (.t 35)
            (.seq (.region [
              ⟨some 37, .cp (.t 0), none⟩,
              ⟨some 38, .faddr (.t 5) 1, none⟩,
              ⟨some 39, .load 1 false (.t 38), none⟩,
              ⟨some 40, .call false i_encoding_Reader_Count [(.t 37), (.t 39)], none⟩,
              ⟨some 41, .cp (.t 1), none⟩,
              ⟨some 42, .faddr (.t 5) 1, none⟩,
              ⟨some 43, .load 1 false (.t 42), none⟩,
              ⟨some 44, .call false i_sleuthref01_ReadCount [(.t 41), (.t 43)], none⟩,
              ⟨some 45, .bin .eql (.t 40) (.t 44), none⟩,
              ⟨some 6, .cp (.t 45), none⟩] (some [(3, some 6)]))
            .ret)
            (.seq (.region [
              ⟨some 47, .bin .eql (.t 9) (.c (.s (.int .u8 4))), none⟩,
              ⟨some 46, .cp (.t 47), none⟩] (none))
            (.cond (.t 46)
              (.seq (.region [
                ⟨some 48, .cp (.t 0), none⟩,
                ⟨some 49, .call false i_encoding_Reader_Value [(.t 48)], none⟩,
                ⟨some 50, .cp (.t 1), none⟩,
                ⟨some 51, .call false i_sleuthref01_ReadValue [(.t 50)], none⟩,
                ⟨some 52, .eqv (.a [.i, .t, .i]) false (.t 49) (.t 51), none⟩,
                ⟨some 6, .cp (.t 52), none⟩] (none))
              .ret)
              (.seq (.region [
                ⟨some 54, .bin .eql (.t 9) (.c (.s (.int .u8 5))), none⟩,
                ⟨some 53, .cp (.t 54), none⟩] (none))
              (.cond (.t 53)
                (.seq (.region [
                  ⟨some 55, .cp (.t 0), none⟩,
                  ⟨some 56, .call false i_encoding_Reader_Attr [(.t 55)], none⟩,
                  ⟨some 57, .cp (.t 1), none⟩,
                  ⟨some 58, .call false i_sleuthref01_ReadAttr [(.t 57)], none⟩,
                  ⟨some 59, .eqv (.a [.t, .i, .t, .i]) false (.t 56) (.t 58), none⟩,
                  ⟨some 6, .cp (.t 59), none⟩] (none))
                .ret)
                (.seq (.region [
                  ⟨some 61, .bin .eql (.t 9) (.c (.s (.int .u8 6))), none⟩,
                  ⟨some 60, .cp (.t 61), none⟩] (none))
                (.cond (.t 60)
                  (.seq (.region [
                    ⟨some 62, .cp (.t 0), none⟩,
                    ⟨some 63, .call false i_encoding_Reader_Ref [(.t 62)], none⟩,
                    ⟨some 64, .cp (.t 1), none⟩,
                    ⟨some 65, .call false i_sleuthref01_ReadRef [(.t 64)], none⟩,
                    ⟨some 66, .eqv (.a [.i, .i]) false (.t 63) (.t 65), none⟩,
                    ⟨some 6, .cp (.t 66), none⟩] (none))
                  .ret)
                  (.seq (.region [
                    ⟨some 68, .bin .eql (.t 9) (.c (.s (.int .u8 7))), none⟩,
                    ⟨some 67, .cp (.t 68), none⟩] (none))
                  (.cond (.t 67)
                    (.seq (.region [
                      ⟨some 69, .cp (.t 0), none⟩,
                      ⟨some 70, .call false i_encoding_Reader_Exchange [(.t 69)], none⟩,
                      ⟨some 71, .cp (.t 1), none⟩,
                      ⟨some 72, .call false i_sleuthref01_ReadExchange [(.t 71)], none⟩,
                      ⟨some 73, .eqv (.a [.i, .i, .i, .i, .i]) false (.t 70) (.t 72), none⟩,
                      ⟨some 6, .cp (.t 73), none⟩] (none))
                    .ret)
                    (.seq (.region [
                      ⟨some 75, .bin .eql (.t 9) (.c (.s (.int .u8 8))), none⟩,
                      ⟨some 74, .cp (.t 75), none⟩] (none))
                    (.cond (.t 74)
                      (.seq (.region [
                        ⟨some 76, .cp (.t 0), none⟩,
                        ⟨some 77, .call false i_encoding_Reader_Message [(.t 76)], none⟩,
                        ⟨some 78, .cp (.t 1), none⟩,
                        ⟨some 79, .call false i_sleuthref01_ReadMessage [(.t 78)], none⟩,
                        ⟨some 80, .eqv (.a [.i, .i, .i, .i, .i, .i, .i, .i, .i, .i]) false (.t 77) (.t 79), none⟩,
                        ⟨some 6, .cp (.t 80), none⟩] (none))
                      .ret)
                      .skip))))))))))))))))))))
  (.seq (.region [
    ⟨some 81, .cp (.t 0), none⟩,
    ⟨some 82, .call false i_encoding_Reader_Span [(.t 81)], none⟩,
    ⟨some 83, .call false i_sleuthref01_Span [(.t 82)], none⟩,
    ⟨some 84, .cp (.t 1), none⟩,
    ⟨some 85, .call false i_sleuthref01_ReadSpan [(.t 84)], none⟩,
    ⟨some 86, .call false i_sleuthref01_Span [(.t 85)], none⟩,
    ⟨some 87, .bin .eql (.t 83) (.t 86), none⟩,
    ⟨some 6, .cp (.t 87), none⟩] (none))
  .ret))) }

def x_encoding_Reader_Err : XF := { np := 1, results := [(.inl 2, .v)], body :=
  (.seq (.region [
    ⟨some 2, .cp (.c (.s (.int .i64 0))), none⟩] (none))
  (.seq (.seq (.region [
    ⟨some 3, .cp (.t 0), none⟩,
    ⟨some 4, .eqv .p false (.t 3) (.c (.s (.pointer none))), none⟩] (none))
  (.cond (.t 4)
    (.seq (.region [
      ⟨some 2, .cp (.c (.s (.int .i64 1))), none⟩] (none))
    .ret)
    .skip))
  (.seq (.region [
    ⟨some 5, .cp (.t 0), none⟩,
    ⟨some 6, .nilchk (.t 5), none⟩,
    ⟨some 7, .faddr (.t 6) 2, none⟩,
    ⟨some 8, .load 1 false (.t 7), none⟩,
    ⟨some 2, .cp (.t 8), none⟩] (none))
  .ret))) }

def x_sleuthref01_End : XF := { np := 1, results := [(.inl 2, .v)], body :=
  (.seq (.region [
    ⟨some 2, .cp (.c (.s (.int .i64 0))), none⟩] (none))
  (.seq (.seq (.region [
    ⟨some 3, .cp (.t 0), none⟩,
    ⟨some 4, .nilchk (.t 3), none⟩,
    ⟨some 5, .faddr (.t 4) 2, none⟩,
    ⟨some 6, .load 1 false (.t 5), none⟩,
    ⟨some 7, .bin .eql (.t 6) (.c (.s (.int .i64 0))), none⟩,
    ⟨some 8, .cp (.t 7), none⟩,
    ⟨some 9, .cp (.t 0), some (8, true)⟩,
    ⟨some 10, .nilchk (.t 9), some (8, true)⟩,
    ⟨some 11, .faddr (.t 10) 1, some (8, true)⟩,
    ⟨some 12, .load 1 false (.t 11), some (8, true)⟩,
    ⟨some 13, .cp (.t 0), some (8, true)⟩,
    ⟨some 14, .nilchk (.t 13), some (8, true)⟩,
    ⟨some 15, .faddr (.t 14) 0, some (8, true)⟩,
    ⟨some 16, .load 1 false (.t 15), some (8, true)⟩,
    ⟨some 17, .len true (.t 16), some (8, true)⟩,
    ⟨some 18, .bin .lss (.t 12) (.t 17), some (8, true)⟩,
    ⟨some 19, .pick (.t 8) (.t 18) (.c (.s (.bool false))), none⟩] (some []))
  (.cond (.t 19)
    (.seq (.region [
      ⟨some 2, .cp (.c (.s (.int .i64 3))), none⟩] (none))
    .ret)
    .skip))
  (.seq (.region [
    ⟨some 20, .cp (.t 0), none⟩,
    ⟨some 21, .nilchk (.t 20), none⟩,
    ⟨some 22, .faddr (.t 21) 2, none⟩,
    ⟨some 23, .load 1 false (.t 22), none⟩,
    ⟨some 2, .cp (.t 23), none⟩] (none))
  .ret))) }

def x_encoding_DecodeSpan : XF := { np := 1, results := [(.inr (2, 14, true), .v), (.inl 3, .v)], body :=
  (.seq (.region [
    ⟨some 2, .alloc [.s (.int .i64 0), .s (.int .i64 0), .s (.int .i64 0), .s (.int .i64 0), .s (.int .i64 0), .s (.int .i64 0), .s (.string ⟨#[]⟩), .s (.string ⟨#[]⟩), .s (.string ⟨#[]⟩), .s (.int .i64 0), .s (.int .i64 0), .s (.bool false), .s (.slice none 0 0), .s (.slice none 0 0)], none⟩,
    ⟨some 3, .cp (.c (.s (.int .i64 0))), none⟩] (none))
  (.seq (.region [
    ⟨some 7, .cp (.t 0), none⟩,
    ⟨some 8, .call false i_encoding_NewReader [(.t 7)], none⟩,
    ⟨some 4, .cp (.t 8), none⟩] (none))
  (.seq (.region [
    ⟨some 9, .cp (.t 4), none⟩,
    ⟨some 10, .call false i_encoding_Reader_Span [(.t 9)], none⟩,
    ⟨some 5, .alloc [.s (.int .i64 0), .s (.int .i64 0), .s (.int .i64 0), .s (.int .i64 0), .s (.int .i64 0), .s (.int .i64 0), .s (.string ⟨#[]⟩), .s (.string ⟨#[]⟩), .s (.string ⟨#[]⟩), .s (.int .i64 0), .s (.int .i64 0), .s (.bool false), .s (.slice none 0 0), .s (.slice none 0 0)], none⟩,
    ⟨none, .store 14 (.t 5) (.t 10), none⟩] (none))
  (.seq (.seq (.region [
    ⟨some 11, .cp (.t 4), none⟩,
    ⟨some 12, .call false i_encoding_Reader_End [(.t 11)], none⟩,
    ⟨some 6, .cp (.t 12), none⟩] (none))
  (.seq (.region [
    ⟨some 13, .cp (.t 6), none⟩,
    ⟨some 14, .bin .neq (.t 13) (.c (.s (.int .i64 0))), none⟩] (none))
  (.cond (.t 14)
    (.seq (.region [
      ⟨some 15, .build false [.s (.int .i64 0), .s (.int .i64 0), .s (.int .i64 0), .s (.int .i64 0), .s (.int .i64 0), .s (.int .i64 0), .s (.string ⟨#[]⟩), .s (.string ⟨#[]⟩), .s (.string ⟨#[]⟩), .s (.int .i64 0), .s (.int .i64 0), .s (.bool false), .s (.slice none 0 0), .s (.slice none 0 0)] [], none⟩,
      ⟨some 16, .cp (.t 6), none⟩,
      ⟨none, .store 14 (.t 2) (.t 15), none⟩,
      ⟨some 3, .cp (.t 16), none⟩] (none))
    .ret)
    .skip)))
  (.seq (.region [
    ⟨some 17, .load 14 true (.t 5), none⟩,
    ⟨none, .store 14 (.t 2) (.t 17), none⟩,
    ⟨some 3, .cp (.c (.s (.int .i64 0))), none⟩] (none))
  .ret))))) }

def x_encoding_DecodeFragment : XF := { np := 1, results := [(.inr (2, 4, true), .v), (.inl 3, .v)], body :=
  (.seq (.region [
    ⟨some 2, .alloc [.s (.int .i64 0), .s (.int .i64 0), .s (.slice none 0 0), .s (.slice none 0 0)], none⟩,
    ⟨some 3, .cp (.c (.s (.int .i64 0))), none⟩] (none))
  (.seq (.region [
    ⟨some 7, .cp (.t 0), none⟩,
    ⟨some 8, .call false i_encoding_NewReader [(.t 7)], none⟩,
    ⟨some 4, .cp (.t 8), none⟩] (none))
  (.seq (.region [
    ⟨some 5, .alloc [.s (.int .i64 0), .s (.int .i64 0), .s (.slice none 0 0), .s (.slice none 0 0)], none⟩] (none))
  (.seq (.region [
    ⟨some 9, .cp (.t 4), none⟩,
    ⟨some 10, .faddr (.t 5) 0, none⟩,
    ⟨some 11, .faddr (.t 5) 1, none⟩,
    ⟨some 12, .bslice true 1 [(.t 10), (.t 11)], none⟩,
    ⟨some 13, .call false i_encoding_Reader_numbers [(.t 9), (.t 12)], none⟩] (none))
  (.seq (.region [
    ⟨some 14, .cp (.t 4), none⟩,
    ⟨some 15, .cp (.t 4), none⟩,
    ⟨some 16, .mkfn false i_encoding_Reader_Span [(.t 15)] [], none⟩,
    ⟨some 17, .call false i_encoding_elements_api_Span [(.t 14), (.t 16)], none⟩,
    ⟨some 18, .faddr (.t 5) 2, none⟩,
    ⟨none, .store 1 (.t 18) (.t 17), none⟩] (none))
  (.seq (.region [
    ⟨some 19, .cp (.t 4), none⟩,
    ⟨some 20, .cp (.t 4), none⟩,
    ⟨some 21, .mkfn false i_encoding_Reader_Exchange [(.t 20)] [], none⟩,
    ⟨some 22, .call false i_encoding_elements_api_Exchange [(.t 19), (.t 21)], none⟩,
    ⟨some 23, .faddr (.t 5) 3, none⟩,
    ⟨none, .store 1 (.t 23) (.t 22), none⟩] (none))
  (.seq (.seq (.region [
    ⟨some 24, .cp (.t 4), none⟩,
    ⟨some 25, .call false i_encoding_Reader_End [(.t 24)], none⟩,
    ⟨some 6, .cp (.t 25), none⟩] (none))
  (.seq (.region [
    ⟨some 26, .cp (.t 6), none⟩,
    ⟨some 27, .bin .neq (.t 26) (.c (.s (.int .i64 0))), none⟩] (none))
  (.cond (.t 27)
    (.seq (.region [
      ⟨some 28, .build false [.s (.int .i64 0), .s (.int .i64 0), .s (.slice none 0 0), .s (.slice none 0 0)] [], none⟩,
      ⟨some 29, .cp (.t 6), none⟩,
      ⟨none, .store 4 (.t 2) (.t 28), none⟩,
      ⟨some 3, .cp (.t 29), none⟩] (none))
    .ret)
    .skip)))
  (.seq (.region [
    ⟨some 30, .load 4 true (.t 5), none⟩,
    ⟨none, .store 4 (.t 2) (.t 30), none⟩,
    ⟨some 3, .cp (.c (.s (.int .i64 0))), none⟩] (none))
  .ret)))))))) }

def x_encoding_DecodeTrace : XF := { np := 1, results := [(.inr (2, 3, true), .v), (.inl 3, .v)], body :=
  (.seq (.region [
    ⟨some 2, .alloc [.s (.int .i64 0), .s (.int .i64 0), .s (.slice none 0 0)], none⟩,
    ⟨some 3, .cp (.c (.s (.int .i64 0))), none⟩] (none))
  (.seq (.region [
    ⟨some 7, .cp (.t 0), none⟩,
    ⟨some 8, .call false i_encoding_NewReader [(.t 7)], none⟩,
    ⟨some 4, .cp (.t 8), none⟩] (none))
  (.seq (.region [
    ⟨some 5, .alloc [.s (.int .i64 0), .s (.int .i64 0), .s (.slice none 0 0)], none⟩] (none))
  (.seq (.region [
    ⟨some 9, .cp (.t 4), none⟩,
    ⟨some 10, .faddr (.t 5) 0, none⟩,
    ⟨some 11, .faddr (.t 5) 1, none⟩,
    ⟨some 12, .bslice true 1 [(.t 10), (.t 11)], none⟩,
    ⟨some 13, .call false i_encoding_Reader_numbers [(.t 9), (.t 12)], none⟩] (none))
  (.seq (.region [
    ⟨some 14, .cp (.t 4), none⟩,
    ⟨some 15, .cp (.t 4), none⟩,
    ⟨some 16, .mkfn false i_encoding_Reader_Span [(.t 15)] [], none⟩,
    ⟨some 17, .call false i_encoding_elements_api_Span [(.t 14), (.t 16)], none⟩,
    ⟨some 18, .faddr (.t 5) 2, none⟩,
    ⟨none, .store 1 (.t 18) (.t 17), none⟩] (none))
  (.seq (.seq (.region [
    ⟨some 19, .cp (.t 4), none⟩,
    ⟨some 20, .call false i_encoding_Reader_End [(.t 19)], none⟩,
    ⟨some 6, .cp (.t 20), none⟩] (none))
  (.seq (.region [
    ⟨some 21, .cp (.t 6), none⟩,
    ⟨some 22, .bin .neq (.t 21) (.c (.s (.int .i64 0))), none⟩] (none))
  (.cond (.t 22)
    (.seq (.region [
      ⟨some 23, .build false [.s (.int .i64 0), .s (.int .i64 0), .s (.slice none 0 0)] [], none⟩,
      ⟨some 24, .cp (.t 6), none⟩,
      ⟨none, .store 3 (.t 2) (.t 23), none⟩,
      ⟨some 3, .cp (.t 24), none⟩] (none))
    .ret)
    .skip)))
  (.seq (.region [
    ⟨some 25, .load 3 true (.t 5), none⟩,
    ⟨none, .store 3 (.t 2) (.t 25), none⟩,
    ⟨some 3, .cp (.c (.s (.int .i64 0))), none⟩] (none))
  .ret))))))) }

def x_sleuthref01_ReadSpan_l0 : XC :=
  (.seq (.seq (.region [
    ⟨some 45, .cp (.t 5), none⟩,
    ⟨some 46, .cp (.t 4), none⟩,
    ⟨some 47, .bin .lss (.t 45) (.t 46), none⟩,
    ⟨some 48, .cp (.t 47), none⟩,
    ⟨some 49, .cp (.t 0), some (48, true)⟩,
    ⟨some 50, .nilchk (.t 49), some (48, true)⟩,
    ⟨some 51, .faddr (.t 50) 2, some (48, true)⟩,
    ⟨some 52, .load 1 false (.t 51), some (48, true)⟩,
    ⟨some 53, .bin .eql (.t 52) (.c (.s (.int .i64 0))), some (48, true)⟩,
    ⟨some 54, .pick (.t 48) (.t 53) (.c (.s (.bool false))), none⟩] (none))
  (.cond (.t 54)
    .skip
    (.exit 0)))
  (.seq (.block 1
    (.region [
      ⟨some 57, .faddr (.t 3) 12, none⟩,
      ⟨some 58, .load 1 false (.t 57), none⟩,
      ⟨some 59, .cp (.t 0), none⟩,
      ⟨some 60, .call false i_sleuthref01_ReadAttr [(.t 59)], none⟩,
      ⟨some 61, .bslice false 4 [(.t 60)], none⟩,
      ⟨some 62, .append 4 2932031007402 (.t 58) (.t 61), none⟩,
      ⟨some 63, .faddr (.t 3) 12, none⟩,
      ⟨none, .store 1 (.t 63) (.t 62), none⟩] (some [(3, some 1)])))
  (.region [
    ⟨some 55, .cp (.t 5), none⟩,
    ⟨some 56, .bin .add (.t 55) (.c (.s (.int .i64 1))), none⟩,
    ⟨some 5, .cp (.t 56), none⟩] (none))))

def x_sleuthref01_ReadSpan_l1 : XC :=
  (.seq (.seq (.region [
    ⟨some 66, .cp (.t 6), none⟩,
    ⟨some 67, .cp (.t 4), none⟩,
    ⟨some 68, .bin .lss (.t 66) (.t 67), none⟩,
    ⟨some 69, .cp (.t 68), none⟩,
    ⟨some 70, .cp (.t 0), some (69, true)⟩,
    ⟨some 71, .nilchk (.t 70), some (69, true)⟩,
    ⟨some 72, .faddr (.t 71) 2, some (69, true)⟩,
    ⟨some 73, .load 1 false (.t 72), some (69, true)⟩,
    ⟨some 74, .bin .eql (.t 73) (.c (.s (.int .i64 0))), some (69, true)⟩,
    ⟨some 75, .pick (.t 69) (.t 74) (.c (.s (.bool false))), none⟩] (none))
  (.cond (.t 75)
    .skip
    (.exit 2)))
  (.seq (.block 3
    (.region [
      ⟨some 78, .faddr (.t 3) 13, none⟩,
      ⟨some 79, .load 1 false (.t 78), none⟩,
      ⟨some 80, .cp (.t 0), none⟩,
      ⟨some 81, .call false i_sleuthref01_ReadRef [(.t 80)], none⟩,
      ⟨some 82, .bslice false 2 [(.t 81)], none⟩,
      ⟨some 83, .append 2 8796093022208 (.t 79) (.t 82), none⟩,
      ⟨some 84, .faddr (.t 3) 13, none⟩,
      ⟨none, .store 1 (.t 84) (.t 83), none⟩] (some [(3, some 1)])))
  (.region [
    ⟨some 76, .cp (.t 6), none⟩,
    ⟨some 77, .bin .add (.t 76) (.c (.s (.int .i64 1))), none⟩,
    ⟨some 6, .cp (.t 77), none⟩] (none))))
def x_sleuthref01_ReadSpan : XF := { np := 1, results := [(.inr (2, 14, true), .v)], body :=
  (.seq (.region [
    ⟨some 2, .alloc [.s (.int .i64 0), .s (.int .i64 0), .s (.int .i64 0), .s (.int .i64 0), .s (.int .i64 0), .s (.int .i64 0), .s (.string ⟨#[]⟩), .s (.string ⟨#[]⟩), .s (.string ⟨#[]⟩), .s (.int .i64 0), .s (.int .i64 0), .s (.bool false), .s (.slice none 0 0), .s (.slice none 0 0)], none⟩] (none))
  (.seq (.region [
    ⟨some 3, .alloc [.s (.int .i64 0), .s (.int .i64 0), .s (.int .i64 0), .s (.int .i64 0), .s (.int .i64 0), .s (.int .i64 0), .s (.string ⟨#[]⟩), .s (.string ⟨#[]⟩), .s (.string ⟨#[]⟩), .s (.int .i64 0), .s (.int .i64 0), .s (.bool false), .s (.slice none 0 0), .s (.slice none 0 0)], none⟩] (none))
  (.seq (.region [
    ⟨some 7, .cp (.t 0), none⟩,
    ⟨some 8, .call false i_sleuthref01_ReadNumber [(.t 7)], none⟩,
    ⟨some 9, .faddr (.t 3) 0, none⟩,
    ⟨none, .store 1 (.t 9) (.t 8), none⟩] (none))
  (.seq (.region [
    ⟨some 10, .cp (.t 0), none⟩,
    ⟨some 11, .call false i_sleuthref01_ReadNumber [(.t 10)], none⟩,
    ⟨some 12, .faddr (.t 3) 1, none⟩,
    ⟨none, .store 1 (.t 12) (.t 11), none⟩] (none))
  (.seq (.region [
    ⟨some 13, .cp (.t 0), none⟩,
    ⟨some 14, .call false i_sleuthref01_ReadNumber [(.t 13)], none⟩,
    ⟨some 15, .faddr (.t 3) 2, none⟩,
    ⟨none, .store 1 (.t 15) (.t 14), none⟩] (none))
  (.seq (.region [
    ⟨some 16, .cp (.t 0), none⟩,
    ⟨some 17, .call false i_sleuthref01_ReadNumber [(.t 16)], none⟩,
    ⟨some 18, .faddr (.t 3) 3, none⟩,
    ⟨none, .store 1 (.t 18) (.t 17), none⟩] (none))
  (.seq (.region [
    ⟨some 19, .cp (.t 0), none⟩,
    ⟨some 20, .call false i_sleuthref01_ReadNumber [(.t 19)], none⟩,
    ⟨some 21, .faddr (.t 3) 4, none⟩,
    ⟨none, .store 1 (.t 21) (.t 20), none⟩] (none))
  (.seq (.region [
    ⟨some 22, .cp (.t 0), none⟩,
    ⟨some 23, .call false i_sleuthref01_ReadNumber [(.t 22)], none⟩,
    ⟨some 24, .faddr (.t 3) 5, none⟩,
    ⟨none, .store 1 (.t 24) (.t 23), none⟩] (none))
  (.seq (.region [
    ⟨some 25, .cp (.t 0), none⟩,
    ⟨some 26, .call false i_sleuthref01_ReadText [(.t 25), (.c (.s (.int .i64 4096)))], none⟩,
    ⟨some 27, .faddr (.t 3) 6, none⟩,
    ⟨none, .store 1 (.t 27) (.t 26), none⟩] (none))
  (.seq (.region [
    ⟨some 28, .cp (.t 0), none⟩,
    ⟨some 29, .call false i_sleuthref01_ReadText [(.t 28), (.c (.s (.int .i64 4096)))], none⟩,
    ⟨some 30, .faddr (.t 3) 7, none⟩,
    ⟨none, .store 1 (.t 30) (.t 29), none⟩] (none))
  (.seq (.region [
    ⟨some 31, .cp (.t 0), none⟩,
    ⟨some 32, .call false i_sleuthref01_ReadText [(.t 31), (.c (.s (.int .i64 4096)))], none⟩,
    ⟨some 33, .faddr (.t 3) 8, none⟩,
    ⟨none, .store 1 (.t 33) (.t 32), none⟩] (none))
  (.seq (.region [
    ⟨some 34, .cp (.t 0), none⟩,
    ⟨some 35, .call false i_sleuthref01_ReadNumber [(.t 34)], none⟩,
    ⟨some 36, .faddr (.t 3) 9, none⟩,
    ⟨none, .store 1 (.t 36) (.t 35), none⟩] (none))
  (.seq (.region [
    ⟨some 37, .cp (.t 0), none⟩,
    ⟨some 38, .call false i_sleuthref01_ReadNumber [(.t 37)], none⟩,
    ⟨some 39, .faddr (.t 3) 10, none⟩,
    ⟨none, .store 1 (.t 39) (.t 38), none⟩] (none))
  (.seq (.region [
    ⟨some 40, .cp (.t 0), none⟩,
    ⟨some 41, .call false i_sleuthref01_ReadBool [(.t 40)], none⟩,
    ⟨some 42, .faddr (.t 3) 11, none⟩,
    ⟨none, .store 1 (.t 42) (.t 41), none⟩] (none))
  (.seq (.region [
    ⟨some 43, .cp (.t 0), none⟩,
    ⟨some 44, .call false i_sleuthref01_ReadCount [(.t 43), (.c (.s (.int .i64 4096)))], none⟩,
    ⟨some 4, .cp (.t 44), none⟩] (none))
  (.seq (.seq (.region [
    ⟨some 5, .cp (.c (.s (.int .i64 0))), none⟩] (none))
  (.block 0
    (.loop x_sleuthref01_ReadSpan_l0)))
  (.seq (.region [
    ⟨some 64, .cp (.t 0), none⟩,
    ⟨some 65, .call false i_sleuthref01_ReadCount [(.t 64), (.c (.s (.int .i64 4096)))], none⟩,
    ⟨some 4, .cp (.t 65), none⟩] (none))
  (.seq (.seq (.region [
    ⟨some 6, .cp (.c (.s (.int .i64 0))), none⟩] (none))
  (.block 2
    (.loop x_sleuthref01_ReadSpan_l1)))
  (.seq (.seq (.region [
    ⟨some 85, .cp (.t 0), none⟩,
    ⟨some 86, .nilchk (.t 85), none⟩,
    ⟨some 87, .faddr (.t 86) 2, none⟩,
    ⟨some 88, .load 1 false (.t 87), none⟩,
    ⟨some 89, .bin .neq (.t 88) (.c (.s (.int .i64 0))), none⟩] (none))
  (.cond (.t 89)
    (.seq (.region [
      ⟨some 90, .build false [.s (.int .i64 0), .s (.int .i64 0), .s (.int .i64 0), .s (.int .i64 0), .s (.int .i64 0), .s (.int .i64 0), .s (.string ⟨#[]⟩), .s (.string ⟨#[]⟩), .s (.string ⟨#[]⟩), .s (.int .i64 0), .s (.int .i64 0), .s (.bool false), .s (.slice none 0 0), .s (.slice none 0 0)] [], none⟩,
      ⟨none, .store 14 (.t 2) (.t 90), none⟩] (none))
    .ret)
    .skip))
  (.seq (.region [
    ⟨some 91, .load 14 true (.t 3), none⟩,
    ⟨none, .store 14 (.t 2) (.t 91), none⟩] (none))
  .ret)))))))))))))))))))) }

def x_sleuthref01_Span_l0 : XC :=
  (.seq (.seq (.region [
    ⟨some 60, .cp (.t 4), none⟩,
    ⟨some 61, .faddr (.t 1) 12, none⟩,
    ⟨some 62, .load 1 false (.t 61), none⟩,
    ⟨some 63, .len false (.t 62), none⟩,
    ⟨some 64, .bin .lss (.t 60) (.t 63), none⟩] (none))
  (.cond (.t 64)
    .skip
    (.exit 0)))
  (.seq (.block 1
    (.region [
      ⟨some 67, .cp (.t 3), none⟩,
      ⟨some 68, .faddr (.t 1) 12, none⟩,
      ⟨some 69, .load 1 false (.t 68), none⟩,
      ⟨some 70, .cp (.t 4), none⟩,
      ⟨some 71, .iaddr 4 (.t 69) (.t 70), none⟩,
      ⟨some 72, .load 4 true (.t 71), none⟩,
      ⟨some 73, .call false i_sleuthref01_Attr [(.t 72)], none⟩,
      ⟨some 74, .bin .add (.t 67) (.t 73), none⟩,
      ⟨some 3, .cp (.t 74), none⟩] (none)))
  (.region [
    ⟨some 65, .cp (.t 4), none⟩,
    ⟨some 66, .bin .add (.t 65) (.c (.s (.int .i64 1))), none⟩,
    ⟨some 4, .cp (.t 66), none⟩] (none))))

def x_sleuthref01_Span_l1 : XC :=
  (.seq (.seq (.region [
    ⟨some 81, .cp (.t 5), none⟩,
    ⟨some 82, .faddr (.t 1) 13, none⟩,
    ⟨some 83, .load 1 false (.t 82), none⟩,
    ⟨some 84, .len false (.t 83), none⟩,
    ⟨some 85, .bin .lss (.t 81) (.t 84), none⟩] (none))
  (.cond (.t 85)
    .skip
    (.exit 2)))
  (.seq (.block 3
    (.region [
      ⟨some 88, .cp (.t 3), none⟩,
      ⟨some 89, .faddr (.t 1) 13, none⟩,
      ⟨some 90, .load 1 false (.t 89), none⟩,
      ⟨some 91, .cp (.t 5), none⟩,
      ⟨some 92, .iaddr 2 (.t 90) (.t 91), none⟩,
      ⟨some 93, .load 2 true (.t 92), none⟩,
      ⟨some 94, .call false i_sleuthref01_Ref [(.t 93)], none⟩,
      ⟨some 95, .bin .add (.t 88) (.t 94), none⟩,
      ⟨some 3, .cp (.t 95), none⟩] (none)))
  (.region [
    ⟨some 86, .cp (.t 5), none⟩,
    ⟨some 87, .bin .add (.t 86) (.c (.s (.int .i64 1))), none⟩,
    ⟨some 5, .cp (.t 87), none⟩] (none))))
def x_sleuthref01_Span : XF := { np := 1, results := [(.inl 2, .v)], body :=
  (.seq (.region [
    ⟨some 1, .box false (.t 0), none⟩,
    ⟨some 2, .cp (.c (.s (.string ⟨#[]⟩))), none⟩] (none))
  (.seq (.region [
    ⟨some 6, .faddr (.t 1) 0, none⟩,
    ⟨some 7, .load 1 false (.t 6), none⟩,
    ⟨some 8, .call false i_sleuthref01_Number [(.t 7)], none⟩,
    ⟨some 9, .faddr (.t 1) 1, none⟩,
    ⟨some 10, .load 1 false (.t 9), none⟩,
    ⟨some 11, .call false i_sleuthref01_Number [(.t 10)], none⟩,
    ⟨some 12, .bin .add (.t 8) (.t 11), none⟩,
    ⟨some 13, .faddr (.t 1) 2, none⟩,
    ⟨some 14, .load 1 false (.t 13), none⟩,
    ⟨some 15, .call false i_sleuthref01_Number [(.t 14)], none⟩,
    ⟨some 16, .bin .add (.t 12) (.t 15), none⟩,
    ⟨some 17, .faddr (.t 1) 3, none⟩,
    ⟨some 18, .load 1 false (.t 17), none⟩,
    ⟨some 19, .call false i_sleuthref01_Number [(.t 18)], none⟩,
    ⟨some 20, .bin .add (.t 16) (.t 19), none⟩,
    ⟨some 21, .faddr (.t 1) 4, none⟩,
    ⟨some 22, .load 1 false (.t 21), none⟩,
    ⟨some 23, .call false i_sleuthref01_Number [(.t 22)], none⟩,
    ⟨some 24, .bin .add (.t 20) (.t 23), none⟩,
    ⟨some 25, .faddr (.t 1) 5, none⟩,
    ⟨some 26, .load 1 false (.t 25), none⟩,
    ⟨some 27, .call false i_sleuthref01_Number [(.t 26)], none⟩,
    ⟨some 28, .bin .add (.t 24) (.t 27), none⟩,
    ⟨some 3, .cp (.t 28), none⟩] (some [(2, none), (5, none), (9, none), (13, some 16), (13, some 20), (17, some 20)]))
  (.seq (.region [
    ⟨some 29, .cp (.t 3), none⟩,
    ⟨some 30, .faddr (.t 1) 6, none⟩,
    ⟨some 31, .load 1 false (.t 30), none⟩,
    ⟨some 32, .call false i_sleuthref01_Text [(.t 31)], none⟩,
    ⟨some 33, .bin .add (.t 29) (.t 32), none⟩,
    ⟨some 34, .faddr (.t 1) 7, none⟩,
    ⟨some 35, .load 1 false (.t 34), none⟩,
    ⟨some 36, .call false i_sleuthref01_Text [(.t 35)], none⟩,
    ⟨some 37, .bin .add (.t 33) (.t 36), none⟩,
    ⟨some 38, .faddr (.t 1) 8, none⟩,
    ⟨some 39, .load 1 false (.t 38), none⟩,
    ⟨some 40, .call false i_sleuthref01_Text [(.t 39)], none⟩,
    ⟨some 41, .bin .add (.t 37) (.t 40), none⟩,
    ⟨some 42, .faddr (.t 1) 9, none⟩,
    ⟨some 43, .load 1 false (.t 42), none⟩,
    ⟨some 44, .call false i_sleuthref01_Number [(.t 43)], none⟩,
    ⟨some 45, .bin .add (.t 41) (.t 44), none⟩,
    ⟨some 46, .faddr (.t 1) 10, none⟩,
    ⟨some 47, .load 1 false (.t 46), none⟩,
    ⟨some 48, .call false i_sleuthref01_Number [(.t 47)], none⟩,
    ⟨some 49, .bin .add (.t 45) (.t 48), none⟩,
    ⟨some 50, .faddr (.t 1) 11, none⟩,
    ⟨some 51, .load 1 false (.t 50), none⟩,
    ⟨some 52, .call false i_sleuthref01_Bool [(.t 51)], none⟩,
    ⟨some 53, .bin .add (.t 49) (.t 52), none⟩,
    ⟨some 3, .cp (.t 53), none⟩] (some [(3, none), (7, none), (11, none), (15, some 18), (15, some 22), (19, some 22)]))
  (.seq (.region [
    ⟨some 54, .cp (.t 3), none⟩,
    ⟨some 55, .faddr (.t 1) 12, none⟩,
    ⟨some 56, .load 1 false (.t 55), none⟩,
    ⟨some 57, .len false (.t 56), none⟩,
    ⟨some 58, .call false i_sleuthref01_Number [(.t 57)], none⟩,
    ⟨some 59, .bin .add (.t 54) (.t 58), none⟩,
    ⟨some 3, .cp (.t 59), none⟩] (none))
  (.seq (.seq (.region [
    ⟨some 4, .cp (.c (.s (.int .i64 0))), none⟩] (none))
  (.block 0
    (.loop x_sleuthref01_Span_l0)))
  (.seq (.region [
    ⟨some 75, .cp (.t 3), none⟩,
    ⟨some 76, .faddr (.t 1) 13, none⟩,
    ⟨some 77, .load 1 false (.t 76), none⟩,
    ⟨some 78, .len false (.t 77), none⟩,
    ⟨some 79, .call false i_sleuthref01_Number [(.t 78)], none⟩,
    ⟨some 80, .bin .add (.t 75) (.t 79), none⟩,
    ⟨some 3, .cp (.t 80), none⟩] (none))
  (.seq (.seq (.region [
    ⟨some 5, .cp (.c (.s (.int .i64 0))), none⟩] (none))
  (.block 2
    (.loop x_sleuthref01_Span_l1)))
  (.seq (.region [
    ⟨some 96, .cp (.t 3), none⟩,
    ⟨some 2, .cp (.t 96), none⟩] (none))
  .ret)))))))) }

def x_sleuthref01_Fragment_l0 : XC :=
  (.seq (.seq (.region [
    ⟨some 21, .cp (.t 4), none⟩,
    ⟨some 22, .faddr (.t 1) 3, none⟩,
    ⟨some 23, .load 1 false (.t 22), none⟩,
    ⟨some 24, .len false (.t 23), none⟩,
    ⟨some 25, .bin .lss (.t 21) (.t 24), none⟩] (none))
  (.cond (.t 25)
    .skip
    (.exit 0)))
  (.seq (.block 1
    (.region [
      ⟨some 28, .cp (.t 3), none⟩,
      ⟨some 29, .faddr (.t 1) 3, none⟩,
      ⟨some 30, .load 1 false (.t 29), none⟩,
      ⟨some 31, .cp (.t 4), none⟩,
      ⟨some 32, .iaddr 5 (.t 30) (.t 31), none⟩,
      ⟨some 33, .load 5 true (.t 32), none⟩,
      ⟨some 34, .call false i_sleuthref01_Exchange [(.t 33)], none⟩,
      ⟨some 35, .bin .add (.t 28) (.t 34), none⟩,
      ⟨some 3, .cp (.t 35), none⟩] (none)))
  (.region [
    ⟨some 26, .cp (.t 4), none⟩,
    ⟨some 27, .bin .add (.t 26) (.c (.s (.int .i64 1))), none⟩,
    ⟨some 4, .cp (.t 27), none⟩] (none))))
def x_sleuthref01_Fragment : XF := { np := 1, results := [(.inl 2, .v)], body :=
  (.seq (.region [
    ⟨some 1, .box false (.t 0), none⟩,
    ⟨some 2, .cp (.c (.s (.string ⟨#[]⟩))), none⟩] (none))
  (.seq (.region [
    ⟨some 5, .faddr (.t 1) 0, none⟩,
    ⟨some 6, .load 1 false (.t 5), none⟩,
    ⟨some 7, .call false i_sleuthref01_Number [(.t 6)], none⟩,
    ⟨some 8, .faddr (.t 1) 1, none⟩,
    ⟨some 9, .load 1 false (.t 8), none⟩,
    ⟨some 10, .call false i_sleuthref01_Number [(.t 9)], none⟩,
    ⟨some 11, .bin .add (.t 7) (.t 10), none⟩,
    ⟨some 12, .faddr (.t 1) 2, none⟩,
    ⟨some 13, .load 1 false (.t 12), none⟩,
    ⟨some 14, .call false i_sleuthref01_Spans [(.t 13)], none⟩,
    ⟨some 15, .bin .add (.t 11) (.t 14), none⟩,
    ⟨some 16, .faddr (.t 1) 3, none⟩,
    ⟨some 17, .load 1 false (.t 16), none⟩,
    ⟨some 18, .len false (.t 17), none⟩,
    ⟨some 19, .call false i_sleuthref01_Number [(.t 18)], none⟩,
    ⟨some 20, .bin .add (.t 15) (.t 19), none⟩,
    ⟨some 3, .cp (.t 20), none⟩] (some [(2, none), (5, none), (9, some 12), (9, some 13)]))
  (.seq (.seq (.region [
    ⟨some 4, .cp (.c (.s (.int .i64 0))), none⟩] (none))
  (.block 0
    (.loop x_sleuthref01_Fragment_l0)))
  (.seq (.region [
    ⟨some 36, .cp (.t 3), none⟩,
    ⟨some 2, .cp (.t 36), none⟩] (none))
  .ret)))) }

def x_sleuthref01_Trace : XF := { np := 1, results := [(.inl 2, .v)], body :=
  (.seq (.region [
    ⟨some 1, .box false (.t 0), none⟩,
    ⟨some 2, .cp (.c (.s (.string ⟨#[]⟩))), none⟩] (none))
  (.seq (.region [
    ⟨some 3, .faddr (.t 1) 0, none⟩,
    ⟨some 4, .load 1 false (.t 3), none⟩,
    ⟨some 5, .call false i_sleuthref01_Number [(.t 4)], none⟩,
    ⟨some 6, .faddr (.t 1) 1, none⟩,
    ⟨some 7, .load 1 false (.t 6), none⟩,
    ⟨some 8, .call false i_sleuthref01_Number [(.t 7)], none⟩,
    ⟨some 9, .bin .add (.t 5) (.t 8), none⟩,
    ⟨some 10, .faddr (.t 1) 2, none⟩,
    ⟨some 11, .load 1 false (.t 10), none⟩,
    ⟨some 12, .call false i_sleuthref01_Spans [(.t 11)], none⟩,
    ⟨some 13, .bin .add (.t 9) (.t 12), none⟩,
    ⟨some 2, .cp (.t 13), none⟩] (some [(2, some 4), (2, some 8), (5, some 8)]))
  .ret)) }

def x_sleuthlaw01_short_l0 : XC :=
  (.seq (.seq (.region [
    ⟨some 32, .cp (.t 3), none⟩,
    ⟨some 33, .faddr (.t 1) 12, none⟩,
    ⟨some 34, .load 1 false (.t 33), none⟩,
    ⟨some 35, .len false (.t 34), none⟩,
    ⟨some 36, .bin .lss (.t 32) (.t 35), none⟩] (none))
  (.cond (.t 36)
    .skip
    (.exit 0)))
  (.seq (.block 1
    (.seq (.region [
      ⟨some 39, .faddr (.t 1) 12, none⟩,
      ⟨some 40, .load 1 false (.t 39), none⟩,
      ⟨some 41, .cp (.t 3), none⟩,
      ⟨some 42, .iaddr 4 (.t 40) (.t 41), none⟩,
      ⟨some 43, .faddr (.t 42) 0, none⟩,
      ⟨some 44, .load 1 false (.t 43), none⟩,
      ⟨some 45, .len true (.t 44), none⟩,
      ⟨some 46, .bin .gtr (.t 45) (.c (.s (.int .i64 100))), none⟩,
      ⟨some 47, .cp (.t 46), none⟩,
      ⟨some 48, .faddr (.t 1) 12, some (47, false)⟩,
      ⟨some 49, .load 1 false (.t 48), some (47, false)⟩,
      ⟨some 50, .cp (.t 3), some (47, false)⟩,
      ⟨some 51, .iaddr 4 (.t 49) (.t 50), some (47, false)⟩,
      ⟨some 52, .faddr (.t 51) 1, some (47, false)⟩,
      ⟨some 53, .faddr (.t 52) 1, some (47, false)⟩,
      ⟨some 54, .load 1 false (.t 53), some (47, false)⟩,
      ⟨some 55, .len true (.t 54), some (47, false)⟩,
      ⟨some 56, .bin .gtr (.t 55) (.c (.s (.int .i64 100))), some (47, false)⟩,
      ⟨some 57, .pick (.t 47) (.c (.s (.bool true))) (.t 56), none⟩] (none))
    (.cond (.t 57)
      (.seq (.region [
        ⟨some 2, .cp (.c (.s (.bool false))), none⟩] (none))
      .ret)
      .skip)))
  (.region [
    ⟨some 37, .cp (.t 3), none⟩,
    ⟨some 38, .bin .add (.t 37) (.c (.s (.int .i64 1))), none⟩,
    ⟨some 3, .cp (.t 38), none⟩] (none))))
def x_sleuthlaw01_short : XF := { np := 1, results := [(.inl 2, .v)], body :=
  (.seq (.region [
    ⟨some 1, .box false (.t 0), none⟩,
    ⟨some 2, .cp (.c (.s (.bool false))), none⟩] (none))
  (.seq (.seq (.region [
    ⟨some 4, .faddr (.t 1) 12, none⟩,
    ⟨some 5, .load 1 false (.t 4), none⟩,
    ⟨some 6, .len false (.t 5), none⟩,
    ⟨some 7, .bin .gtr (.t 6) (.c (.s (.int .i64 8))), none⟩,
    ⟨some 8, .cp (.t 7), none⟩,
    ⟨some 9, .faddr (.t 1) 13, some (8, false)⟩,
    ⟨some 10, .load 1 false (.t 9), some (8, false)⟩,
    ⟨some 11, .len false (.t 10), some (8, false)⟩,
    ⟨some 12, .bin .gtr (.t 11) (.c (.s (.int .i64 8))), some (8, false)⟩,
    ⟨some 13, .pick (.t 8) (.c (.s (.bool true))) (.t 12), none⟩,
    ⟨some 14, .cp (.t 13), none⟩,
    ⟨some 15, .faddr (.t 1) 6, some (14, false)⟩,
    ⟨some 16, .load 1 false (.t 15), some (14, false)⟩,
    ⟨some 17, .len true (.t 16), some (14, false)⟩,
    ⟨some 18, .bin .gtr (.t 17) (.c (.s (.int .i64 100))), some (14, false)⟩,
    ⟨some 19, .pick (.t 14) (.c (.s (.bool true))) (.t 18), none⟩,
    ⟨some 20, .cp (.t 19), none⟩,
    ⟨some 21, .faddr (.t 1) 7, some (20, false)⟩,
    ⟨some 22, .load 1 false (.t 21), some (20, false)⟩,
    ⟨some 23, .len true (.t 22), some (20, false)⟩,
    ⟨some 24, .bin .gtr (.t 23) (.c (.s (.int .i64 100))), some (20, false)⟩,
    ⟨some 25, .pick (.t 20) (.c (.s (.bool true))) (.t 24), none⟩,
    ⟨some 26, .cp (.t 25), none⟩,
    ⟨some 27, .faddr (.t 1) 8, some (26, false)⟩,
    ⟨some 28, .load 1 false (.t 27), some (26, false)⟩,
    ⟨some 29, .len true (.t 28), some (26, false)⟩,
    ⟨some 30, .bin .gtr (.t 29) (.c (.s (.int .i64 100))), some (26, false)⟩,
    ⟨some 31, .pick (.t 26) (.c (.s (.bool true))) (.t 30), none⟩] (none))
  (.cond (.t 31)
    (.seq (.region [
      ⟨some 2, .cp (.c (.s (.bool false))), none⟩] (none))
    .ret)
    .skip))
  (.seq (.seq (.region [
    ⟨some 3, .cp (.c (.s (.int .i64 0))), none⟩] (none))
  (.block 0
    (.loop x_sleuthlaw01_short_l0)))
  (.seq (.region [
    ⟨some 2, .cp (.c (.s (.bool true))), none⟩] (none))
  .ret)))) }

def x_encoding_EncodeSpan : XF := { np := 1, results := [(.inl 2, .v)], body :=
  (.seq (.region [
    ⟨some 1, .box false (.t 0), none⟩,
    ⟨some 2, .cp (.c (.s (.string ⟨#[]⟩))), none⟩] (none))
  (.seq (.region [
    ⟨some 3, .alloc [.s (.slice none 0 0)], none⟩] (none))
  (.seq (.region [
    ⟨some 4, .load 14 true (.t 1), none⟩,
    ⟨some 5, .call false i_encoding_Writer_Span [(.t 3), (.t 4)], none⟩] (none))
  (.seq (.region [
    ⟨some 6, .call false i_encoding_Writer_Bytes [(.t 3)], none⟩,
    ⟨some 2, .cp (.t 6), none⟩] (none))
  .ret)))) }

def x_sleuthlaw01_shortSpans_l0 : XC :=
  (.seq (.seq (.region [
    ⟨some 4, .cp (.t 3), none⟩,
    ⟨some 5, .cp (.t 0), none⟩,
    ⟨some 6, .len false (.t 5), none⟩,
    ⟨some 7, .bin .lss (.t 4) (.t 6), none⟩] (none))
  (.cond (.t 7)
    .skip
    (.exit 0)))
  (.seq (.block 1
    (.seq (.region [
      ⟨some 10, .cp (.t 0), none⟩,
      ⟨some 11, .cp (.t 3), none⟩,
      ⟨some 12, .iaddr 14 (.t 10) (.t 11), none⟩,
      ⟨some 13, .load 14 true (.t 12), none⟩,
      ⟨some 14, .call false i_sleuthlaw01_short [(.t 13)], none⟩,
      ⟨some 15, .un .not (.t 14), none⟩] (none))
    (.cond (.t 15)
      (.seq (.region [
        ⟨some 2, .cp (.c (.s (.bool false))), none⟩] (none))
      .ret)
      .skip)))
  (.region [
    ⟨some 8, .cp (.t 3), none⟩,
    ⟨some 9, .bin .add (.t 8) (.c (.s (.int .i64 1))), none⟩,
    ⟨some 3, .cp (.t 9), none⟩] (none))))
def x_sleuthlaw01_shortSpans : XF := { np := 1, results := [(.inl 2, .v)], body :=
  (.seq (.region [
    ⟨some 2, .cp (.c (.s (.bool false))), none⟩] (none))
  (.seq (.seq (.region [
    ⟨some 3, .cp (.c (.s (.int .i64 0))), none⟩] (none))
  (.block 0
    (.loop x_sleuthlaw01_shortSpans_l0)))
  (.seq (.region [
    ⟨some 16, .cp (.t 0), none⟩,
    ⟨some 17, .len false (.t 16), none⟩,
    ⟨some 18, .bin .leq (.t 17) (.c (.s (.int .i64 4))), none⟩,
    ⟨some 2, .cp (.t 18), none⟩] (none))
  .ret))) }

def x_encoding_EncodeFragment : XF := { np := 1, results := [(.inl 2, .v)], body :=
  (.seq (.region [
    ⟨some 1, .box false (.t 0), none⟩,
    ⟨some 2, .cp (.c (.s (.string ⟨#[]⟩))), none⟩] (none))
  (.seq (.region [
    ⟨some 3, .alloc [.s (.slice none 0 0)], none⟩] (none))
  (.seq (.region [
    ⟨some 4, .faddr (.t 1) 0, none⟩,
    ⟨some 5, .load 1 false (.t 4), none⟩,
    ⟨some 6, .faddr (.t 1) 1, none⟩,
    ⟨some 7, .load 1 false (.t 6), none⟩,
    ⟨some 8, .bslice false 1 [(.t 5), (.t 7)], none⟩,
    ⟨some 9, .call false i_encoding_Writer_numbers [(.t 3), (.t 8)], none⟩] (none))
  (.seq (.region [
    ⟨some 10, .faddr (.t 1) 2, none⟩,
    ⟨some 11, .load 1 false (.t 10), none⟩,
    ⟨some 12, .mkfn false i_encoding_Writer_Span [(.t 3)] [], none⟩,
    ⟨some 13, .call false i_encoding_list_api_Span [(.t 3), (.t 11), (.t 12)], none⟩] (none))
  (.seq (.region [
    ⟨some 14, .faddr (.t 1) 3, none⟩,
    ⟨some 15, .load 1 false (.t 14), none⟩,
    ⟨some 16, .mkfn false i_encoding_Writer_Exchange [(.t 3)] [], none⟩,
    ⟨some 17, .call false i_encoding_list_api_Exchange [(.t 3), (.t 15), (.t 16)], none⟩] (none))
  (.seq (.region [
    ⟨some 18, .call false i_encoding_Writer_Bytes [(.t 3)], none⟩,
    ⟨some 2, .cp (.t 18), none⟩] (none))
  .ret)))))) }

def x_encoding_Writer_Bool : XF := { np := 2, results := [], body :=
  (.seq (.region [
    ⟨some 4, .cp (.c (.s (.int .i64 0))), none⟩] (none))
  (.seq (.seq (.region [
    ⟨some 5, .cp (.t 1), none⟩] (none))
  (.cond (.t 5)
    (.region [
      ⟨some 4, .cp (.c (.s (.int .i64 1))), none⟩] (none))
    .skip))
  (.region [
    ⟨some 6, .cp (.t 0), none⟩,
    ⟨some 7, .cp (.t 4), none⟩,
    ⟨some 8, .call false i_encoding_Writer_Number [(.t 6), (.t 7)], none⟩] (none)))) }

def x_encoding_Writer_Text : XF := { np := 2, results := [], body :=
  (.seq (.seq (.region [
    ⟨some 4, .cp (.t 0), none⟩,
    ⟨some 5, .eqv .p false (.t 4) (.c (.s (.pointer none))), none⟩] (none))
  (.cond (.t 5)
    .ret
    .skip))
  (.seq (.region [
    ⟨some 6, .cp (.t 0), none⟩,
    ⟨some 7, .cp (.t 1), none⟩,
    ⟨some 8, .len true (.t 7), none⟩,
    ⟨some 9, .call false i_encoding_Writer_Number [(.t 6), (.t 8)], none⟩] (none))
  (.region [
    ⟨some 10, .cp (.t 0), none⟩,
    ⟨some 11, .cp (.t 0), none⟩,
    ⟨some 12, .nilchk (.t 11), none⟩,
    ⟨some 13, .faddr (.t 12) 0, none⟩,
    ⟨some 14, .load 1 false (.t 13), none⟩,
    ⟨some 15, .cp (.t 1), none⟩,
    ⟨some 16, .append 1 140737488355328 (.t 14) (.t 15), none⟩,
    ⟨some 17, .nilchk (.t 10), none⟩,
    ⟨some 18, .faddr (.t 17) 0, none⟩,
    ⟨none, .store 1 (.t 18) (.t 16), none⟩] (none)))) }

def x_encoding_Writer_Span : XF := { np := 2, results := [], body :=
  (.seq (.region [
    ⟨some 3, .box false (.t 1), none⟩] (none))
  (.seq (.region [
    ⟨some 4, .cp (.t 0), none⟩,
    ⟨some 5, .faddr (.t 3) 0, none⟩,
    ⟨some 6, .load 1 false (.t 5), none⟩,
    ⟨some 7, .faddr (.t 3) 1, none⟩,
    ⟨some 8, .load 1 false (.t 7), none⟩,
    ⟨some 9, .faddr (.t 3) 2, none⟩,
    ⟨some 10, .load 1 false (.t 9), none⟩,
    ⟨some 11, .faddr (.t 3) 3, none⟩,
    ⟨some 12, .load 1 false (.t 11), none⟩,
    ⟨some 13, .faddr (.t 3) 4, none⟩,
    ⟨some 14, .load 1 false (.t 13), none⟩,
    ⟨some 15, .faddr (.t 3) 5, none⟩,
    ⟨some 16, .load 1 false (.t 15), none⟩,
    ⟨some 17, .bslice false 1 [(.t 6), (.t 8), (.t 10), (.t 12), (.t 14), (.t 16)], none⟩,
    ⟨some 18, .call false i_encoding_Writer_numbers [(.t 4), (.t 17)], none⟩] (none))
  (.seq (.region [
    ⟨some 19, .cp (.t 0), none⟩,
    ⟨some 20, .faddr (.t 3) 6, none⟩,
    ⟨some 21, .load 1 false (.t 20), none⟩,
    ⟨some 22, .call false i_encoding_Writer_Text [(.t 19), (.t 21)], none⟩] (none))
  (.seq (.region [
    ⟨some 23, .cp (.t 0), none⟩,
    ⟨some 24, .faddr (.t 3) 7, none⟩,
    ⟨some 25, .load 1 false (.t 24), none⟩,
    ⟨some 26, .call false i_encoding_Writer_Text [(.t 23), (.t 25)], none⟩] (none))
  (.seq (.region [
    ⟨some 27, .cp (.t 0), none⟩,
    ⟨some 28, .faddr (.t 3) 8, none⟩,
    ⟨some 29, .load 1 false (.t 28), none⟩,
    ⟨some 30, .call false i_encoding_Writer_Text [(.t 27), (.t 29)], none⟩] (none))
  (.seq (.region [
    ⟨some 31, .cp (.t 0), none⟩,
    ⟨some 32, .faddr (.t 3) 9, none⟩,
    ⟨some 33, .load 1 false (.t 32), none⟩,
    ⟨some 34, .faddr (.t 3) 10, none⟩,
    ⟨some 35, .load 1 false (.t 34), none⟩,
    ⟨some 36, .bslice false 1 [(.t 33), (.t 35)], none⟩,
    ⟨some 37, .call false i_encoding_Writer_numbers [(.t 31), (.t 36)], none⟩] (none))
  (.seq (.region [
    ⟨some 38, .cp (.t 0), none⟩,
    ⟨some 39, .faddr (.t 3) 11, none⟩,
    ⟨some 40, .load 1 false (.t 39), none⟩,
    ⟨some 41, .call false i_encoding_Writer_Bool [(.t 38), (.t 40)], none⟩] (none))
  (.seq (.region [
    ⟨some 42, .cp (.t 0), none⟩,
    ⟨some 43, .faddr (.t 3) 12, none⟩,
    ⟨some 44, .load 1 false (.t 43), none⟩,
    ⟨some 45, .cp (.t 0), none⟩,
    ⟨some 46, .mkfn false i_encoding_Writer_Attr [(.t 45)] [], none⟩,
    ⟨some 47, .call false i_encoding_list_api_Attr [(.t 42), (.t 44), (.t 46)], none⟩] (none))
  (.region [
    ⟨some 48, .cp (.t 0), none⟩,
    ⟨some 49, .faddr (.t 3) 13, none⟩,
    ⟨some 50, .load 1 false (.t 49), none⟩,
    ⟨some 51, .cp (.t 0), none⟩,
    ⟨some 52, .mkfn false i_encoding_Writer_Ref [(.t 51)] [], none⟩,
    ⟨some 53, .call false i_encoding_list_api_Ref [(.t 48), (.t 50), (.t 52)], none⟩] (none)))))))))) }

def x_encoding_Writer_Message : XF := { np := 2, results := [], body :=
  (.seq (.region [
    ⟨some 3, .box false (.t 1), none⟩] (none))
  (.seq (.region [
    ⟨some 4, .cp (.t 0), none⟩,
    ⟨some 5, .faddr (.t 3) 0, none⟩,
    ⟨some 6, .load 1 false (.t 5), none⟩,
    ⟨some 7, .call false i_encoding_Writer_Number [(.t 4), (.t 6)], none⟩] (none))
  (.seq (.region [
    ⟨some 8, .cp (.t 0), none⟩,
    ⟨some 9, .faddr (.t 3) 1, none⟩,
    ⟨some 10, .load 2 true (.t 9), none⟩,
    ⟨some 11, .call false i_encoding_Writer_Ref [(.t 8), (.t 10)], none⟩] (none))
  (.seq (.region [
    ⟨some 12, .cp (.t 0), none⟩,
    ⟨some 13, .faddr (.t 3) 3, none⟩,
    ⟨some 14, .load 2 true (.t 13), none⟩,
    ⟨some 15, .call false i_encoding_Writer_Ref [(.t 12), (.t 14)], none⟩] (none))
  (.region [
    ⟨some 16, .cp (.t 0), none⟩,
    ⟨some 17, .faddr (.t 3) 5, none⟩,
    ⟨some 18, .load 1 false (.t 17), none⟩,
    ⟨some 19, .faddr (.t 3) 6, none⟩,
    ⟨some 20, .load 1 false (.t 19), none⟩,
    ⟨some 21, .faddr (.t 3) 7, none⟩,
    ⟨some 22, .load 1 false (.t 21), none⟩,
    ⟨some 23, .faddr (.t 3) 8, none⟩,
    ⟨some 24, .load 1 false (.t 23), none⟩,
    ⟨some 25, .faddr (.t 3) 9, none⟩,
    ⟨some 26, .load 1 false (.t 25), none⟩,
    ⟨some 27, .bslice false 1 [(.t 18), (.t 20), (.t 22), (.t 24), (.t 26)], none⟩,
    ⟨some 28, .call false i_encoding_Writer_numbers [(.t 16), (.t 27)], none⟩] (none)))))) }

def x_encoding_Reader_Bool : XF := { np := 1, results := [(.inl 2, .v)], body :=
  (.seq (.region [
    ⟨some 2, .cp (.c (.s (.bool false))), none⟩] (none))
  (.seq (.seq (.region [
    ⟨some 6, .cp (.t 0), none⟩,
    ⟨some 7, .call false i_encoding_Reader_ok [(.t 6)], none⟩,
    ⟨some 8, .un .not (.t 7), none⟩] (none))
  (.cond (.t 8)
    (.seq (.region [
      ⟨some 2, .cp (.c (.s (.bool false))), none⟩] (none))
    .ret)
    .skip))
  (.seq (.region [
    ⟨some 10, .cp (.t 0), none⟩,
    ⟨some 11, .cp (.t 0), none⟩,
    ⟨some 12, .nilchk (.t 11), none⟩,
    ⟨some 13, .faddr (.t 12) 1, none⟩,
    ⟨some 14, .load 1 false (.t 13), none⟩,
    ⟨some 15, .call false i_encoding_Reader_number [(.t 10), (.t 14)], none⟩,
    ⟨some 9, .cp (.t 15), none⟩,
    ⟨some 16, .extract (.t 9) 0, none⟩,
    ⟨some 17, .extract (.t 9) 1, none⟩,
    ⟨some 18, .extract (.t 9) 2, none⟩,
    ⟨some 3, .cp (.t 16), none⟩,
    ⟨some 4, .cp (.t 17), none⟩,
    ⟨some 5, .cp (.t 18), none⟩] (none))
  (.seq (.seq (.region [
    ⟨some 19, .cp (.t 5), none⟩,
    ⟨some 20, .bin .eql (.t 19) (.c (.s (.int .i64 0))), none⟩,
    ⟨some 21, .cp (.t 20), none⟩,
    ⟨some 22, .cp (.t 3), some (21, true)⟩,
    ⟨some 23, .bin .neq (.t 22) (.c (.s (.int .i64 0))), some (21, true)⟩,
    ⟨some 24, .pick (.t 21) (.t 23) (.c (.s (.bool false))), none⟩,
    ⟨some 25, .cp (.t 24), none⟩,
    ⟨some 26, .cp (.t 3), some (25, true)⟩,
    ⟨some 27, .bin .neq (.t 26) (.c (.s (.int .i64 1))), some (25, true)⟩,
    ⟨some 28, .pick (.t 25) (.t 27) (.c (.s (.bool false))), none⟩] (none))
  (.cond (.t 28)
    (.region [
      ⟨some 5, .cp (.c (.s (.int .i64 3))), none⟩] (none))
    .skip))
  (.seq (.seq (.region [
    ⟨some 29, .cp (.t 5), none⟩,
    ⟨some 30, .bin .neq (.t 29) (.c (.s (.int .i64 0))), none⟩] (none))
  (.cond (.t 30)
    (.seq (.region [
      ⟨some 31, .cp (.t 0), none⟩,
      ⟨some 32, .cp (.t 5), none⟩,
      ⟨some 33, .call false i_encoding_Reader_fail [(.t 31), (.t 32)], none⟩] (none))
    (.seq (.region [
      ⟨some 2, .cp (.c (.s (.bool false))), none⟩] (none))
    .ret))
    .skip))
  (.seq (.region [
    ⟨some 34, .cp (.t 0), none⟩,
    ⟨some 35, .cp (.t 4), none⟩,
    ⟨some 36, .nilchk (.t 34), none⟩,
    ⟨some 37, .faddr (.t 36) 1, none⟩,
    ⟨none, .store 1 (.t 37) (.t 35), none⟩] (none))
  (.seq (.region [
    ⟨some 38, .cp (.t 3), none⟩,
    ⟨some 39, .bin .eql (.t 38) (.c (.s (.int .i64 1))), none⟩,
    ⟨some 2, .cp (.t 39), none⟩] (none))
  .ret))))))) }

def x_encoding_Reader_Text : XF := { np := 2, results := [(.inl 4, .v)], body :=
  (.seq (.region [
    ⟨some 4, .cp (.c (.s (.string ⟨#[]⟩))), none⟩] (none))
  (.seq (.seq (.region [
    ⟨some 8, .cp (.t 0), none⟩,
    ⟨some 9, .call false i_encoding_Reader_ok [(.t 8)], none⟩,
    ⟨some 10, .un .not (.t 9), none⟩] (none))
  (.cond (.t 10)
    (.seq (.region [
      ⟨some 4, .cp (.c (.s (.string ⟨#[]⟩))), none⟩] (none))
    .ret)
    .skip))
  (.seq (.region [
    ⟨some 12, .cp (.t 0), none⟩,
    ⟨some 13, .cp (.t 1), none⟩,
    ⟨some 14, .call false i_encoding_Reader_size [(.t 12), (.t 13), (.c (.s (.int .i64 5)))], none⟩,
    ⟨some 11, .cp (.t 14), none⟩,
    ⟨some 15, .extract (.t 11) 0, none⟩,
    ⟨some 16, .extract (.t 11) 1, none⟩,
    ⟨some 17, .extract (.t 11) 2, none⟩,
    ⟨some 5, .cp (.t 15), none⟩,
    ⟨some 6, .cp (.t 16), none⟩,
    ⟨some 7, .cp (.t 17), none⟩] (none))
  (.seq (.seq (.region [
    ⟨some 18, .cp (.t 7), none⟩,
    ⟨some 19, .un .not (.t 18), none⟩] (none))
  (.cond (.t 19)
    (.seq (.region [
      ⟨some 4, .cp (.c (.s (.string ⟨#[]⟩))), none⟩] (none))
    .ret)
    .skip))
  (.seq (.region [
    ⟨some 20, .cp (.t 0), none⟩,
    ⟨some 21, .cp (.t 6), none⟩,
    ⟨some 22, .cp (.t 5), none⟩,
    ⟨some 23, .bin .add (.t 21) (.t 22), none⟩,
    ⟨some 24, .nilchk (.t 20), none⟩,
    ⟨some 25, .faddr (.t 24) 1, none⟩,
    ⟨none, .store 1 (.t 25) (.t 23), none⟩] (none))
  (.seq (.region [
    ⟨some 26, .cp (.t 0), none⟩,
    ⟨some 27, .nilchk (.t 26), none⟩,
    ⟨some 28, .faddr (.t 27) 0, none⟩,
    ⟨some 29, .load 1 false (.t 28), none⟩,
    ⟨some 30, .cp (.t 6), none⟩,
    ⟨some 31, .cp (.t 0), none⟩,
    ⟨some 32, .nilchk (.t 31), none⟩,
    ⟨some 33, .faddr (.t 32) 1, none⟩,
    ⟨some 34, .load 1 false (.t 33), none⟩,
    ⟨some 35, .slStr (.t 29) (some (.t 30)) (some (.t 34)), none⟩,
    ⟨some 4, .cp (.t 35), none⟩] (some []))
  .ret)))))) }

def x_encoding_Reader_Count : XF := { np := 2, results := [(.inl 4, .v)], body :=
  (.seq (.region [
    ⟨some 4, .cp (.c (.s (.int .i64 0))), none⟩] (none))
  (.seq (.seq (.region [
    ⟨some 8, .cp (.t 0), none⟩,
    ⟨some 9, .call false i_encoding_Reader_ok [(.t 8)], none⟩,
    ⟨some 10, .un .not (.t 9), none⟩] (none))
  (.cond (.t 10)
    (.seq (.region [
      ⟨some 4, .cp (.c (.s (.int .i64 0))), none⟩] (none))
    .ret)
    .skip))
  (.seq (.region [
    ⟨some 12, .cp (.t 0), none⟩,
    ⟨some 13, .cp (.t 1), none⟩,
    ⟨some 14, .call false i_encoding_Reader_size [(.t 12), (.t 13), (.c (.s (.int .i64 6)))], none⟩,
    ⟨some 11, .cp (.t 14), none⟩,
    ⟨some 15, .extract (.t 11) 0, none⟩,
    ⟨some 16, .extract (.t 11) 1, none⟩,
    ⟨some 17, .extract (.t 11) 2, none⟩,
    ⟨some 5, .cp (.t 15), none⟩,
    ⟨some 6, .cp (.t 16), none⟩,
    ⟨some 7, .cp (.t 17), none⟩] (none))
  (.seq (.seq (.region [
    ⟨some 18, .cp (.t 7), none⟩] (none))
  (.cond (.t 18)
    (.region [
      ⟨some 19, .cp (.t 0), none⟩,
      ⟨some 20, .cp (.t 6), none⟩,
      ⟨some 21, .nilchk (.t 19), none⟩,
      ⟨some 22, .faddr (.t 21) 1, none⟩,
      ⟨none, .store 1 (.t 22) (.t 20), none⟩] (none))
    .skip))
  (.seq (.region [
    ⟨some 23, .cp (.t 5), none⟩,
    ⟨some 4, .cp (.t 23), none⟩] (none))
  .ret))))) }

def x_encoding_Reader_Value : XF := { np := 1, results := [(.inr (2, 3, true), .v)], body :=
  (.seq (.region [
    ⟨some 2, .alloc [.s (.int .i64 0), .s (.string ⟨#[]⟩), .s (.int .i64 0)], none⟩] (none))
  (.seq (.region [
    ⟨some 5, .cp (.t 0), none⟩,
    ⟨some 6, .call false i_encoding_Reader_Number [(.t 5)], none⟩,
    ⟨some 3, .cp (.t 6), none⟩] (none))
  (.seq (.region [
    ⟨some 7, .cp (.t 0), none⟩,
    ⟨some 8, .call false i_encoding_Reader_Text [(.t 7), (.c (.s (.int .i64 4096)))], none⟩,
    ⟨some 4, .cp (.t 8), none⟩] (none))
  (.seq (.region [
    ⟨some 9, .cp (.t 0), none⟩,
    ⟨some 10, .cp (.t 3), none⟩,
    ⟨some 11, .cp (.t 4), none⟩,
    ⟨some 12, .cp (.t 0), none⟩,
    ⟨some 13, .call false i_encoding_Reader_Number [(.t 12)], none⟩,
    ⟨some 14, .build false [.s (.int .i64 0), .s (.string ⟨#[]⟩), .s (.int .i64 0)] [(0, 1, (.t 10)), (1, 1, (.t 11)), (2, 1, (.t 13))], none⟩,
    ⟨some 15, .call false i_encoding_read_api_Value [(.t 9), (.t 14)], none⟩,
    ⟨none, .store 3 (.t 2) (.t 15), none⟩] (none))
  .ret)))) }

def x_encoding_Reader_Attr : XF := { np := 1, results := [(.inr (2, 4, true), .v)], body :=
  (.seq (.region [
    ⟨some 2, .alloc [.s (.string ⟨#[]⟩), .s (.int .i64 0), .s (.string ⟨#[]⟩), .s (.int .i64 0)], none⟩] (none))
  (.seq (.region [
    ⟨some 4, .cp (.t 0), none⟩,
    ⟨some 5, .call false i_encoding_Reader_Text [(.t 4), (.c (.s (.int .i64 4096)))], none⟩,
    ⟨some 3, .cp (.t 5), none⟩] (none))
  (.seq (.region [
    ⟨some 6, .cp (.t 0), none⟩,
    ⟨some 7, .cp (.t 3), none⟩,
    ⟨some 8, .cp (.t 0), none⟩,
    ⟨some 9, .call false i_encoding_Reader_Value [(.t 8)], none⟩,
    ⟨some 10, .build false [.s (.string ⟨#[]⟩), .s (.int .i64 0), .s (.string ⟨#[]⟩), .s (.int .i64 0)] [(0, 1, (.t 7)), (1, 3, (.t 9))], none⟩,
    ⟨some 11, .call false i_encoding_read_api_Attr [(.t 6), (.t 10)], none⟩,
    ⟨none, .store 4 (.t 2) (.t 11), none⟩] (none))
  .ret))) }

def x_encoding_Reader_Ref : XF := { np := 1, results := [(.inr (2, 2, true), .v)], body :=
  (.seq (.region [
    ⟨some 2, .alloc [.s (.int .i64 0), .s (.int .i64 0)], none⟩] (none))
  (.seq (.region [
    ⟨some 4, .cp (.t 0), none⟩,
    ⟨some 5, .call false i_encoding_Reader_Number [(.t 4)], none⟩,
    ⟨some 3, .cp (.t 5), none⟩] (none))
  (.seq (.region [
    ⟨some 6, .cp (.t 0), none⟩,
    ⟨some 7, .cp (.t 3), none⟩,
    ⟨some 8, .cp (.t 0), none⟩,
    ⟨some 9, .call false i_encoding_Reader_Number [(.t 8)], none⟩,
    ⟨some 10, .build false [.s (.int .i64 0), .s (.int .i64 0)] [(0, 1, (.t 7)), (1, 1, (.t 9))], none⟩,
    ⟨some 11, .call false i_encoding_read_api_Ref [(.t 6), (.t 10)], none⟩,
    ⟨none, .store 2 (.t 2) (.t 11), none⟩] (none))
  .ret))) }

def x_encoding_Reader_Exchange : XF := { np := 1, results := [(.inr (2, 5, true), .v)], body :=
  (.seq (.region [
    ⟨some 2, .alloc [.s (.int .i64 0), .s (.int .i64 0), .s (.int .i64 0), .s (.int .i64 0), .s (.int .i64 0)], none⟩] (none))
  (.seq (.region [
    ⟨some 3, .alloc [.s (.int .i64 0), .s (.int .i64 0), .s (.int .i64 0), .s (.int .i64 0), .s (.int .i64 0)], none⟩] (none))
  (.seq (.region [
    ⟨some 4, .cp (.t 0), none⟩,
    ⟨some 5, .faddr (.t 3) 0, none⟩,
    ⟨some 6, .faddr (.t 3) 1, none⟩,
    ⟨some 7, .faddr (.t 3) 2, none⟩,
    ⟨some 8, .faddr (.t 3) 3, none⟩,
    ⟨some 9, .faddr (.t 3) 4, none⟩,
    ⟨some 10, .bslice true 1 [(.t 5), (.t 6), (.t 7), (.t 8), (.t 9)], none⟩,
    ⟨some 11, .call false i_encoding_Reader_numbers [(.t 4), (.t 10)], none⟩] (none))
  (.seq (.region [
    ⟨some 12, .cp (.t 0), none⟩,
    ⟨some 13, .load 5 true (.t 3), none⟩,
    ⟨some 14, .call false i_encoding_read_api_Exchange [(.t 12), (.t 13)], none⟩,
    ⟨none, .store 5 (.t 2) (.t 14), none⟩] (none))
  .ret)))) }

def x_encoding_Reader_Message : XF := { np := 1, results := [(.inr (2, 10, true), .v)], body :=
  (.seq (.region [
    ⟨some 2, .alloc [.s (.int .i64 0), .s (.int .i64 0), .s (.int .i64 0), .s (.int .i64 0), .s (.int .i64 0), .s (.int .i64 0), .s (.int .i64 0), .s (.int .i64 0), .s (.int .i64 0), .s (.int .i64 0)], none⟩] (none))
  (.seq (.region [
    ⟨some 3, .alloc [.s (.int .i64 0), .s (.int .i64 0), .s (.int .i64 0), .s (.int .i64 0), .s (.int .i64 0), .s (.int .i64 0), .s (.int .i64 0), .s (.int .i64 0), .s (.int .i64 0), .s (.int .i64 0)], none⟩] (none))
  (.seq (.region [
    ⟨some 4, .cp (.t 0), none⟩,
    ⟨some 5, .call false i_encoding_Reader_Number [(.t 4)], none⟩,
    ⟨some 6, .faddr (.t 3) 0, none⟩,
    ⟨none, .store 1 (.t 6) (.t 5), none⟩] (none))
  (.seq (.region [
    ⟨some 7, .cp (.t 0), none⟩,
    ⟨some 8, .call false i_encoding_Reader_Ref [(.t 7)], none⟩,
    ⟨some 9, .faddr (.t 3) 1, none⟩,
    ⟨none, .store 2 (.t 9) (.t 8), none⟩] (none))
  (.seq (.region [
    ⟨some 10, .cp (.t 0), none⟩,
    ⟨some 11, .call false i_encoding_Reader_Ref [(.t 10)], none⟩,
    ⟨some 12, .faddr (.t 3) 3, none⟩,
    ⟨none, .store 2 (.t 12) (.t 11), none⟩] (none))
  (.seq (.region [
    ⟨some 13, .cp (.t 0), none⟩,
    ⟨some 14, .faddr (.t 3) 5, none⟩,
    ⟨some 15, .faddr (.t 3) 6, none⟩,
    ⟨some 16, .faddr (.t 3) 7, none⟩,
    ⟨some 17, .faddr (.t 3) 8, none⟩,
    ⟨some 18, .faddr (.t 3) 9, none⟩,
    ⟨some 19, .bslice true 1 [(.t 14), (.t 15), (.t 16), (.t 17), (.t 18)], none⟩,
    ⟨some 20, .call false i_encoding_Reader_numbers [(.t 13), (.t 19)], none⟩] (none))
  (.seq (.region [
    ⟨some 21, .cp (.t 0), none⟩,
    ⟨some 22, .load 10 true (.t 3), none⟩,
    ⟨some 23, .call false i_encoding_read_api_Message [(.t 21), (.t 22)], none⟩,
    ⟨none, .store 10 (.t 2) (.t 23), none⟩] (none))
  .ret))))))) }

def x_encoding_Reader_Span : XF := { np := 1, results := [(.inr (2, 14, true), .v)], body :=
  (.seq (.region [
    ⟨some 2, .alloc [.s (.int .i64 0), .s (.int .i64 0), .s (.int .i64 0), .s (.int .i64 0), .s (.int .i64 0), .s (.int .i64 0), .s (.string ⟨#[]⟩), .s (.string ⟨#[]⟩), .s (.string ⟨#[]⟩), .s (.int .i64 0), .s (.int .i64 0), .s (.bool false), .s (.slice none 0 0), .s (.slice none 0 0)], none⟩] (none))
  (.seq (.region [
    ⟨some 3, .alloc [.s (.int .i64 0), .s (.int .i64 0), .s (.int .i64 0), .s (.int .i64 0), .s (.int .i64 0), .s (.int .i64 0), .s (.string ⟨#[]⟩), .s (.string ⟨#[]⟩), .s (.string ⟨#[]⟩), .s (.int .i64 0), .s (.int .i64 0), .s (.bool false), .s (.slice none 0 0), .s (.slice none 0 0)], none⟩] (none))
  (.seq (.region [
    ⟨some 4, .cp (.t 0), none⟩,
    ⟨some 5, .faddr (.t 3) 0, none⟩,
    ⟨some 6, .faddr (.t 3) 1, none⟩,
    ⟨some 7, .faddr (.t 3) 2, none⟩,
    ⟨some 8, .faddr (.t 3) 3, none⟩,
    ⟨some 9, .faddr (.t 3) 4, none⟩,
    ⟨some 10, .faddr (.t 3) 5, none⟩,
    ⟨some 11, .bslice true 1 [(.t 5), (.t 6), (.t 7), (.t 8), (.t 9), (.t 10)], none⟩,
    ⟨some 12, .call false i_encoding_Reader_numbers [(.t 4), (.t 11)], none⟩] (none))
  (.seq (.region [
    ⟨some 13, .cp (.t 0), none⟩,
    ⟨some 14, .call false i_encoding_Reader_Text [(.t 13), (.c (.s (.int .i64 4096)))], none⟩,
    ⟨some 15, .faddr (.t 3) 6, none⟩,
    ⟨none, .store 1 (.t 15) (.t 14), none⟩] (none))
  (.seq (.region [
    ⟨some 16, .cp (.t 0), none⟩,
    ⟨some 17, .call false i_encoding_Reader_Text [(.t 16), (.c (.s (.int .i64 4096)))], none⟩,
    ⟨some 18, .faddr (.t 3) 7, none⟩,
    ⟨none, .store 1 (.t 18) (.t 17), none⟩] (none))
  (.seq (.region [
    ⟨some 19, .cp (.t 0), none⟩,
    ⟨some 20, .call false i_encoding_Reader_Text [(.t 19), (.c (.s (.int .i64 4096)))], none⟩,
    ⟨some 21, .faddr (.t 3) 8, none⟩,
    ⟨none, .store 1 (.t 21) (.t 20), none⟩] (none))
  (.seq (.region [
    ⟨some 22, .cp (.t 0), none⟩,
    ⟨some 23, .faddr (.t 3) 9, none⟩,
    ⟨some 24, .faddr (.t 3) 10, none⟩,
    ⟨some 25, .bslice true 1 [(.t 23), (.t 24)], none⟩,
    ⟨some 26, .call false i_encoding_Reader_numbers [(.t 22), (.t 25)], none⟩] (none))
  (.seq (.region [
    ⟨some 27, .cp (.t 0), none⟩,
    ⟨some 28, .call false i_encoding_Reader_Bool [(.t 27)], none⟩,
    ⟨some 29, .faddr (.t 3) 11, none⟩,
    ⟨none, .store 1 (.t 29) (.t 28), none⟩] (none))
  (.seq (.region [
    ⟨some 30, .cp (.t 0), none⟩,
    ⟨some 31, .cp (.t 0), none⟩,
    ⟨some 32, .mkfn false i_encoding_Reader_Attr [(.t 31)] [], none⟩,
    ⟨some 33, .call false i_encoding_elements_api_Attr [(.t 30), (.t 32)], none⟩,
    ⟨some 34, .faddr (.t 3) 12, none⟩,
    ⟨none, .store 1 (.t 34) (.t 33), none⟩] (none))
  (.seq (.region [
    ⟨some 35, .cp (.t 0), none⟩,
    ⟨some 36, .cp (.t 0), none⟩,
    ⟨some 37, .mkfn false i_encoding_Reader_Ref [(.t 36)] [], none⟩,
    ⟨some 38, .call false i_encoding_elements_api_Ref [(.t 35), (.t 37)], none⟩,
    ⟨some 39, .faddr (.t 3) 13, none⟩,
    ⟨none, .store 1 (.t 39) (.t 38), none⟩] (none))
  (.seq (.region [
    ⟨some 40, .cp (.t 0), none⟩,
    ⟨some 41, .load 14 true (.t 3), none⟩,
    ⟨some 42, .call false i_encoding_read_api_Span [(.t 40), (.t 41)], none⟩,
    ⟨none, .store 14 (.t 2) (.t 42), none⟩] (none))
  .ret))))))))))) }

def x_encoding_EncodeTrace : XF := { np := 1, results := [(.inl 2, .v)], body :=
  (.seq (.region [
    ⟨some 1, .box false (.t 0), none⟩,
    ⟨some 2, .cp (.c (.s (.string ⟨#[]⟩))), none⟩] (none))
  (.seq (.region [
    ⟨some 3, .alloc [.s (.slice none 0 0)], none⟩] (none))
  (.seq (.region [
    ⟨some 4, .faddr (.t 1) 0, none⟩,
    ⟨some 5, .load 1 false (.t 4), none⟩,
    ⟨some 6, .faddr (.t 1) 1, none⟩,
    ⟨some 7, .load 1 false (.t 6), none⟩,
    ⟨some 8, .bslice false 1 [(.t 5), (.t 7)], none⟩,
    ⟨some 9, .call false i_encoding_Writer_numbers [(.t 3), (.t 8)], none⟩] (none))
  (.seq (.region [
    ⟨some 10, .faddr (.t 1) 2, none⟩,
    ⟨some 11, .load 1 false (.t 10), none⟩,
    ⟨some 12, .mkfn false i_encoding_Writer_Span [(.t 3)] [], none⟩,
    ⟨some 13, .call false i_encoding_list_api_Span [(.t 3), (.t 11), (.t 12)], none⟩] (none))
  (.seq (.region [
    ⟨some 14, .call false i_encoding_Writer_Bytes [(.t 3)], none⟩,
    ⟨some 2, .cp (.t 14), none⟩] (none))
  .ret))))) }

def x_encoding_magnitude : XF := { np := 1, results := [(.inl 2, .v)], body :=
  (.seq (.region [
    ⟨some 2, .cp (.c (.s (.int .u64 0))), none⟩] (none))
  (.seq (.seq (.region [
    ⟨some 3, .cp (.t 0), none⟩,
    ⟨some 4, .bin .lss (.t 3) (.c (.s (.int .i64 0))), none⟩] (none))
  (.cond (.t 4)
    (.seq (.region [
      ⟨some 5, .cp (.t 0), none⟩,
      ⟨some 6, .conv .u64 (.t 5), none⟩,
      ⟨some 7, .un .neg (.t 6), none⟩,
      ⟨some 2, .cp (.t 7), none⟩] (none))
    .ret)
    .skip))
  (.seq (.region [
    ⟨some 8, .cp (.t 0), none⟩,
    ⟨some 9, .conv .u64 (.t 8), none⟩,
    ⟨some 2, .cp (.t 9), none⟩] (none))
  .ret))) }

def x_encoding_Writer_Attr : XF := { np := 2, results := [], body :=
  (.seq (.region [
    ⟨some 3, .box false (.t 1), none⟩] (none))
  (.seq (.region [
    ⟨some 4, .cp (.t 0), none⟩,
    ⟨some 5, .faddr (.t 3) 0, none⟩,
    ⟨some 6, .load 1 false (.t 5), none⟩,
    ⟨some 7, .call false i_encoding_Writer_Text [(.t 4), (.t 6)], none⟩] (none))
  (.region [
    ⟨some 8, .cp (.t 0), none⟩,
    ⟨some 9, .faddr (.t 3) 1, none⟩,
    ⟨some 10, .load 3 true (.t 9), none⟩,
    ⟨some 11, .call false i_encoding_Writer_Value [(.t 8), (.t 10)], none⟩] (none)))) }

def x_sleuthref01_magnitude : XF := { np := 1, results := [(.inl 2, .v)], body :=
  (.seq (.region [
    ⟨some 2, .cp (.c (.s (.int .u64 0))), none⟩] (none))
  (.seq (.seq (.region [
    ⟨some 3, .cp (.t 0), none⟩,
    ⟨some 4, .bin .lss (.t 3) (.c (.s (.int .i64 0))), none⟩] (none))
  (.cond (.t 4)
    (.seq (.region [
      ⟨some 5, .cp (.t 0), none⟩,
      ⟨some 6, .bin .add (.t 5) (.c (.s (.int .i64 1))), none⟩,
      ⟨some 7, .bin .sub (.c (.s (.int .i64 0))) (.t 6), none⟩,
      ⟨some 8, .conv .u64 (.t 7), none⟩,
      ⟨some 9, .bin .add (.t 8) (.c (.s (.int .u64 1))), none⟩,
      ⟨some 2, .cp (.t 9), none⟩] (none))
    .ret)
    .skip))
  (.seq (.region [
    ⟨some 10, .cp (.t 0), none⟩,
    ⟨some 11, .conv .u64 (.t 10), none⟩,
    ⟨some 2, .cp (.t 11), none⟩] (none))
  .ret))) }

def x_encoding_Reader_ok : XF := { np := 1, results := [(.inl 2, .v)], body :=
  (.seq (.region [
    ⟨some 2, .cp (.c (.s (.bool false))), none⟩] (none))
  (.seq (.region [
    ⟨some 3, .cp (.t 0), none⟩,
    ⟨some 4, .eqv .p true (.t 3) (.c (.s (.pointer none))), none⟩,
    ⟨some 5, .cp (.t 4), none⟩,
    ⟨some 6, .cp (.t 0), some (5, true)⟩,
    ⟨some 7, .nilchk (.t 6), some (5, true)⟩,
    ⟨some 8, .faddr (.t 7) 2, some (5, true)⟩,
    ⟨some 9, .load 1 false (.t 8), some (5, true)⟩,
    ⟨some 10, .bin .eql (.t 9) (.c (.s (.int .i64 0))), some (5, true)⟩,
    ⟨some 11, .pick (.t 5) (.t 10) (.c (.s (.bool false))), none⟩,
    ⟨some 2, .cp (.t 11), none⟩] (none))
  .ret)) }

def x_encoding_Reader_number_l0 : XC :=
  (.seq (.region [
    ⟨some 48, .bin .lss (.t 47) (.t 46), none⟩] (none))
  (.seq (.cond (.t 48)
    .skip
    (.exit 0))
  (.seq (.block 1
    (.seq (.region [
      ⟨some 49, .cp (.t 47), none⟩,
      ⟨some 11, .cp (.t 49), none⟩] (none))
    (.seq (.region [
      ⟨some 50, .cp (.t 0), none⟩,
      ⟨some 51, .nilchk (.t 50), none⟩,
      ⟨some 52, .faddr (.t 51) 0, none⟩,
      ⟨some 53, .load 1 false (.t 52), none⟩,
      ⟨some 54, .cp (.t 1), none⟩,
      ⟨some 55, .cp (.t 11), none⟩,
      ⟨some 56, .bin .add (.t 54) (.t 55), none⟩,
      ⟨some 57, .idxS (.t 53) (.t 56), none⟩,
      ⟨some 58, .cp (.t 9), none⟩,
      ⟨some 59, .bin .xor (.t 57) (.t 58), none⟩,
      ⟨some 12, .cp (.t 59), none⟩] (none))
    (.seq (.seq (.region [
      ⟨some 60, .cp (.t 11), none⟩,
      ⟨some 61, .bin .eql (.t 60) (.c (.s (.int .i64 0))), none⟩,
      ⟨some 62, .cp (.t 61), none⟩,
      ⟨some 63, .cp (.t 12), some (62, true)⟩,
      ⟨some 64, .bin .eql (.t 63) (.c (.s (.int .u8 0))), some (62, true)⟩,
      ⟨some 65, .pick (.t 62) (.t 64) (.c (.s (.bool false))), none⟩] (none))
    (.cond (.t 65)
      (.seq (.region [
        ⟨some 4, .cp (.c (.s (.int .i64 0))), none⟩,
        ⟨some 5, .cp (.c (.s (.int .i64 0))), none⟩,
        ⟨some 6, .cp (.c (.s (.int .i64 3))), none⟩] (none))
      .ret)
      .skip))
    (.region [
      ⟨some 66, .cp (.t 10), none⟩,
      ⟨some 67, .bin .shl (.t 66) (.c (.s (.int .u64 8))), none⟩,
      ⟨some 68, .cp (.t 12), none⟩,
      ⟨some 69, .conv .u64 (.t 68), none⟩,
      ⟨some 70, .bin .or (.t 67) (.t 69), none⟩,
      ⟨some 10, .cp (.t 70), none⟩] (none))))))
  (.region [
    ⟨some 71, .bin .add (.t 47) (.c (.s (.int .i64 1))), none⟩,
    ⟨some 47, .cp (.t 71), none⟩] (none)))))
def x_encoding_Reader_number : XF := { np := 2, results := [(.inl 4, .v), (.inl 5, .v), (.inl 6, .v)], body :=
  (.seq (.region [
    ⟨some 4, .cp (.c (.s (.int .i64 0))), none⟩,
    ⟨some 5, .cp (.c (.s (.int .i64 0))), none⟩,
    ⟨some 6, .cp (.c (.s (.int .i64 0))), none⟩] (none))
  (.seq (.seq (.region [
    ⟨some 13, .cp (.t 1), none⟩,
    ⟨some 14, .cp (.t 0), none⟩,
    ⟨some 15, .nilchk (.t 14), none⟩,
    ⟨some 16, .faddr (.t 15) 0, none⟩,
    ⟨some 17, .load 1 false (.t 16), none⟩,
    ⟨some 18, .len true (.t 17), none⟩,
    ⟨some 19, .bin .geq (.t 13) (.t 18), none⟩] (none))
  (.cond (.t 19)
    (.seq (.region [
      ⟨some 4, .cp (.c (.s (.int .i64 0))), none⟩,
      ⟨some 5, .cp (.c (.s (.int .i64 0))), none⟩,
      ⟨some 6, .cp (.c (.s (.int .i64 4))), none⟩] (none))
    .ret)
    .skip))
  (.seq (.region [
    ⟨some 20, .cp (.t 0), none⟩,
    ⟨some 21, .nilchk (.t 20), none⟩,
    ⟨some 22, .faddr (.t 21) 0, none⟩,
    ⟨some 23, .load 1 false (.t 22), none⟩,
    ⟨some 24, .cp (.t 1), none⟩,
    ⟨some 25, .idxS (.t 23) (.t 24), none⟩,
    ⟨some 26, .conv .i64 (.t 25), none⟩,
    ⟨some 27, .bin .sub (.t 26) (.c (.s (.int .i64 128))), none⟩,
    ⟨some 7, .cp (.t 27), none⟩,
    ⟨some 8, .cp (.c (.s (.bool false))), none⟩] (none))
  (.seq (.seq (.region [
    ⟨some 28, .cp (.t 7), none⟩,
    ⟨some 29, .bin .lss (.t 28) (.c (.s (.int .i64 0))), none⟩] (none))
  (.cond (.t 29)
    (.region [
      ⟨some 30, .cp (.t 7), none⟩,
      ⟨some 31, .un .neg (.t 30), none⟩,
      ⟨some 7, .cp (.t 31), none⟩,
      ⟨some 8, .cp (.c (.s (.bool true))), none⟩] (none))
    .skip))
  (.seq (.seq (.region [
    ⟨some 32, .cp (.t 7), none⟩,
    ⟨some 33, .bin .gtr (.t 32) (.c (.s (.int .i64 8))), none⟩] (none))
  (.cond (.t 33)
    (.seq (.region [
      ⟨some 4, .cp (.c (.s (.int .i64 0))), none⟩,
      ⟨some 5, .cp (.c (.s (.int .i64 0))), none⟩,
      ⟨some 6, .cp (.c (.s (.int .i64 3))), none⟩] (none))
    .ret)
    .skip))
  (.seq (.region [
    ⟨some 34, .cp (.t 1), none⟩,
    ⟨some 35, .bin .add (.t 34) (.c (.s (.int .i64 1))), none⟩,
    ⟨some 1, .cp (.t 35), none⟩] (none))
  (.seq (.seq (.region [
    ⟨some 36, .cp (.t 0), none⟩,
    ⟨some 37, .nilchk (.t 36), none⟩,
    ⟨some 38, .faddr (.t 37) 0, none⟩,
    ⟨some 39, .load 1 false (.t 38), none⟩,
    ⟨some 40, .len true (.t 39), none⟩,
    ⟨some 41, .cp (.t 1), none⟩,
    ⟨some 42, .bin .sub (.t 40) (.t 41), none⟩,
    ⟨some 43, .cp (.t 7), none⟩,
    ⟨some 44, .bin .lss (.t 42) (.t 43), none⟩] (none))
  (.cond (.t 44)
    (.seq (.region [
      ⟨some 4, .cp (.c (.s (.int .i64 0))), none⟩,
      ⟨some 5, .cp (.c (.s (.int .i64 0))), none⟩,
      ⟨some 6, .cp (.c (.s (.int .i64 4))), none⟩] (none))
    .ret)
    .skip))
  (.seq (.region [
    ⟨some 9, .cp (.c (.s (.int .u8 0))), none⟩] (none))
  (.seq (.seq (.region [
    ⟨some 45, .cp (.t 8), none⟩] (none))
  (.cond (.t 45)
    (.region [
      ⟨some 9, .cp (.c (.s (.int .u8 255))), none⟩] (none))
    .skip))
  (.seq (.region [
    ⟨some 10, .cp (.c (.s (.int .u64 0))), none⟩] (none))
  (.seq (.seq (.region [
    ⟨some 46, .cp (.t 7), none⟩,
    ⟨some 47, .cp (.c (.s (.int .i64 0))), none⟩] (none))
  (.block 0
    (.loop x_encoding_Reader_number_l0)))
  (.seq (.block 2
    (.seq (.seq (.region [
      ⟨some 73, .cp (.t 8), none⟩,
      ⟨some 74, .un .not (.t 73), none⟩,
      ⟨some 75, .cp (.t 74), none⟩,
      ⟨some 76, .cp (.t 10), some (75, true)⟩,
      ⟨some 77, .bin .gtr (.t 76) (.c (.s (.int .u64 9223372036854775807))), some (75, true)⟩,
      ⟨some 78, .pick (.t 75) (.t 77) (.c (.s (.bool false))), none⟩,
      ⟨some 72, .cp (.t 78), none⟩] (none))
    (.cond (.t 72)
      .skip
      (.region [
        ⟨some 79, .cp (.t 10), none⟩,
        ⟨some 80, .bin .gtr (.t 79) (.c (.s (.int .u64 9223372036854775808))), none⟩,
        ⟨some 72, .cp (.t 80), none⟩] (none))))
    (.cond (.t 72)
      (.seq (.region [
        ⟨some 4, .cp (.c (.s (.int .i64 0))), none⟩,
        ⟨some 5, .cp (.c (.s (.int .i64 0))), none⟩,
        ⟨some 6, .cp (.c (.s (.int .i64 3))), none⟩] (none))
      .ret)
      (.seq (.region [
        ⟨some 82, .cp (.t 8), none⟩,
        ⟨some 81, .cp (.t 82), none⟩] (none))
      (.cond (.t 81)
        (.seq (.region [
          ⟨some 83, .cp (.t 10), none⟩,
          ⟨some 84, .un .neg (.t 83), none⟩,
          ⟨some 85, .conv .i64 (.t 84), none⟩,
          ⟨some 86, .cp (.t 1), none⟩,
          ⟨some 87, .cp (.t 7), none⟩,
          ⟨some 88, .bin .add (.t 86) (.t 87), none⟩,
          ⟨some 4, .cp (.t 85), none⟩,
          ⟨some 5, .cp (.t 88), none⟩,
          ⟨some 6, .cp (.c (.s (.int .i64 0))), none⟩] (none))
        .ret)
        .skip)))))
  (.seq (.region [
    ⟨some 89, .cp (.t 10), none⟩,
    ⟨some 90, .conv .i64 (.t 89), none⟩,
    ⟨some 91, .cp (.t 1), none⟩,
    ⟨some 92, .cp (.t 7), none⟩,
    ⟨some 93, .bin .add (.t 91) (.t 92), none⟩,
    ⟨some 4, .cp (.t 90), none⟩,
    ⟨some 5, .cp (.t 93), none⟩,
    ⟨some 6, .cp (.c (.s (.int .i64 0))), none⟩] (none))
  .ret))))))))))))) }

def x_encoding_Reader_fail : XF := { np := 2, results := [], body :=
  (.seq (.region [
    ⟨some 4, .cp (.t 0), none⟩,
    ⟨some 5, .nilchk (.t 4), none⟩,
    ⟨some 6, .faddr (.t 5) 2, none⟩,
    ⟨some 7, .load 1 false (.t 6), none⟩,
    ⟨some 8, .bin .eql (.t 7) (.c (.s (.int .i64 0))), none⟩] (none))
  (.cond (.t 8)
    (.region [
      ⟨some 9, .cp (.t 0), none⟩,
      ⟨some 10, .cp (.t 1), none⟩,
      ⟨some 11, .nilchk (.t 9), none⟩,
      ⟨some 12, .faddr (.t 11) 2, none⟩,
      ⟨none, .store 1 (.t 12) (.t 10), none⟩] (none))
    .skip)) }

def x_sleuthref01_Bool : XF := { np := 1, results := [(.inl 2, .v)], body :=
  (.seq (.region [
    ⟨some 2, .cp (.c (.s (.string ⟨#[]⟩))), none⟩] (none))
  (.seq (.seq (.region [
    ⟨some 3, .cp (.t 0), none⟩] (none))
  (.cond (.t 3)
    (.seq (.region [
      ⟨some 4, .call false i_sleuthref01_Number [(.c (.s (.int .i64 1)))], none⟩,
      ⟨some 2, .cp (.t 4), none⟩] (none))
    .ret)
    .skip))
  (.seq (.region [
    ⟨some 5, .call false i_sleuthref01_Number [(.c (.s (.int .i64 0)))], none⟩,
    ⟨some 2, .cp (.t 5), none⟩] (none))
  .ret))) }

def x_sleuthref01_Text : XF := { np := 1, results := [(.inl 2, .v)], body :=
  (.seq (.region [
    ⟨some 2, .cp (.c (.s (.string ⟨#[]⟩))), none⟩] (none))
  (.seq (.region [
    ⟨some 3, .cp (.t 0), none⟩,
    ⟨some 4, .len true (.t 3), none⟩,
    ⟨some 5, .call false i_sleuthref01_Number [(.t 4)], none⟩,
    ⟨some 6, .cp (.t 0), none⟩,
    ⟨some 7, .bin .add (.t 5) (.t 6), none⟩,
    ⟨some 2, .cp (.t 7), none⟩] (none))
  .ret)) }

def x_encoding_Writer_Value : XF := { np := 2, results := [], body :=
  (.seq (.region [
    ⟨some 3, .box false (.t 1), none⟩] (none))
  (.seq (.region [
    ⟨some 4, .cp (.t 0), none⟩,
    ⟨some 5, .faddr (.t 3) 0, none⟩,
    ⟨some 6, .load 1 false (.t 5), none⟩,
    ⟨some 7, .call false i_encoding_Writer_Number [(.t 4), (.t 6)], none⟩] (none))
  (.seq (.region [
    ⟨some 8, .cp (.t 0), none⟩,
    ⟨some 9, .faddr (.t 3) 1, none⟩,
    ⟨some 10, .load 1 false (.t 9), none⟩,
    ⟨some 11, .call false i_encoding_Writer_Text [(.t 8), (.t 10)], none⟩] (none))
  (.region [
    ⟨some 12, .cp (.t 0), none⟩,
    ⟨some 13, .faddr (.t 3) 2, none⟩,
    ⟨some 14, .load 1 false (.t 13), none⟩,
    ⟨some 15, .call false i_encoding_Writer_Number [(.t 12), (.t 14)], none⟩] (none))))) }

def x_sleuthref01_Value : XF := { np := 1, results := [(.inl 2, .v)], body :=
  (.seq (.region [
    ⟨some 1, .box false (.t 0), none⟩,
    ⟨some 2, .cp (.c (.s (.string ⟨#[]⟩))), none⟩] (none))
  (.seq (.region [
    ⟨some 3, .faddr (.t 1) 0, none⟩,
    ⟨some 4, .load 1 false (.t 3), none⟩,
    ⟨some 5, .call false i_sleuthref01_Number [(.t 4)], none⟩,
    ⟨some 6, .faddr (.t 1) 1, none⟩,
    ⟨some 7, .load 1 false (.t 6), none⟩,
    ⟨some 8, .call false i_sleuthref01_Text [(.t 7)], none⟩,
    ⟨some 9, .bin .add (.t 5) (.t 8), none⟩,
    ⟨some 10, .faddr (.t 1) 2, none⟩,
    ⟨some 11, .load 1 false (.t 10), none⟩,
    ⟨some 12, .call false i_sleuthref01_Number [(.t 11)], none⟩,
    ⟨some 13, .bin .add (.t 9) (.t 12), none⟩,
    ⟨some 2, .cp (.t 13), none⟩] (some [(2, some 4), (2, some 8), (5, some 8)]))
  .ret)) }

def x_sleuthref01_Attr : XF := { np := 1, results := [(.inl 2, .v)], body :=
  (.seq (.region [
    ⟨some 1, .box false (.t 0), none⟩,
    ⟨some 2, .cp (.c (.s (.string ⟨#[]⟩))), none⟩] (none))
  (.seq (.region [
    ⟨some 3, .faddr (.t 1) 0, none⟩,
    ⟨some 4, .load 1 false (.t 3), none⟩,
    ⟨some 5, .call false i_sleuthref01_Text [(.t 4)], none⟩,
    ⟨some 6, .faddr (.t 1) 1, none⟩,
    ⟨some 7, .load 3 true (.t 6), none⟩,
    ⟨some 8, .call false i_sleuthref01_Value [(.t 7)], none⟩,
    ⟨some 9, .bin .add (.t 5) (.t 8), none⟩,
    ⟨some 2, .cp (.t 9), none⟩] (some [(2, some 4)]))
  .ret)) }

def x_encoding_Writer_Ref : XF := { np := 2, results := [], body :=
  (.seq (.region [
    ⟨some 3, .box false (.t 1), none⟩] (none))
  (.region [
    ⟨some 4, .cp (.t 0), none⟩,
    ⟨some 5, .faddr (.t 3) 0, none⟩,
    ⟨some 6, .load 1 false (.t 5), none⟩,
    ⟨some 7, .faddr (.t 3) 1, none⟩,
    ⟨some 8, .load 1 false (.t 7), none⟩,
    ⟨some 9, .bslice false 1 [(.t 6), (.t 8)], none⟩,
    ⟨some 10, .call false i_encoding_Writer_numbers [(.t 4), (.t 9)], none⟩] (none))) }

def x_sleuthref01_Ref : XF := { np := 1, results := [(.inl 2, .v)], body :=
  (.seq (.region [
    ⟨some 1, .box false (.t 0), none⟩,
    ⟨some 2, .cp (.c (.s (.string ⟨#[]⟩))), none⟩] (none))
  (.seq (.region [
    ⟨some 3, .faddr (.t 1) 0, none⟩,
    ⟨some 4, .load 1 false (.t 3), none⟩,
    ⟨some 5, .call false i_sleuthref01_Number [(.t 4)], none⟩,
    ⟨some 6, .faddr (.t 1) 1, none⟩,
    ⟨some 7, .load 1 false (.t 6), none⟩,
    ⟨some 8, .call false i_sleuthref01_Number [(.t 7)], none⟩,
    ⟨some 9, .bin .add (.t 5) (.t 8), none⟩,
    ⟨some 2, .cp (.t 9), none⟩] (some [(2, some 4)]))
  .ret)) }

def x_encoding_Writer_Exchange : XF := { np := 2, results := [], body :=
  (.seq (.region [
    ⟨some 3, .box false (.t 1), none⟩] (none))
  (.region [
    ⟨some 4, .cp (.t 0), none⟩,
    ⟨some 5, .faddr (.t 3) 0, none⟩,
    ⟨some 6, .load 1 false (.t 5), none⟩,
    ⟨some 7, .faddr (.t 3) 1, none⟩,
    ⟨some 8, .load 1 false (.t 7), none⟩,
    ⟨some 9, .faddr (.t 3) 2, none⟩,
    ⟨some 10, .load 1 false (.t 9), none⟩,
    ⟨some 11, .faddr (.t 3) 3, none⟩,
    ⟨some 12, .load 1 false (.t 11), none⟩,
    ⟨some 13, .faddr (.t 3) 4, none⟩,
    ⟨some 14, .load 1 false (.t 13), none⟩,
    ⟨some 15, .bslice false 1 [(.t 6), (.t 8), (.t 10), (.t 12), (.t 14)], none⟩,
    ⟨some 16, .call false i_encoding_Writer_numbers [(.t 4), (.t 15)], none⟩] (none))) }

def x_sleuthref01_Exchange : XF := { np := 1, results := [(.inl 2, .v)], body :=
  (.seq (.region [
    ⟨some 1, .box false (.t 0), none⟩,
    ⟨some 2, .cp (.c (.s (.string ⟨#[]⟩))), none⟩] (none))
  (.seq (.region [
    ⟨some 3, .faddr (.t 1) 0, none⟩,
    ⟨some 4, .load 1 false (.t 3), none⟩,
    ⟨some 5, .call false i_sleuthref01_Number [(.t 4)], none⟩,
    ⟨some 6, .faddr (.t 1) 1, none⟩,
    ⟨some 7, .load 1 false (.t 6), none⟩,
    ⟨some 8, .call false i_sleuthref01_Number [(.t 7)], none⟩,
    ⟨some 9, .bin .add (.t 5) (.t 8), none⟩,
    ⟨some 10, .faddr (.t 1) 2, none⟩,
    ⟨some 11, .load 1 false (.t 10), none⟩,
    ⟨some 12, .call false i_sleuthref01_Number [(.t 11)], none⟩,
    ⟨some 13, .bin .add (.t 9) (.t 12), none⟩,
    ⟨some 14, .faddr (.t 1) 3, none⟩,
    ⟨some 15, .load 1 false (.t 14), none⟩,
    ⟨some 16, .call false i_sleuthref01_Number [(.t 15)], none⟩,
    ⟨some 17, .bin .add (.t 13) (.t 16), none⟩,
    ⟨some 18, .faddr (.t 1) 4, none⟩,
    ⟨some 19, .load 1 false (.t 18), none⟩,
    ⟨some 20, .call false i_sleuthref01_Number [(.t 19)], none⟩,
    ⟨some 21, .bin .add (.t 17) (.t 20), none⟩,
    ⟨some 2, .cp (.t 21), none⟩] (some [(2, none), (5, none), (9, some 12), (9, some 16), (13, some 16)]))
  .ret)) }

def x_sleuthref01_Message : XF := { np := 1, results := [(.inl 2, .v)], body :=
  (.seq (.region [
    ⟨some 1, .box false (.t 0), none⟩,
    ⟨some 2, .cp (.c (.s (.string ⟨#[]⟩))), none⟩] (none))
  (.seq (.region [
    ⟨some 3, .faddr (.t 1) 0, none⟩,
    ⟨some 4, .load 1 false (.t 3), none⟩,
    ⟨some 5, .call false i_sleuthref01_Number [(.t 4)], none⟩,
    ⟨some 6, .faddr (.t 1) 1, none⟩,
    ⟨some 7, .load 2 true (.t 6), none⟩,
    ⟨some 8, .call false i_sleuthref01_Ref [(.t 7)], none⟩,
    ⟨some 9, .bin .add (.t 5) (.t 8), none⟩,
    ⟨some 10, .faddr (.t 1) 3, none⟩,
    ⟨some 11, .load 2 true (.t 10), none⟩,
    ⟨some 12, .call false i_sleuthref01_Ref [(.t 11)], none⟩,
    ⟨some 13, .bin .add (.t 9) (.t 12), none⟩,
    ⟨some 14, .faddr (.t 1) 5, none⟩,
    ⟨some 15, .load 1 false (.t 14), none⟩,
    ⟨some 16, .call false i_sleuthref01_Number [(.t 15)], none⟩,
    ⟨some 17, .bin .add (.t 13) (.t 16), none⟩,
    ⟨some 18, .faddr (.t 1) 6, none⟩,
    ⟨some 19, .load 1 false (.t 18), none⟩,
    ⟨some 20, .call false i_sleuthref01_Number [(.t 19)], none⟩,
    ⟨some 21, .bin .add (.t 17) (.t 20), none⟩,
    ⟨some 22, .faddr (.t 1) 7, none⟩,
    ⟨some 23, .load 1 false (.t 22), none⟩,
    ⟨some 24, .call false i_sleuthref01_Number [(.t 23)], none⟩,
    ⟨some 25, .bin .add (.t 21) (.t 24), none⟩,
    ⟨some 26, .faddr (.t 1) 8, none⟩,
    ⟨some 27, .load 1 false (.t 26), none⟩,
    ⟨some 28, .call false i_sleuthref01_Number [(.t 27)], none⟩,
    ⟨some 29, .bin .add (.t 25) (.t 28), none⟩,
    ⟨some 30, .faddr (.t 1) 9, none⟩,
    ⟨some 31, .load 1 false (.t 30), none⟩,
    ⟨some 32, .call false i_sleuthref01_Number [(.t 31)], none⟩,
    ⟨some 33, .bin .add (.t 29) (.t 32), none⟩,
    ⟨some 2, .cp (.t 33), none⟩] (some [(2, none), (5, none), (9, none), (13, none), (17, none), (21, some 24), (21, some 28), (25, some 28)]))
  .ret)) }

def x_sleuthref01_ReadNumber : XF := { np := 1, results := [(.inl 2, .v)], body :=
  (.seq (.region [
    ⟨some 2, .cp (.c (.s (.int .i64 0))), none⟩] (none))
  (.seq (.region [
    ⟨some 7, .cp (.t 0), none⟩,
    ⟨some 8, .nilchk (.t 7), none⟩,
    ⟨some 9, .load 3 true (.t 8), none⟩,
    ⟨some 10, .call false i_sleuthref01_number [(.t 9)], none⟩,
    ⟨some 6, .cp (.t 10), none⟩,
    ⟨some 11, .extract (.t 6) 0, none⟩,
    ⟨some 12, .extract (.t 6) 1, none⟩,
    ⟨some 13, .extract (.t 6) 2, none⟩,
    ⟨some 3, .cp (.t 11), none⟩,
    ⟨some 4, .cp (.t 12), none⟩,
    ⟨some 5, .cp (.t 13), none⟩] (none))
  (.seq (.seq (.region [
    ⟨some 14, .cp (.t 0), none⟩,
    ⟨some 15, .nilchk (.t 14), none⟩,
    ⟨some 16, .faddr (.t 15) 2, none⟩,
    ⟨some 17, .load 1 false (.t 16), none⟩,
    ⟨some 18, .bin .neq (.t 17) (.c (.s (.int .i64 0))), none⟩] (none))
  (.cond (.t 18)
    (.seq (.region [
      ⟨some 2, .cp (.c (.s (.int .i64 0))), none⟩] (none))
    .ret)
    .skip))
  (.seq (.region [
    ⟨some 19, .cp (.t 0), none⟩,
    ⟨some 20, .cp (.t 5), none⟩,
    ⟨some 21, .nilchk (.t 19), none⟩,
    ⟨some 22, .faddr (.t 21) 2, none⟩,
    ⟨none, .store 1 (.t 22) (.t 20), none⟩] (none))
  (.seq (.seq (.region [
    ⟨some 23, .cp (.t 5), none⟩,
    ⟨some 24, .bin .neq (.t 23) (.c (.s (.int .i64 0))), none⟩] (none))
  (.cond (.t 24)
    (.seq (.region [
      ⟨some 2, .cp (.c (.s (.int .i64 0))), none⟩] (none))
    .ret)
    .skip))
  (.seq (.region [
    ⟨some 25, .cp (.t 0), none⟩,
    ⟨some 26, .cp (.t 4), none⟩,
    ⟨some 27, .nilchk (.t 25), none⟩,
    ⟨some 28, .faddr (.t 27) 1, none⟩,
    ⟨none, .store 1 (.t 28) (.t 26), none⟩] (none))
  (.seq (.region [
    ⟨some 29, .cp (.t 3), none⟩,
    ⟨some 2, .cp (.t 29), none⟩] (none))
  .ret))))))) }

def x_sleuthref01_ReadBool : XF := { np := 1, results := [(.inl 2, .v)], body :=
  (.seq (.region [
    ⟨some 2, .cp (.c (.s (.bool false))), none⟩] (none))
  (.seq (.region [
    ⟨some 5, .cp (.t 0), none⟩,
    ⟨some 6, .nilchk (.t 5), none⟩,
    ⟨some 7, .faddr (.t 6) 1, none⟩,
    ⟨some 8, .load 1 false (.t 7), none⟩,
    ⟨some 3, .cp (.t 8), none⟩] (none))
  (.seq (.region [
    ⟨some 9, .cp (.t 0), none⟩,
    ⟨some 10, .call false i_sleuthref01_ReadNumber [(.t 9)], none⟩,
    ⟨some 4, .cp (.t 10), none⟩] (none))
  (.seq (.seq (.region [
    ⟨some 11, .cp (.t 0), none⟩,
    ⟨some 12, .nilchk (.t 11), none⟩,
    ⟨some 13, .faddr (.t 12) 2, none⟩,
    ⟨some 14, .load 1 false (.t 13), none⟩,
    ⟨some 15, .bin .eql (.t 14) (.c (.s (.int .i64 0))), none⟩,
    ⟨some 16, .cp (.t 15), none⟩,
    ⟨some 17, .cp (.t 4), some (16, true)⟩,
    ⟨some 18, .bin .neq (.t 17) (.c (.s (.int .i64 0))), some (16, true)⟩,
    ⟨some 19, .pick (.t 16) (.t 18) (.c (.s (.bool false))), none⟩,
    ⟨some 20, .cp (.t 19), none⟩,
    ⟨some 21, .cp (.t 4), some (20, true)⟩,
    ⟨some 22, .bin .neq (.t 21) (.c (.s (.int .i64 1))), some (20, true)⟩,
    ⟨some 23, .pick (.t 20) (.t 22) (.c (.s (.bool false))), none⟩] (none))
  (.cond (.t 23)
    (.seq (.region [
      ⟨some 24, .cp (.t 0), none⟩,
      ⟨some 25, .cp (.t 0), none⟩,
      ⟨some 26, .cp (.t 3), none⟩,
      ⟨some 27, .nilchk (.t 24), none⟩,
      ⟨some 28, .faddr (.t 27) 2, none⟩,
      ⟨none, .store 1 (.t 28) (.c (.s (.int .i64 3))), none⟩,
      ⟨some 29, .nilchk (.t 25), none⟩,
      ⟨some 30, .faddr (.t 29) 1, none⟩,
      ⟨none, .store 1 (.t 30) (.t 26), none⟩] (none))
    (.seq (.region [
      ⟨some 2, .cp (.c (.s (.bool false))), none⟩] (none))
    .ret))
    .skip))
  (.seq (.region [
    ⟨some 31, .cp (.t 4), none⟩,
    ⟨some 32, .bin .eql (.t 31) (.c (.s (.int .i64 1))), none⟩,
    ⟨some 2, .cp (.t 32), none⟩] (none))
  .ret))))) }

def x_sleuthref01_ReadText : XF := { np := 2, results := [(.inl 4, .v)], body :=
  (.seq (.region [
    ⟨some 4, .cp (.c (.s (.string ⟨#[]⟩))), none⟩] (none))
  (.seq (.region [
    ⟨some 6, .cp (.t 0), none⟩,
    ⟨some 7, .cp (.t 1), none⟩,
    ⟨some 8, .call false i_sleuthref01_sized [(.t 6), (.t 7), (.c (.s (.int .i64 5)))], none⟩,
    ⟨some 5, .cp (.t 8), none⟩] (none))
  (.seq (.region [
    ⟨some 9, .cp (.t 0), none⟩,
    ⟨some 10, .cp (.t 0), none⟩,
    ⟨some 11, .nilchk (.t 10), none⟩,
    ⟨some 12, .faddr (.t 11) 1, none⟩,
    ⟨some 13, .load 1 false (.t 12), none⟩,
    ⟨some 14, .cp (.t 5), none⟩,
    ⟨some 15, .bin .add (.t 13) (.t 14), none⟩,
    ⟨some 16, .nilchk (.t 9), none⟩,
    ⟨some 17, .faddr (.t 16) 1, none⟩,
    ⟨none, .store 1 (.t 17) (.t 15), none⟩] (none))
  (.seq (.region [
    ⟨some 18, .cp (.t 0), none⟩,
    ⟨some 19, .nilchk (.t 18), none⟩,
    ⟨some 20, .faddr (.t 19) 0, none⟩,
    ⟨some 21, .load 1 false (.t 20), none⟩,
    ⟨some 22, .cp (.t 0), none⟩,
    ⟨some 23, .nilchk (.t 22), none⟩,
    ⟨some 24, .faddr (.t 23) 1, none⟩,
    ⟨some 25, .load 1 false (.t 24), none⟩,
    ⟨some 26, .cp (.t 5), none⟩,
    ⟨some 27, .bin .sub (.t 25) (.t 26), none⟩,
    ⟨some 28, .cp (.t 0), none⟩,
    ⟨some 29, .nilchk (.t 28), none⟩,
    ⟨some 30, .faddr (.t 29) 1, none⟩,
    ⟨some 31, .load 1 false (.t 30), none⟩,
    ⟨some 32, .slStr (.t 21) (some (.t 27)) (some (.t 31)), none⟩,
    ⟨some 4, .cp (.t 32), none⟩] (some []))
  .ret)))) }

def x_sleuthref01_ReadCount : XF := { np := 2, results := [(.inl 4, .v)], body :=
  (.seq (.region [
    ⟨some 4, .cp (.c (.s (.int .i64 0))), none⟩] (none))
  (.seq (.region [
    ⟨some 5, .cp (.t 0), none⟩,
    ⟨some 6, .cp (.t 1), none⟩,
    ⟨some 7, .call false i_sleuthref01_sized [(.t 5), (.t 6), (.c (.s (.int .i64 6)))], none⟩,
    ⟨some 4, .cp (.t 7), none⟩] (none))
  .ret)) }

def x_sleuthref01_ReadValue : XF := { np := 1, results := [(.inr (2, 3, true), .v)], body :=
  (.seq (.region [
    ⟨some 2, .alloc [.s (.int .i64 0), .s (.string ⟨#[]⟩), .s (.int .i64 0)], none⟩] (none))
  (.seq (.region [
    ⟨some 3, .alloc [.s (.int .i64 0), .s (.string ⟨#[]⟩), .s (.int .i64 0)], none⟩] (none))
  (.seq (.region [
    ⟨some 4, .cp (.t 0), none⟩,
    ⟨some 5, .call false i_sleuthref01_ReadNumber [(.t 4)], none⟩,
    ⟨some 6, .faddr (.t 3) 0, none⟩,
    ⟨none, .store 1 (.t 6) (.t 5), none⟩] (none))
  (.seq (.region [
    ⟨some 7, .cp (.t 0), none⟩,
    ⟨some 8, .call false i_sleuthref01_ReadText [(.t 7), (.c (.s (.int .i64 4096)))], none⟩,
    ⟨some 9, .faddr (.t 3) 1, none⟩,
    ⟨none, .store 1 (.t 9) (.t 8), none⟩] (none))
  (.seq (.region [
    ⟨some 10, .cp (.t 0), none⟩,
    ⟨some 11, .call false i_sleuthref01_ReadNumber [(.t 10)], none⟩,
    ⟨some 12, .faddr (.t 3) 2, none⟩,
    ⟨none, .store 1 (.t 12) (.t 11), none⟩] (none))
  (.seq (.seq (.region [
    ⟨some 13, .cp (.t 0), none⟩,
    ⟨some 14, .nilchk (.t 13), none⟩,
    ⟨some 15, .faddr (.t 14) 2, none⟩,
    ⟨some 16, .load 1 false (.t 15), none⟩,
    ⟨some 17, .bin .neq (.t 16) (.c (.s (.int .i64 0))), none⟩] (none))
  (.cond (.t 17)
    (.seq (.region [
      ⟨some 18, .build false [.s (.int .i64 0), .s (.string ⟨#[]⟩), .s (.int .i64 0)] [], none⟩,
      ⟨none, .store 3 (.t 2) (.t 18), none⟩] (none))
    .ret)
    .skip))
  (.seq (.region [
    ⟨some 19, .load 3 true (.t 3), none⟩,
    ⟨none, .store 3 (.t 2) (.t 19), none⟩] (none))
  .ret))))))) }

def x_sleuthref01_ReadAttr : XF := { np := 1, results := [(.inr (2, 4, true), .v)], body :=
  (.seq (.region [
    ⟨some 2, .alloc [.s (.string ⟨#[]⟩), .s (.int .i64 0), .s (.string ⟨#[]⟩), .s (.int .i64 0)], none⟩] (none))
  (.seq (.region [
    ⟨some 3, .alloc [.s (.string ⟨#[]⟩), .s (.int .i64 0), .s (.string ⟨#[]⟩), .s (.int .i64 0)], none⟩] (none))
  (.seq (.region [
    ⟨some 4, .cp (.t 0), none⟩,
    ⟨some 5, .call false i_sleuthref01_ReadText [(.t 4), (.c (.s (.int .i64 4096)))], none⟩,
    ⟨some 6, .faddr (.t 3) 0, none⟩,
    ⟨none, .store 1 (.t 6) (.t 5), none⟩] (none))
  (.seq (.region [
    ⟨some 7, .cp (.t 0), none⟩,
    ⟨some 8, .call false i_sleuthref01_ReadValue [(.t 7)], none⟩,
    ⟨some 9, .faddr (.t 3) 1, none⟩,
    ⟨none, .store 3 (.t 9) (.t 8), none⟩] (none))
  (.seq (.seq (.region [
    ⟨some 10, .cp (.t 0), none⟩,
    ⟨some 11, .nilchk (.t 10), none⟩,
    ⟨some 12, .faddr (.t 11) 2, none⟩,
    ⟨some 13, .load 1 false (.t 12), none⟩,
    ⟨some 14, .bin .neq (.t 13) (.c (.s (.int .i64 0))), none⟩] (none))
  (.cond (.t 14)
    (.seq (.region [
      ⟨some 15, .build false [.s (.string ⟨#[]⟩), .s (.int .i64 0), .s (.string ⟨#[]⟩), .s (.int .i64 0)] [], none⟩,
      ⟨none, .store 4 (.t 2) (.t 15), none⟩] (none))
    .ret)
    .skip))
  (.seq (.region [
    ⟨some 16, .load 4 true (.t 3), none⟩,
    ⟨none, .store 4 (.t 2) (.t 16), none⟩] (none))
  .ret)))))) }

def x_sleuthref01_ReadRef : XF := { np := 1, results := [(.inr (2, 2, true), .v)], body :=
  (.seq (.region [
    ⟨some 2, .alloc [.s (.int .i64 0), .s (.int .i64 0)], none⟩] (none))
  (.seq (.region [
    ⟨some 3, .alloc [.s (.int .i64 0), .s (.int .i64 0)], none⟩] (none))
  (.seq (.region [
    ⟨some 4, .cp (.t 0), none⟩,
    ⟨some 5, .call false i_sleuthref01_ReadNumber [(.t 4)], none⟩,
    ⟨some 6, .faddr (.t 3) 0, none⟩,
    ⟨none, .store 1 (.t 6) (.t 5), none⟩] (none))
  (.seq (.region [
    ⟨some 7, .cp (.t 0), none⟩,
    ⟨some 8, .call false i_sleuthref01_ReadNumber [(.t 7)], none⟩,
    ⟨some 9, .faddr (.t 3) 1, none⟩,
    ⟨none, .store 1 (.t 9) (.t 8), none⟩] (none))
  (.seq (.seq (.region [
    ⟨some 10, .cp (.t 0), none⟩,
    ⟨some 11, .nilchk (.t 10), none⟩,
    ⟨some 12, .faddr (.t 11) 2, none⟩,
    ⟨some 13, .load 1 false (.t 12), none⟩,
    ⟨some 14, .bin .neq (.t 13) (.c (.s (.int .i64 0))), none⟩] (none))
  (.cond (.t 14)
    (.seq (.region [
      ⟨some 15, .build false [.s (.int .i64 0), .s (.int .i64 0)] [], none⟩,
      ⟨none, .store 2 (.t 2) (.t 15), none⟩] (none))
    .ret)
    .skip))
  (.seq (.region [
    ⟨some 16, .load 2 true (.t 3), none⟩,
    ⟨none, .store 2 (.t 2) (.t 16), none⟩] (none))
  .ret)))))) }

def x_sleuthref01_ReadExchange : XF := { np := 1, results := [(.inr (2, 5, true), .v)], body :=
  (.seq (.region [
    ⟨some 2, .alloc [.s (.int .i64 0), .s (.int .i64 0), .s (.int .i64 0), .s (.int .i64 0), .s (.int .i64 0)], none⟩] (none))
  (.seq (.region [
    ⟨some 3, .alloc [.s (.int .i64 0), .s (.int .i64 0), .s (.int .i64 0), .s (.int .i64 0), .s (.int .i64 0)], none⟩] (none))
  (.seq (.region [
    ⟨some 4, .cp (.t 0), none⟩,
    ⟨some 5, .call false i_sleuthref01_ReadNumber [(.t 4)], none⟩,
    ⟨some 6, .faddr (.t 3) 0, none⟩,
    ⟨none, .store 1 (.t 6) (.t 5), none⟩] (none))
  (.seq (.region [
    ⟨some 7, .cp (.t 0), none⟩,
    ⟨some 8, .call false i_sleuthref01_ReadNumber [(.t 7)], none⟩,
    ⟨some 9, .faddr (.t 3) 1, none⟩,
    ⟨none, .store 1 (.t 9) (.t 8), none⟩] (none))
  (.seq (.region [
    ⟨some 10, .cp (.t 0), none⟩,
    ⟨some 11, .call false i_sleuthref01_ReadNumber [(.t 10)], none⟩,
    ⟨some 12, .faddr (.t 3) 2, none⟩,
    ⟨none, .store 1 (.t 12) (.t 11), none⟩] (none))
  (.seq (.region [
    ⟨some 13, .cp (.t 0), none⟩,
    ⟨some 14, .call false i_sleuthref01_ReadNumber [(.t 13)], none⟩,
    ⟨some 15, .faddr (.t 3) 3, none⟩,
    ⟨none, .store 1 (.t 15) (.t 14), none⟩] (none))
  (.seq (.region [
    ⟨some 16, .cp (.t 0), none⟩,
    ⟨some 17, .call false i_sleuthref01_ReadNumber [(.t 16)], none⟩,
    ⟨some 18, .faddr (.t 3) 4, none⟩,
    ⟨none, .store 1 (.t 18) (.t 17), none⟩] (none))
  (.seq (.seq (.region [
    ⟨some 19, .cp (.t 0), none⟩,
    ⟨some 20, .nilchk (.t 19), none⟩,
    ⟨some 21, .faddr (.t 20) 2, none⟩,
    ⟨some 22, .load 1 false (.t 21), none⟩,
    ⟨some 23, .bin .neq (.t 22) (.c (.s (.int .i64 0))), none⟩] (none))
  (.cond (.t 23)
    (.seq (.region [
      ⟨some 24, .build false [.s (.int .i64 0), .s (.int .i64 0), .s (.int .i64 0), .s (.int .i64 0), .s (.int .i64 0)] [], none⟩,
      ⟨none, .store 5 (.t 2) (.t 24), none⟩] (none))
    .ret)
    .skip))
  (.seq (.region [
    ⟨some 25, .load 5 true (.t 3), none⟩,
    ⟨none, .store 5 (.t 2) (.t 25), none⟩] (none))
  .ret))))))))) }

def x_sleuthref01_ReadMessage : XF := { np := 1, results := [(.inr (2, 10, true), .v)], body :=
  (.seq (.region [
    ⟨some 2, .alloc [.s (.int .i64 0), .s (.int .i64 0), .s (.int .i64 0), .s (.int .i64 0), .s (.int .i64 0), .s (.int .i64 0), .s (.int .i64 0), .s (.int .i64 0), .s (.int .i64 0), .s (.int .i64 0)], none⟩] (none))
  (.seq (.region [
    ⟨some 3, .alloc [.s (.int .i64 0), .s (.int .i64 0), .s (.int .i64 0), .s (.int .i64 0), .s (.int .i64 0), .s (.int .i64 0), .s (.int .i64 0), .s (.int .i64 0), .s (.int .i64 0), .s (.int .i64 0)], none⟩] (none))
  (.seq (.region [
    ⟨some 4, .cp (.t 0), none⟩,
    ⟨some 5, .call false i_sleuthref01_ReadNumber [(.t 4)], none⟩,
    ⟨some 6, .faddr (.t 3) 0, none⟩,
    ⟨none, .store 1 (.t 6) (.t 5), none⟩] (none))
  (.seq (.region [
    ⟨some 7, .cp (.t 0), none⟩,
    ⟨some 8, .call false i_sleuthref01_ReadRef [(.t 7)], none⟩,
    ⟨some 9, .faddr (.t 3) 1, none⟩,
    ⟨none, .store 2 (.t 9) (.t 8), none⟩] (none))
  (.seq (.region [
    ⟨some 10, .cp (.t 0), none⟩,
    ⟨some 11, .call false i_sleuthref01_ReadRef [(.t 10)], none⟩,
    ⟨some 12, .faddr (.t 3) 3, none⟩,
    ⟨none, .store 2 (.t 12) (.t 11), none⟩] (none))
  (.seq (.region [
    ⟨some 13, .cp (.t 0), none⟩,
    ⟨some 14, .call false i_sleuthref01_ReadNumber [(.t 13)], none⟩,
    ⟨some 15, .faddr (.t 3) 5, none⟩,
    ⟨none, .store 1 (.t 15) (.t 14), none⟩] (none))
  (.seq (.region [
    ⟨some 16, .cp (.t 0), none⟩,
    ⟨some 17, .call false i_sleuthref01_ReadNumber [(.t 16)], none⟩,
    ⟨some 18, .faddr (.t 3) 6, none⟩,
    ⟨none, .store 1 (.t 18) (.t 17), none⟩] (none))
  (.seq (.region [
    ⟨some 19, .cp (.t 0), none⟩,
    ⟨some 20, .call false i_sleuthref01_ReadNumber [(.t 19)], none⟩,
    ⟨some 21, .faddr (.t 3) 7, none⟩,
    ⟨none, .store 1 (.t 21) (.t 20), none⟩] (none))
  (.seq (.region [
    ⟨some 22, .cp (.t 0), none⟩,
    ⟨some 23, .call false i_sleuthref01_ReadNumber [(.t 22)], none⟩,
    ⟨some 24, .faddr (.t 3) 8, none⟩,
    ⟨none, .store 1 (.t 24) (.t 23), none⟩] (none))
  (.seq (.region [
    ⟨some 25, .cp (.t 0), none⟩,
    ⟨some 26, .call false i_sleuthref01_ReadNumber [(.t 25)], none⟩,
    ⟨some 27, .faddr (.t 3) 9, none⟩,
    ⟨none, .store 1 (.t 27) (.t 26), none⟩] (none))
  (.seq (.seq (.region [
    ⟨some 28, .cp (.t 0), none⟩,
    ⟨some 29, .nilchk (.t 28), none⟩,
    ⟨some 30, .faddr (.t 29) 2, none⟩,
    ⟨some 31, .load 1 false (.t 30), none⟩,
    ⟨some 32, .bin .neq (.t 31) (.c (.s (.int .i64 0))), none⟩] (none))
  (.cond (.t 32)
    (.seq (.region [
      ⟨some 33, .build false [.s (.int .i64 0), .s (.int .i64 0), .s (.int .i64 0), .s (.int .i64 0), .s (.int .i64 0), .s (.int .i64 0), .s (.int .i64 0), .s (.int .i64 0), .s (.int .i64 0), .s (.int .i64 0)] [], none⟩,
      ⟨none, .store 10 (.t 2) (.t 33), none⟩] (none))
    .ret)
    .skip))
  (.seq (.region [
    ⟨some 34, .load 10 true (.t 3), none⟩,
    ⟨none, .store 10 (.t 2) (.t 34), none⟩] (none))
  .ret)))))))))))) }

def x_encoding_Reader_numbers_l0 : XC :=
  (.seq (.region [
    ⟨some 9, .bin .lss (.t 8) (.t 7), none⟩] (none))
  (.seq (.cond (.t 9)
    .skip
    (.exit 0))
  (.seq (.block 1
    (.seq (.region [
      ⟨some 10, .iaddr 1 (.t 6) (.t 8), none⟩,
      ⟨some 11, .load 1 false (.t 10), none⟩,
      ⟨some 5, .cp (.t 11), none⟩] (none))
    (.region [
      ⟨some 12, .cp (.t 5), none⟩,
      ⟨some 13, .cp (.t 0), none⟩,
      ⟨some 14, .call false i_encoding_Reader_Number [(.t 13)], none⟩,
      ⟨some 15, .nilchk (.t 12), none⟩,
      ⟨none, .store 1 (.t 15) (.t 14), none⟩] (none))))
  (.region [
    ⟨some 16, .bin .add (.t 8) (.c (.s (.int .i64 1))), none⟩,
    ⟨some 8, .cp (.t 16), none⟩] (none)))))
def x_encoding_Reader_numbers : XF := { np := 2, results := [], body :=
  (.seq (.region [
    ⟨some 6, .cp (.t 1), none⟩,
    ⟨some 7, .len false (.t 6), none⟩,
    ⟨some 8, .cp (.c (.s (.int .i64 0))), none⟩] (none))
  (.block 0
    (.loop x_encoding_Reader_numbers_l0))) }

def x_encoding_elements_api_Span_l0 : XC :=
  (.seq (.region [
    ⟨some 10, .bin .lss (.t 9) (.t 8), none⟩] (none))
  (.seq (.cond (.t 10)
    .skip
    (.exit 0))
  (.seq (.block 1
    (.seq (.region [
      ⟨some 11, .cp (.t 1), none⟩,
      ⟨some 12, .callv false (.t 11) [], none⟩,
      ⟨some 6, .alloc [.s (.int .i64 0), .s (.int .i64 0), .s (.int .i64 0), .s (.int .i64 0), .s (.int .i64 0), .s (.int .i64 0), .s (.string ⟨#[]⟩), .s (.string ⟨#[]⟩), .s (.string ⟨#[]⟩), .s (.int .i64 0), .s (.int .i64 0), .s (.bool false), .s (.slice none 0 0), .s (.slice none 0 0)], none⟩,
      ⟨none, .store 14 (.t 6) (.t 12), none⟩] (none))
    (.seq (.seq (.region [
      ⟨some 13, .cp (.t 0), none⟩,
      ⟨some 14, .call false i_encoding_Reader_ok [(.t 13)], none⟩,
      ⟨some 15, .un .not (.t 14), none⟩] (none))
    (.cond (.t 15)
      (.seq (.region [
        ⟨some 4, .cp (.c (.s (.slice none 0 0))), none⟩] (none))
      .ret)
      .skip))
    (.region [
      ⟨some 16, .cp (.t 5), none⟩,
      ⟨some 17, .load 14 true (.t 6), none⟩,
      ⟨some 18, .bslice false 14 [(.t 17)], none⟩,
      ⟨some 19, .append 14 837723144972 (.t 16) (.t 18), none⟩,
      ⟨some 5, .cp (.t 19), none⟩] (none)))))
  (.region [
    ⟨some 20, .bin .add (.t 9) (.c (.s (.int .i64 1))), none⟩,
    ⟨some 9, .cp (.t 20), none⟩] (none)))))
def x_encoding_elements_api_Span : XF := { np := 2, results := [(.inl 4, .v)], body :=
  (.seq (.region [
    ⟨some 4, .cp (.c (.s (.slice none 0 0))), none⟩] (none))
  (.seq (.region [
    ⟨some 5, .cp (.c (.s (.slice none 0 0))), none⟩] (none))
  (.seq (.seq (.region [
    ⟨some 7, .cp (.t 0), none⟩,
    ⟨some 8, .call false i_encoding_Reader_Count [(.t 7), (.c (.s (.int .i64 4096)))], none⟩,
    ⟨some 9, .cp (.c (.s (.int .i64 0))), none⟩] (none))
  (.block 0
    (.loop x_encoding_elements_api_Span_l0)))
  (.seq (.region [
    ⟨some 21, .cp (.t 5), none⟩,
    ⟨some 4, .cp (.t 21), none⟩] (none))
  .ret)))) }

def x_encoding_elements_api_Exchange_l0 : XC :=
  (.seq (.region [
    ⟨some 10, .bin .lss (.t 9) (.t 8), none⟩] (none))
  (.seq (.cond (.t 10)
    .skip
    (.exit 0))
  (.seq (.block 1
    (.seq (.region [
      ⟨some 11, .cp (.t 1), none⟩,
      ⟨some 12, .callv false (.t 11) [], none⟩,
      ⟨some 6, .alloc [.s (.int .i64 0), .s (.int .i64 0), .s (.int .i64 0), .s (.int .i64 0), .s (.int .i64 0)], none⟩,
      ⟨none, .store 5 (.t 6) (.t 12), none⟩] (none))
    (.seq (.seq (.region [
      ⟨some 13, .cp (.t 0), none⟩,
      ⟨some 14, .call false i_encoding_Reader_ok [(.t 13)], none⟩,
      ⟨some 15, .un .not (.t 14), none⟩] (none))
    (.cond (.t 15)
      (.seq (.region [
        ⟨some 4, .cp (.c (.s (.slice none 0 0))), none⟩] (none))
      .ret)
      .skip))
    (.region [
      ⟨some 16, .cp (.t 5), none⟩,
      ⟨some 17, .load 5 true (.t 6), none⟩,
      ⟨some 18, .bslice false 5 [(.t 17)], none⟩,
      ⟨some 19, .append 5 3518437208883 (.t 16) (.t 18), none⟩,
      ⟨some 5, .cp (.t 19), none⟩] (none)))))
  (.region [
    ⟨some 20, .bin .add (.t 9) (.c (.s (.int .i64 1))), none⟩,
    ⟨some 9, .cp (.t 20), none⟩] (none)))))
def x_encoding_elements_api_Exchange : XF := { np := 2, results := [(.inl 4, .v)], body :=
  (.seq (.region [
    ⟨some 4, .cp (.c (.s (.slice none 0 0))), none⟩] (none))
  (.seq (.region [
    ⟨some 5, .cp (.c (.s (.slice none 0 0))), none⟩] (none))
  (.seq (.seq (.region [
    ⟨some 7, .cp (.t 0), none⟩,
    ⟨some 8, .call false i_encoding_Reader_Count [(.t 7), (.c (.s (.int .i64 4096)))], none⟩,
    ⟨some 9, .cp (.c (.s (.int .i64 0))), none⟩] (none))
  (.block 0
    (.loop x_encoding_elements_api_Exchange_l0)))
  (.seq (.region [
    ⟨some 21, .cp (.t 5), none⟩,
    ⟨some 4, .cp (.t 21), none⟩] (none))
  .ret)))) }

def x_sleuthref01_Spans_l0 : XC :=
  (.seq (.seq (.region [
    ⟨some 8, .cp (.t 4), none⟩,
    ⟨some 9, .cp (.t 0), none⟩,
    ⟨some 10, .len false (.t 9), none⟩,
    ⟨some 11, .bin .lss (.t 8) (.t 10), none⟩] (none))
  (.cond (.t 11)
    .skip
    (.exit 0)))
  (.seq (.block 1
    (.region [
      ⟨some 14, .cp (.t 3), none⟩,
      ⟨some 15, .cp (.t 0), none⟩,
      ⟨some 16, .cp (.t 4), none⟩,
      ⟨some 17, .iaddr 14 (.t 15) (.t 16), none⟩,
      ⟨some 18, .load 14 true (.t 17), none⟩,
      ⟨some 19, .call false i_sleuthref01_Span [(.t 18)], none⟩,
      ⟨some 20, .bin .add (.t 14) (.t 19), none⟩,
      ⟨some 3, .cp (.t 20), none⟩] (none)))
  (.region [
    ⟨some 12, .cp (.t 4), none⟩,
    ⟨some 13, .bin .add (.t 12) (.c (.s (.int .i64 1))), none⟩,
    ⟨some 4, .cp (.t 13), none⟩] (none))))
def x_sleuthref01_Spans : XF := { np := 1, results := [(.inl 2, .v)], body :=
  (.seq (.region [
    ⟨some 2, .cp (.c (.s (.string ⟨#[]⟩))), none⟩] (none))
  (.seq (.region [
    ⟨some 5, .cp (.t 0), none⟩,
    ⟨some 6, .len false (.t 5), none⟩,
    ⟨some 7, .call false i_sleuthref01_Number [(.t 6)], none⟩,
    ⟨some 3, .cp (.t 7), none⟩] (none))
  (.seq (.seq (.region [
    ⟨some 4, .cp (.c (.s (.int .i64 0))), none⟩] (none))
  (.block 0
    (.loop x_sleuthref01_Spans_l0)))
  (.seq (.region [
    ⟨some 21, .cp (.t 3), none⟩,
    ⟨some 2, .cp (.t 21), none⟩] (none))
  .ret)))) }

def x_encoding_Writer_numbers_l0 : XC :=
  (.seq (.region [
    ⟨some 9, .bin .lss (.t 8) (.t 7), none⟩] (none))
  (.seq (.cond (.t 9)
    .skip
    (.exit 0))
  (.seq (.block 1
    (.seq (.region [
      ⟨some 10, .iaddr 1 (.t 6) (.t 8), none⟩,
      ⟨some 11, .load 1 false (.t 10), none⟩,
      ⟨some 5, .cp (.t 11), none⟩] (none))
    (.region [
      ⟨some 12, .cp (.t 0), none⟩,
      ⟨some 13, .cp (.t 5), none⟩,
      ⟨some 14, .call false i_encoding_Writer_Number [(.t 12), (.t 13)], none⟩] (none))))
  (.region [
    ⟨some 15, .bin .add (.t 8) (.c (.s (.int .i64 1))), none⟩,
    ⟨some 8, .cp (.t 15), none⟩] (none)))))
def x_encoding_Writer_numbers : XF := { np := 2, results := [], body :=
  (.seq (.region [
    ⟨some 6, .cp (.t 1), none⟩,
    ⟨some 7, .len false (.t 6), none⟩,
    ⟨some 8, .cp (.c (.s (.int .i64 0))), none⟩] (none))
  (.block 0
    (.loop x_encoding_Writer_numbers_l0))) }

def x_encoding_list_api_Span_l0 : XC :=
  (.seq (.region [
    ⟨some 15, .bin .lss (.t 14) (.t 13), none⟩] (none))
  (.seq (.cond (.t 15)
    .skip
    (.exit 0))
  (.seq (.block 1
    (.seq (.region [
      ⟨some 16, .iaddr 14 (.t 12) (.t 14), none⟩,
      ⟨some 17, .load 14 true (.t 16), none⟩,
      ⟨some 7, .alloc [.s (.int .i64 0), .s (.int .i64 0), .s (.int .i64 0), .s (.int .i64 0), .s (.int .i64 0), .s (.int .i64 0), .s (.string ⟨#[]⟩), .s (.string ⟨#[]⟩), .s (.string ⟨#[]⟩), .s (.int .i64 0), .s (.int .i64 0), .s (.bool false), .s (.slice none 0 0), .s (.slice none 0 0)], none⟩,
      ⟨none, .store 14 (.t 7) (.t 17), none⟩] (none))
    (.region [
      ⟨some 18, .cp (.t 2), none⟩,
      ⟨some 19, .load 14 true (.t 7), none⟩,
      ⟨some 20, .callv false (.t 18) [(.t 19)], none⟩] (none))))
  (.region [
    ⟨some 21, .bin .add (.t 14) (.c (.s (.int .i64 1))), none⟩,
    ⟨some 14, .cp (.t 21), none⟩] (none)))))
def x_encoding_list_api_Span : XF := { np := 3, results := [], body :=
  (.seq (.region [
    ⟨some 8, .cp (.t 0), none⟩,
    ⟨some 9, .cp (.t 1), none⟩,
    ⟨some 10, .len false (.t 9), none⟩,
    ⟨some 11, .call false i_encoding_Writer_Number [(.t 8), (.t 10)], none⟩] (none))
  (.seq (.region [
    ⟨some 12, .cp (.t 1), none⟩,
    ⟨some 13, .len false (.t 12), none⟩,
    ⟨some 14, .cp (.c (.s (.int .i64 0))), none⟩] (none))
  (.block 0
    (.loop x_encoding_list_api_Span_l0)))) }

def x_encoding_list_api_Exchange_l0 : XC :=
  (.seq (.region [
    ⟨some 15, .bin .lss (.t 14) (.t 13), none⟩] (none))
  (.seq (.cond (.t 15)
    .skip
    (.exit 0))
  (.seq (.block 1
    (.seq (.region [
      ⟨some 16, .iaddr 5 (.t 12) (.t 14), none⟩,
      ⟨some 17, .load 5 true (.t 16), none⟩,
      ⟨some 7, .alloc [.s (.int .i64 0), .s (.int .i64 0), .s (.int .i64 0), .s (.int .i64 0), .s (.int .i64 0)], none⟩,
      ⟨none, .store 5 (.t 7) (.t 17), none⟩] (none))
    (.region [
      ⟨some 18, .cp (.t 2), none⟩,
      ⟨some 19, .load 5 true (.t 7), none⟩,
      ⟨some 20, .callv false (.t 18) [(.t 19)], none⟩] (none))))
  (.region [
    ⟨some 21, .bin .add (.t 14) (.c (.s (.int .i64 1))), none⟩,
    ⟨some 14, .cp (.t 21), none⟩] (none)))))
def x_encoding_list_api_Exchange : XF := { np := 3, results := [], body :=
  (.seq (.region [
    ⟨some 8, .cp (.t 0), none⟩,
    ⟨some 9, .cp (.t 1), none⟩,
    ⟨some 10, .len false (.t 9), none⟩,
    ⟨some 11, .call false i_encoding_Writer_Number [(.t 8), (.t 10)], none⟩] (none))
  (.seq (.region [
    ⟨some 12, .cp (.t 1), none⟩,
    ⟨some 13, .len false (.t 12), none⟩,
    ⟨some 14, .cp (.c (.s (.int .i64 0))), none⟩] (none))
  (.block 0
    (.loop x_encoding_list_api_Exchange_l0)))) }

def x_encoding_list_api_Attr_l0 : XC :=
  (.seq (.region [
    ⟨some 15, .bin .lss (.t 14) (.t 13), none⟩] (none))
  (.seq (.cond (.t 15)
    .skip
    (.exit 0))
  (.seq (.block 1
    (.seq (.region [
      ⟨some 16, .iaddr 4 (.t 12) (.t 14), none⟩,
      ⟨some 17, .load 4 true (.t 16), none⟩,
      ⟨some 7, .alloc [.s (.string ⟨#[]⟩), .s (.int .i64 0), .s (.string ⟨#[]⟩), .s (.int .i64 0)], none⟩,
      ⟨none, .store 4 (.t 7) (.t 17), none⟩] (none))
    (.region [
      ⟨some 18, .cp (.t 2), none⟩,
      ⟨some 19, .load 4 true (.t 7), none⟩,
      ⟨some 20, .callv false (.t 18) [(.t 19)], none⟩] (none))))
  (.region [
    ⟨some 21, .bin .add (.t 14) (.c (.s (.int .i64 1))), none⟩,
    ⟨some 14, .cp (.t 21), none⟩] (none)))))
def x_encoding_list_api_Attr : XF := { np := 3, results := [], body :=
  (.seq (.region [
    ⟨some 8, .cp (.t 0), none⟩,
    ⟨some 9, .cp (.t 1), none⟩,
    ⟨some 10, .len false (.t 9), none⟩,
    ⟨some 11, .call false i_encoding_Writer_Number [(.t 8), (.t 10)], none⟩] (none))
  (.seq (.region [
    ⟨some 12, .cp (.t 1), none⟩,
    ⟨some 13, .len false (.t 12), none⟩,
    ⟨some 14, .cp (.c (.s (.int .i64 0))), none⟩] (none))
  (.block 0
    (.loop x_encoding_list_api_Attr_l0)))) }

def x_encoding_list_api_Ref_l0 : XC :=
  (.seq (.region [
    ⟨some 15, .bin .lss (.t 14) (.t 13), none⟩] (none))
  (.seq (.cond (.t 15)
    .skip
    (.exit 0))
  (.seq (.block 1
    (.seq (.region [
      ⟨some 16, .iaddr 2 (.t 12) (.t 14), none⟩,
      ⟨some 17, .load 2 true (.t 16), none⟩,
      ⟨some 7, .alloc [.s (.int .i64 0), .s (.int .i64 0)], none⟩,
      ⟨none, .store 2 (.t 7) (.t 17), none⟩] (none))
    (.region [
      ⟨some 18, .cp (.t 2), none⟩,
      ⟨some 19, .load 2 true (.t 7), none⟩,
      ⟨some 20, .callv false (.t 18) [(.t 19)], none⟩] (none))))
  (.region [
    ⟨some 21, .bin .add (.t 14) (.c (.s (.int .i64 1))), none⟩,
    ⟨some 14, .cp (.t 21), none⟩] (none)))))
def x_encoding_list_api_Ref : XF := { np := 3, results := [], body :=
  (.seq (.region [
    ⟨some 8, .cp (.t 0), none⟩,
    ⟨some 9, .cp (.t 1), none⟩,
    ⟨some 10, .len false (.t 9), none⟩,
    ⟨some 11, .call false i_encoding_Writer_Number [(.t 8), (.t 10)], none⟩] (none))
  (.seq (.region [
    ⟨some 12, .cp (.t 1), none⟩,
    ⟨some 13, .len false (.t 12), none⟩,
    ⟨some 14, .cp (.c (.s (.int .i64 0))), none⟩] (none))
  (.block 0
    (.loop x_encoding_list_api_Ref_l0)))) }

def x_encoding_Reader_size : XF := { np := 3, results := [(.inl 6, .v), (.inl 7, .v), (.inl 8, .v)], body :=
  (.seq (.region [
    ⟨some 6, .cp (.c (.s (.int .i64 0))), none⟩,
    ⟨some 7, .cp (.c (.s (.int .i64 0))), none⟩,
    ⟨some 8, .cp (.c (.s (.bool false))), none⟩] (none))
  (.seq (.region [
    ⟨some 11, .cp (.t 0), none⟩,
    ⟨some 12, .cp (.t 0), none⟩,
    ⟨some 13, .nilchk (.t 12), none⟩,
    ⟨some 14, .faddr (.t 13) 1, none⟩,
    ⟨some 15, .load 1 false (.t 14), none⟩,
    ⟨some 16, .call false i_encoding_Reader_number [(.t 11), (.t 15)], none⟩,
    ⟨some 10, .cp (.t 16), none⟩,
    ⟨some 17, .extract (.t 10) 0, none⟩,
    ⟨some 18, .extract (.t 10) 1, none⟩,
    ⟨some 19, .extract (.t 10) 2, none⟩,
    ⟨some 6, .cp (.t 17), none⟩,
    ⟨some 7, .cp (.t 18), none⟩,
    ⟨some 9, .cp (.t 19), none⟩] (none))
  (.seq (.block 0
    (.seq (.region [
      ⟨some 21, .cp (.t 9), none⟩,
      ⟨some 22, .bin .neq (.t 21) (.c (.s (.int .i64 0))), none⟩,
      ⟨some 20, .cp (.t 22), none⟩] (none))
    (.cond (.t 20)
      .skip
      (.seq (.region [
        ⟨some 24, .cp (.t 6), none⟩,
        ⟨some 25, .bin .lss (.t 24) (.c (.s (.int .i64 0))), none⟩,
        ⟨some 23, .cp (.t 25), none⟩] (none))
      (.cond (.t 23)
        (.region [
          ⟨some 9, .cp (.c (.s (.int .i64 3))), none⟩] (none))
        (.seq (.region [
          ⟨some 27, .cp (.t 6), none⟩,
          ⟨some 28, .cp (.t 1), none⟩,
          ⟨some 29, .bin .gtr (.t 27) (.t 28), none⟩,
          ⟨some 26, .cp (.t 29), none⟩] (none))
        (.cond (.t 26)
          (.region [
            ⟨some 30, .cp (.t 2), none⟩,
            ⟨some 9, .cp (.t 30), none⟩] (none))
          (.seq (.region [
            ⟨some 32, .cp (.t 0), none⟩,
            ⟨some 33, .nilchk (.t 32), none⟩,
            ⟨some 34, .faddr (.t 33) 0, none⟩,
            ⟨some 35, .load 1 false (.t 34), none⟩,
            ⟨some 36, .len true (.t 35), none⟩,
            ⟨some 37, .cp (.t 7), none⟩,
            ⟨some 38, .bin .sub (.t 36) (.t 37), none⟩,
            ⟨some 39, .cp (.t 6), none⟩,
            ⟨some 40, .bin .lss (.t 38) (.t 39), none⟩,
            ⟨some 31, .cp (.t 40), none⟩] (none))
          (.cond (.t 31)
            (.region [
              ⟨some 9, .cp (.c (.s (.int .i64 4))), none⟩] (none))
            .skip)))))))))
  (.seq (.seq (.region [
    ⟨some 41, .cp (.t 9), none⟩,
    ⟨some 42, .bin .neq (.t 41) (.c (.s (.int .i64 0))), none⟩] (none))
  (.cond (.t 42)
    (.seq (.region [
      ⟨some 43, .cp (.t 0), none⟩,
      ⟨some 44, .cp (.t 9), none⟩,
      ⟨some 45, .call false i_encoding_Reader_fail [(.t 43), (.t 44)], none⟩] (none))
    (.seq (.region [
      ⟨some 6, .cp (.c (.s (.int .i64 0))), none⟩,
      ⟨some 7, .cp (.c (.s (.int .i64 0))), none⟩,
      ⟨some 8, .cp (.c (.s (.bool false))), none⟩] (none))
    .ret))
    .skip))
  (.seq (.region [
    ⟨some 46, .cp (.t 6), none⟩,
    ⟨some 47, .cp (.t 7), none⟩,
    ⟨some 6, .cp (.t 46), none⟩,
    ⟨some 7, .cp (.t 47), none⟩,
    ⟨some 8, .cp (.c (.s (.bool true))), none⟩] (none))
  .ret))))) }

def x_encoding_read_api_Value : XF := { np := 2, results := [(.inr (4, 3, true), .v)], body :=
  (.seq (.region [
    ⟨some 3, .box false (.t 1), none⟩,
    ⟨some 4, .alloc [.s (.int .i64 0), .s (.string ⟨#[]⟩), .s (.int .i64 0)], none⟩] (none))
  (.seq (.seq (.region [
    ⟨some 6, .cp (.t 0), none⟩,
    ⟨some 7, .call false i_encoding_Reader_ok [(.t 6)], none⟩,
    ⟨some 8, .un .not (.t 7), none⟩] (none))
  (.cond (.t 8)
    (.seq (.region [
      ⟨some 5, .alloc [.s (.int .i64 0), .s (.string ⟨#[]⟩), .s (.int .i64 0)], none⟩] (none))
    (.seq (.region [
      ⟨some 9, .load 3 true (.t 5), none⟩,
      ⟨none, .store 3 (.t 4) (.t 9), none⟩] (none))
    .ret))
    .skip))
  (.seq (.region [
    ⟨some 10, .load 3 true (.t 3), none⟩,
    ⟨none, .store 3 (.t 4) (.t 10), none⟩] (none))
  .ret))) }

def x_encoding_read_api_Attr : XF := { np := 2, results := [(.inr (4, 4, true), .v)], body :=
  (.seq (.region [
    ⟨some 3, .box false (.t 1), none⟩,
    ⟨some 4, .alloc [.s (.string ⟨#[]⟩), .s (.int .i64 0), .s (.string ⟨#[]⟩), .s (.int .i64 0)], none⟩] (none))
  (.seq (.seq (.region [
    ⟨some 6, .cp (.t 0), none⟩,
    ⟨some 7, .call false i_encoding_Reader_ok [(.t 6)], none⟩,
    ⟨some 8, .un .not (.t 7), none⟩] (none))
  (.cond (.t 8)
    (.seq (.region [
      ⟨some 5, .alloc [.s (.string ⟨#[]⟩), .s (.int .i64 0), .s (.string ⟨#[]⟩), .s (.int .i64 0)], none⟩] (none))
    (.seq (.region [
      ⟨some 9, .load 4 true (.t 5), none⟩,
      ⟨none, .store 4 (.t 4) (.t 9), none⟩] (none))
    .ret))
    .skip))
  (.seq (.region [
    ⟨some 10, .load 4 true (.t 3), none⟩,
    ⟨none, .store 4 (.t 4) (.t 10), none⟩] (none))
  .ret))) }

def x_encoding_read_api_Ref : XF := { np := 2, results := [(.inr (4, 2, true), .v)], body :=
  (.seq (.region [
    ⟨some 3, .box false (.t 1), none⟩,
    ⟨some 4, .alloc [.s (.int .i64 0), .s (.int .i64 0)], none⟩] (none))
  (.seq (.seq (.region [
    ⟨some 6, .cp (.t 0), none⟩,
    ⟨some 7, .call false i_encoding_Reader_ok [(.t 6)], none⟩,
    ⟨some 8, .un .not (.t 7), none⟩] (none))
  (.cond (.t 8)
    (.seq (.region [
      ⟨some 5, .alloc [.s (.int .i64 0), .s (.int .i64 0)], none⟩] (none))
    (.seq (.region [
      ⟨some 9, .load 2 true (.t 5), none⟩,
      ⟨none, .store 2 (.t 4) (.t 9), none⟩] (none))
    .ret))
    .skip))
  (.seq (.region [
    ⟨some 10, .load 2 true (.t 3), none⟩,
    ⟨none, .store 2 (.t 4) (.t 10), none⟩] (none))
  .ret))) }

def x_encoding_read_api_Exchange : XF := { np := 2, results := [(.inr (4, 5, true), .v)], body :=
  (.seq (.region [
    ⟨some 3, .box false (.t 1), none⟩,
    ⟨some 4, .alloc [.s (.int .i64 0), .s (.int .i64 0), .s (.int .i64 0), .s (.int .i64 0), .s (.int .i64 0)], none⟩] (none))
  (.seq (.seq (.region [
    ⟨some 6, .cp (.t 0), none⟩,
    ⟨some 7, .call false i_encoding_Reader_ok [(.t 6)], none⟩,
    ⟨some 8, .un .not (.t 7), none⟩] (none))
  (.cond (.t 8)
    (.seq (.region [
      ⟨some 5, .alloc [.s (.int .i64 0), .s (.int .i64 0), .s (.int .i64 0), .s (.int .i64 0), .s (.int .i64 0)], none⟩] (none))
    (.seq (.region [
      ⟨some 9, .load 5 true (.t 5), none⟩,
      ⟨none, .store 5 (.t 4) (.t 9), none⟩] (none))
    .ret))
    .skip))
  (.seq (.region [
    ⟨some 10, .load 5 true (.t 3), none⟩,
    ⟨none, .store 5 (.t 4) (.t 10), none⟩] (none))
  .ret))) }

def x_encoding_read_api_Message : XF := { np := 2, results := [(.inr (4, 10, true), .v)], body :=
  (.seq (.region [
    ⟨some 3, .box false (.t 1), none⟩,
    ⟨some 4, .alloc [.s (.int .i64 0), .s (.int .i64 0), .s (.int .i64 0), .s (.int .i64 0), .s (.int .i64 0), .s (.int .i64 0), .s (.int .i64 0), .s (.int .i64 0), .s (.int .i64 0), .s (.int .i64 0)], none⟩] (none))
  (.seq (.seq (.region [
    ⟨some 6, .cp (.t 0), none⟩,
    ⟨some 7, .call false i_encoding_Reader_ok [(.t 6)], none⟩,
    ⟨some 8, .un .not (.t 7), none⟩] (none))
  (.cond (.t 8)
    (.seq (.region [
      ⟨some 5, .alloc [.s (.int .i64 0), .s (.int .i64 0), .s (.int .i64 0), .s (.int .i64 0), .s (.int .i64 0), .s (.int .i64 0), .s (.int .i64 0), .s (.int .i64 0), .s (.int .i64 0), .s (.int .i64 0)], none⟩] (none))
    (.seq (.region [
      ⟨some 9, .load 10 true (.t 5), none⟩,
      ⟨none, .store 10 (.t 4) (.t 9), none⟩] (none))
    .ret))
    .skip))
  (.seq (.region [
    ⟨some 10, .load 10 true (.t 3), none⟩,
    ⟨none, .store 10 (.t 4) (.t 10), none⟩] (none))
  .ret))) }

def x_encoding_elements_api_Attr_l0 : XC :=
  (.seq (.region [
    ⟨some 10, .bin .lss (.t 9) (.t 8), none⟩] (none))
  (.seq (.cond (.t 10)
    .skip
    (.exit 0))
  (.seq (.block 1
    (.seq (.region [
      ⟨some 11, .cp (.t 1), none⟩,
      ⟨some 12, .callv false (.t 11) [], none⟩,
      ⟨some 6, .alloc [.s (.string ⟨#[]⟩), .s (.int .i64 0), .s (.string ⟨#[]⟩), .s (.int .i64 0)], none⟩,
      ⟨none, .store 4 (.t 6) (.t 12), none⟩] (none))
    (.seq (.seq (.region [
      ⟨some 13, .cp (.t 0), none⟩,
      ⟨some 14, .call false i_encoding_Reader_ok [(.t 13)], none⟩,
      ⟨some 15, .un .not (.t 14), none⟩] (none))
    (.cond (.t 15)
      (.seq (.region [
        ⟨some 4, .cp (.c (.s (.slice none 0 0))), none⟩] (none))
      .ret)
      .skip))
    (.region [
      ⟨some 16, .cp (.t 5), none⟩,
      ⟨some 17, .load 4 true (.t 6), none⟩,
      ⟨some 18, .bslice false 4 [(.t 17)], none⟩,
      ⟨some 19, .append 4 2932031007402 (.t 16) (.t 18), none⟩,
      ⟨some 5, .cp (.t 19), none⟩] (none)))))
  (.region [
    ⟨some 20, .bin .add (.t 9) (.c (.s (.int .i64 1))), none⟩,
    ⟨some 9, .cp (.t 20), none⟩] (none)))))
def x_encoding_elements_api_Attr : XF := { np := 2, results := [(.inl 4, .v)], body :=
  (.seq (.region [
    ⟨some 4, .cp (.c (.s (.slice none 0 0))), none⟩] (none))
  (.seq (.region [
    ⟨some 5, .cp (.c (.s (.slice none 0 0))), none⟩] (none))
  (.seq (.seq (.region [
    ⟨some 7, .cp (.t 0), none⟩,
    ⟨some 8, .call false i_encoding_Reader_Count [(.t 7), (.c (.s (.int .i64 4096)))], none⟩,
    ⟨some 9, .cp (.c (.s (.int .i64 0))), none⟩] (none))
  (.block 0
    (.loop x_encoding_elements_api_Attr_l0)))
  (.seq (.region [
    ⟨some 21, .cp (.t 5), none⟩,
    ⟨some 4, .cp (.t 21), none⟩] (none))
  .ret)))) }

def x_encoding_elements_api_Ref_l0 : XC :=
  (.seq (.region [
    ⟨some 10, .bin .lss (.t 9) (.t 8), none⟩] (none))
  (.seq (.cond (.t 10)
    .skip
    (.exit 0))
  (.seq (.block 1
    (.seq (.region [
      ⟨some 11, .cp (.t 1), none⟩,
      ⟨some 12, .callv false (.t 11) [], none⟩,
      ⟨some 6, .alloc [.s (.int .i64 0), .s (.int .i64 0)], none⟩,
      ⟨none, .store 2 (.t 6) (.t 12), none⟩] (none))
    (.seq (.seq (.region [
      ⟨some 13, .cp (.t 0), none⟩,
      ⟨some 14, .call false i_encoding_Reader_ok [(.t 13)], none⟩,
      ⟨some 15, .un .not (.t 14), none⟩] (none))
    (.cond (.t 15)
      (.seq (.region [
        ⟨some 4, .cp (.c (.s (.slice none 0 0))), none⟩] (none))
      .ret)
      .skip))
    (.region [
      ⟨some 16, .cp (.t 5), none⟩,
      ⟨some 17, .load 2 true (.t 6), none⟩,
      ⟨some 18, .bslice false 2 [(.t 17)], none⟩,
      ⟨some 19, .append 2 8796093022208 (.t 16) (.t 18), none⟩,
      ⟨some 5, .cp (.t 19), none⟩] (none)))))
  (.region [
    ⟨some 20, .bin .add (.t 9) (.c (.s (.int .i64 1))), none⟩,
    ⟨some 9, .cp (.t 20), none⟩] (none)))))
def x_encoding_elements_api_Ref : XF := { np := 2, results := [(.inl 4, .v)], body :=
  (.seq (.region [
    ⟨some 4, .cp (.c (.s (.slice none 0 0))), none⟩] (none))
  (.seq (.region [
    ⟨some 5, .cp (.c (.s (.slice none 0 0))), none⟩] (none))
  (.seq (.seq (.region [
    ⟨some 7, .cp (.t 0), none⟩,
    ⟨some 8, .call false i_encoding_Reader_Count [(.t 7), (.c (.s (.int .i64 4096)))], none⟩,
    ⟨some 9, .cp (.c (.s (.int .i64 0))), none⟩] (none))
  (.block 0
    (.loop x_encoding_elements_api_Ref_l0)))
  (.seq (.region [
    ⟨some 21, .cp (.t 5), none⟩,
    ⟨some 4, .cp (.t 21), none⟩] (none))
  .ret)))) }

def x_encoding_read_api_Span : XF := { np := 2, results := [(.inr (4, 14, true), .v)], body :=
  (.seq (.region [
    ⟨some 3, .box false (.t 1), none⟩,
    ⟨some 4, .alloc [.s (.int .i64 0), .s (.int .i64 0), .s (.int .i64 0), .s (.int .i64 0), .s (.int .i64 0), .s (.int .i64 0), .s (.string ⟨#[]⟩), .s (.string ⟨#[]⟩), .s (.string ⟨#[]⟩), .s (.int .i64 0), .s (.int .i64 0), .s (.bool false), .s (.slice none 0 0), .s (.slice none 0 0)], none⟩] (none))
  (.seq (.seq (.region [
    ⟨some 6, .cp (.t 0), none⟩,
    ⟨some 7, .call false i_encoding_Reader_ok [(.t 6)], none⟩,
    ⟨some 8, .un .not (.t 7), none⟩] (none))
  (.cond (.t 8)
    (.seq (.region [
      ⟨some 5, .alloc [.s (.int .i64 0), .s (.int .i64 0), .s (.int .i64 0), .s (.int .i64 0), .s (.int .i64 0), .s (.int .i64 0), .s (.string ⟨#[]⟩), .s (.string ⟨#[]⟩), .s (.string ⟨#[]⟩), .s (.int .i64 0), .s (.int .i64 0), .s (.bool false), .s (.slice none 0 0), .s (.slice none 0 0)], none⟩] (none))
    (.seq (.region [
      ⟨some 9, .load 14 true (.t 5), none⟩,
      ⟨none, .store 14 (.t 4) (.t 9), none⟩] (none))
    .ret))
    .skip))
  (.seq (.region [
    ⟨some 10, .load 14 true (.t 3), none⟩,
    ⟨none, .store 14 (.t 4) (.t 10), none⟩] (none))
  .ret))) }

def x_sleuthref01_number_l0 : XC :=
  (.seq (.seq (.region [
    ⟨some 45, .cp (.t 9), none⟩,
    ⟨some 46, .cp (.t 6), none⟩,
    ⟨some 47, .bin .lss (.t 45) (.t 46), none⟩] (none))
  (.cond (.t 47)
    .skip
    (.exit 0)))
  (.seq (.block 1
    (.seq (.region [
      ⟨some 50, .faddr (.t 1) 0, none⟩,
      ⟨some 51, .load 1 false (.t 50), none⟩,
      ⟨some 52, .faddr (.t 1) 1, none⟩,
      ⟨some 53, .load 1 false (.t 52), none⟩,
      ⟨some 54, .bin .add (.t 53) (.c (.s (.int .i64 1))), none⟩,
      ⟨some 55, .cp (.t 9), none⟩,
      ⟨some 56, .bin .add (.t 54) (.t 55), none⟩,
      ⟨some 57, .idxS (.t 51) (.t 56), none⟩,
      ⟨some 10, .cp (.t 57), none⟩] (none))
    (.seq (.seq (.region [
      ⟨some 58, .cp (.t 7), none⟩] (none))
    (.cond (.t 58)
      (.region [
        ⟨some 59, .cp (.t 10), none⟩,
        ⟨some 60, .bin .sub (.c (.s (.int .u8 255))) (.t 59), none⟩,
        ⟨some 10, .cp (.t 60), none⟩] (none))
      .skip))
    (.seq (.seq (.region [
      ⟨some 61, .cp (.t 9), none⟩,
      ⟨some 62, .bin .eql (.t 61) (.c (.s (.int .i64 0))), none⟩,
      ⟨some 63, .cp (.t 62), none⟩,
      ⟨some 64, .cp (.t 10), some (63, true)⟩,
      ⟨some 65, .bin .eql (.t 64) (.c (.s (.int .u8 0))), some (63, true)⟩,
      ⟨some 66, .pick (.t 63) (.t 65) (.c (.s (.bool false))), none⟩] (none))
    (.cond (.t 66)
      (.seq (.region [
        ⟨some 2, .cp (.c (.s (.int .i64 0))), none⟩,
        ⟨some 3, .cp (.c (.s (.int .i64 0))), none⟩,
        ⟨some 4, .cp (.c (.s (.int .i64 3))), none⟩] (none))
      .ret)
      .skip))
    (.region [
      ⟨some 67, .cp (.t 8), none⟩,
      ⟨some 68, .bin .mul (.t 67) (.c (.s (.int .u64 256))), none⟩,
      ⟨some 69, .cp (.t 10), none⟩,
      ⟨some 70, .conv .u64 (.t 69), none⟩,
      ⟨some 71, .bin .add (.t 68) (.t 70), none⟩,
      ⟨some 8, .cp (.t 71), none⟩] (none))))))
  (.region [
    ⟨some 48, .cp (.t 9), none⟩,
    ⟨some 49, .bin .add (.t 48) (.c (.s (.int .i64 1))), none⟩,
    ⟨some 9, .cp (.t 49), none⟩] (none))))
def x_sleuthref01_number : XF := { np := 1, results := [(.inl 2, .v), (.inl 3, .v), (.inl 4, .v)], body :=
  (.seq (.region [
    ⟨some 1, .box false (.t 0), none⟩,
    ⟨some 2, .cp (.c (.s (.int .i64 0))), none⟩,
    ⟨some 3, .cp (.c (.s (.int .i64 0))), none⟩,
    ⟨some 4, .cp (.c (.s (.int .i64 0))), none⟩] (none))
  (.seq (.seq (.region [
    ⟨some 12, .faddr (.t 1) 1, none⟩,
    ⟨some 13, .load 1 false (.t 12), none⟩,
    ⟨some 14, .faddr (.t 1) 0, none⟩,
    ⟨some 15, .load 1 false (.t 14), none⟩,
    ⟨some 16, .len true (.t 15), none⟩,
    ⟨some 17, .bin .geq (.t 13) (.t 16), none⟩] (none))
  (.cond (.t 17)
    (.seq (.region [
      ⟨some 2, .cp (.c (.s (.int .i64 0))), none⟩,
      ⟨some 3, .cp (.c (.s (.int .i64 0))), none⟩,
      ⟨some 4, .cp (.c (.s (.int .i64 4))), none⟩] (none))
    .ret)
    .skip))
  (.seq (.region [
    ⟨some 18, .faddr (.t 1) 0, none⟩,
    ⟨some 19, .load 1 false (.t 18), none⟩,
    ⟨some 20, .faddr (.t 1) 1, none⟩,
    ⟨some 21, .load 1 false (.t 20), none⟩,
    ⟨some 22, .idxS (.t 19) (.t 21), none⟩,
    ⟨some 23, .conv .i64 (.t 22), none⟩,
    ⟨some 5, .cp (.t 23), none⟩] (none))
  (.seq (.seq (.region [
    ⟨some 24, .cp (.t 5), none⟩,
    ⟨some 25, .bin .lss (.t 24) (.c (.s (.int .i64 120))), none⟩,
    ⟨some 26, .cp (.t 25), none⟩,
    ⟨some 27, .cp (.t 5), some (26, false)⟩,
    ⟨some 28, .bin .gtr (.t 27) (.c (.s (.int .i64 136))), some (26, false)⟩,
    ⟨some 29, .pick (.t 26) (.c (.s (.bool true))) (.t 28), none⟩] (none))
  (.cond (.t 29)
    (.seq (.region [
      ⟨some 2, .cp (.c (.s (.int .i64 0))), none⟩,
      ⟨some 3, .cp (.c (.s (.int .i64 0))), none⟩,
      ⟨some 4, .cp (.c (.s (.int .i64 3))), none⟩] (none))
    .ret)
    .skip))
  (.seq (.region [
    ⟨some 30, .cp (.t 5), none⟩,
    ⟨some 31, .bin .sub (.t 30) (.c (.s (.int .i64 128))), none⟩,
    ⟨some 6, .cp (.t 31), none⟩,
    ⟨some 7, .cp (.c (.s (.bool false))), none⟩] (none))
  (.seq (.seq (.region [
    ⟨some 32, .cp (.t 6), none⟩,
    ⟨some 33, .bin .lss (.t 32) (.c (.s (.int .i64 0))), none⟩] (none))
  (.cond (.t 33)
    (.region [
      ⟨some 34, .cp (.t 6), none⟩,
      ⟨some 35, .bin .sub (.c (.s (.int .i64 0))) (.t 34), none⟩,
      ⟨some 6, .cp (.t 35), none⟩,
      ⟨some 7, .cp (.c (.s (.bool true))), none⟩] (none))
    .skip))
  (.seq (.seq (.region [
    ⟨some 36, .faddr (.t 1) 0, none⟩,
    ⟨some 37, .load 1 false (.t 36), none⟩,
    ⟨some 38, .len true (.t 37), none⟩,
    ⟨some 39, .faddr (.t 1) 1, none⟩,
    ⟨some 40, .load 1 false (.t 39), none⟩,
    ⟨some 41, .bin .sub (.t 38) (.t 40), none⟩,
    ⟨some 42, .bin .sub (.t 41) (.c (.s (.int .i64 1))), none⟩,
    ⟨some 43, .cp (.t 6), none⟩,
    ⟨some 44, .bin .lss (.t 42) (.t 43), none⟩] (none))
  (.cond (.t 44)
    (.seq (.region [
      ⟨some 2, .cp (.c (.s (.int .i64 0))), none⟩,
      ⟨some 3, .cp (.c (.s (.int .i64 0))), none⟩,
      ⟨some 4, .cp (.c (.s (.int .i64 4))), none⟩] (none))
    .ret)
    .skip))
  (.seq (.region [
    ⟨some 8, .cp (.c (.s (.int .u64 0))), none⟩] (none))
  (.seq (.seq (.region [
    ⟨some 9, .cp (.c (.s (.int .i64 0))), none⟩] (none))
  (.block 0
    (.loop x_sleuthref01_number_l0)))
  (.seq (.region [
    ⟨some 72, .faddr (.t 1) 1, none⟩,
    ⟨some 73, .load 1 false (.t 72), none⟩,
    ⟨some 74, .bin .add (.t 73) (.c (.s (.int .i64 1))), none⟩,
    ⟨some 75, .cp (.t 6), none⟩,
    ⟨some 76, .bin .add (.t 74) (.t 75), none⟩,
    ⟨some 11, .cp (.t 76), none⟩] (none))
  (.seq (.seq (.region [
    ⟨some 77, .cp (.t 7), none⟩,
    ⟨some 78, .un .not (.t 77), none⟩,
    ⟨some 79, .cp (.t 78), none⟩,
    ⟨some 80, .cp (.t 8), some (79, true)⟩,
    ⟨some 81, .bin .gtr (.t 80) (.c (.s (.int .u64 9223372036854775807))), some (79, true)⟩,
    ⟨some 82, .pick (.t 79) (.t 81) (.c (.s (.bool false))), none⟩,
    ⟨some 83, .cp (.t 82), none⟩,
    ⟨some 84, .cp (.t 7), some (83, false)⟩,
    ⟨some 85, .cp (.t 84), some (83, false)⟩,
    ⟨some 86, .cp (.t 8), some (85, true)⟩,
    ⟨some 87, .bin .gtr (.t 86) (.c (.s (.int .u64 9223372036854775808))), some (85, true)⟩,
    ⟨some 88, .pick (.t 85) (.t 87) (.c (.s (.bool false))), some (83, false)⟩,
    ⟨some 89, .pick (.t 83) (.c (.s (.bool true))) (.t 88), none⟩] (none))
  (.cond (.t 89)
    (.seq (.region [
      ⟨some 2, .cp (.c (.s (.int .i64 0))), none⟩,
      ⟨some 3, .cp (.c (.s (.int .i64 0))), none⟩,
      ⟨some 4, .cp (.c (.s (.int .i64 3))), none⟩] (none))
    .ret)
    .skip))
  (.seq (.seq (.region [
    ⟨some 90, .cp (.t 7), none⟩] (none))
  (.cond (.t 90)
    (.seq (.region [
      ⟨some 91, .cp (.t 8), none⟩,
      ⟨some 92, .bin .sub (.t 91) (.c (.s (.int .u64 1))), none⟩,
      ⟨some 93, .conv .i64 (.t 92), none⟩,
      ⟨some 94, .bin .sub (.c (.s (.int .i64 0))) (.t 93), none⟩,
      ⟨some 95, .bin .sub (.t 94) (.c (.s (.int .i64 1))), none⟩,
      ⟨some 96, .cp (.t 11), none⟩,
      ⟨some 2, .cp (.t 95), none⟩,
      ⟨some 3, .cp (.t 96), none⟩,
      ⟨some 4, .cp (.c (.s (.int .i64 0))), none⟩] (none))
    .ret)
    .skip))
  (.seq (.region [
    ⟨some 97, .cp (.t 8), none⟩,
    ⟨some 98, .conv .i64 (.t 97), none⟩,
    ⟨some 99, .cp (.t 11), none⟩,
    ⟨some 2, .cp (.t 98), none⟩,
    ⟨some 3, .cp (.t 99), none⟩,
    ⟨some 4, .cp (.c (.s (.int .i64 0))), none⟩] (none))
  .ret))))))))))))) }

def x_sleuthref01_sized : XF := { np := 3, results := [(.inl 6, .v)], body :=
  (.seq (.region [
    ⟨some 6, .cp (.c (.s (.int .i64 0))), none⟩] (none))
  (.seq (.region [
    ⟨some 9, .cp (.t 0), none⟩,
    ⟨some 10, .nilchk (.t 9), none⟩,
    ⟨some 11, .faddr (.t 10) 1, none⟩,
    ⟨some 12, .load 1 false (.t 11), none⟩,
    ⟨some 7, .cp (.t 12), none⟩] (none))
  (.seq (.region [
    ⟨some 13, .cp (.t 0), none⟩,
    ⟨some 14, .call false i_sleuthref01_ReadNumber [(.t 13)], none⟩,
    ⟨some 8, .cp (.t 14), none⟩] (none))
  (.seq (.seq (.region [
    ⟨some 15, .cp (.t 0), none⟩,
    ⟨some 16, .nilchk (.t 15), none⟩,
    ⟨some 17, .faddr (.t 16) 2, none⟩,
    ⟨some 18, .load 1 false (.t 17), none⟩,
    ⟨some 19, .bin .neq (.t 18) (.c (.s (.int .i64 0))), none⟩] (none))
  (.cond (.t 19)
    (.seq (.region [
      ⟨some 6, .cp (.c (.s (.int .i64 0))), none⟩] (none))
    .ret)
    .skip))
  (.seq (.seq (.region [
    ⟨some 20, .cp (.t 8), none⟩,
    ⟨some 21, .bin .lss (.t 20) (.c (.s (.int .i64 0))), none⟩] (none))
  (.cond (.t 21)
    (.region [
      ⟨some 22, .cp (.t 0), none⟩,
      ⟨some 23, .nilchk (.t 22), none⟩,
      ⟨some 24, .faddr (.t 23) 2, none⟩,
      ⟨none, .store 1 (.t 24) (.c (.s (.int .i64 3))), none⟩] (none))
    (.seq (.region [
      ⟨some 25, .cp (.t 8), none⟩,
      ⟨some 26, .cp (.t 1), none⟩,
      ⟨some 27, .bin .gtr (.t 25) (.t 26), none⟩] (none))
    (.cond (.t 27)
      (.region [
        ⟨some 28, .cp (.t 0), none⟩,
        ⟨some 29, .cp (.t 2), none⟩,
        ⟨some 30, .nilchk (.t 28), none⟩,
        ⟨some 31, .faddr (.t 30) 2, none⟩,
        ⟨none, .store 1 (.t 31) (.t 29), none⟩] (none))
      (.seq (.region [
        ⟨some 32, .cp (.t 8), none⟩,
        ⟨some 33, .cp (.t 0), none⟩,
        ⟨some 34, .nilchk (.t 33), none⟩,
        ⟨some 35, .faddr (.t 34) 0, none⟩,
        ⟨some 36, .load 1 false (.t 35), none⟩,
        ⟨some 37, .len true (.t 36), none⟩,
        ⟨some 38, .cp (.t 0), none⟩,
        ⟨some 39, .nilchk (.t 38), none⟩,
        ⟨some 40, .faddr (.t 39) 1, none⟩,
        ⟨some 41, .load 1 false (.t 40), none⟩,
        ⟨some 42, .bin .sub (.t 37) (.t 41), none⟩,
        ⟨some 43, .bin .gtr (.t 32) (.t 42), none⟩] (some []))
      (.cond (.t 43)
        (.region [
          ⟨some 44, .cp (.t 0), none⟩,
          ⟨some 45, .nilchk (.t 44), none⟩,
          ⟨some 46, .faddr (.t 45) 2, none⟩,
          ⟨none, .store 1 (.t 46) (.c (.s (.int .i64 4))), none⟩] (none))
        .skip))))))
  (.seq (.seq (.region [
    ⟨some 47, .cp (.t 0), none⟩,
    ⟨some 48, .nilchk (.t 47), none⟩,
    ⟨some 49, .faddr (.t 48) 2, none⟩,
    ⟨some 50, .load 1 false (.t 49), none⟩,
    ⟨some 51, .bin .neq (.t 50) (.c (.s (.int .i64 0))), none⟩] (none))
  (.cond (.t 51)
    (.seq (.region [
      ⟨some 52, .cp (.t 0), none⟩,
      ⟨some 53, .cp (.t 7), none⟩,
      ⟨some 54, .nilchk (.t 52), none⟩,
      ⟨some 55, .faddr (.t 54) 1, none⟩,
      ⟨none, .store 1 (.t 55) (.t 53), none⟩] (none))
    (.seq (.region [
      ⟨some 6, .cp (.c (.s (.int .i64 0))), none⟩] (none))
    .ret))
    .skip))
  (.seq (.region [
    ⟨some 56, .cp (.t 8), none⟩,
    ⟨some 6, .cp (.t 56), none⟩] (none))
  .ret))))))) }

def XP : Nat → Option XF := fun n => ([some x_sleuthlaw01_EncodingOrder, some x_sleuthlaw01_EncodingNumbers, some x_sleuthlaw01_EncodingWrites, some x_sleuthlaw01_EncodingReads, some x_sleuthlaw01_EncodingDecodes, some x_sleuthlaw01_EncodingSpans, some x_sleuthlaw01_EncodingCuts, some x_sleuthlaw01_EncodingNil, some x_sleuthlaw01_EncodingFragments, some x_encoding_Writer_Number, some x_encoding_Writer_Bytes, some x_sleuthlaw01_known, some x_encoding_NewReader, some x_sleuthref01_Number, some x_encoding_Writer_Len, some x_encoding_Reader_Number, some x_encoding_Reader_End, some x_encoding_Reader_Left, some x_sleuthlaw01_part, some x_sleuthlaw01_reads, some x_encoding_Reader_Err, some x_sleuthref01_End, some x_encoding_DecodeSpan, some x_encoding_DecodeFragment, some x_encoding_DecodeTrace, some x_sleuthref01_ReadSpan, some x_sleuthref01_Span, some x_sleuthref01_Fragment, some x_sleuthref01_Trace, some x_sleuthlaw01_short, some x_encoding_EncodeSpan, some x_sleuthlaw01_shortSpans, some x_encoding_EncodeFragment, some x_encoding_Writer_Bool, some x_encoding_Writer_Text, some x_encoding_Writer_Span, some x_encoding_Writer_Message, some x_encoding_Reader_Bool, some x_encoding_Reader_Text, some x_encoding_Reader_Count, some x_encoding_Reader_Value, some x_encoding_Reader_Attr, some x_encoding_Reader_Ref, some x_encoding_Reader_Exchange, some x_encoding_Reader_Message, some x_encoding_Reader_Span, some x_encoding_EncodeTrace, some x_encoding_magnitude, some x_encoding_Writer_Attr, some x_sleuthref01_magnitude, some x_encoding_Reader_ok, some x_encoding_Reader_number, some x_encoding_Reader_fail, some x_sleuthref01_Bool, some x_sleuthref01_Text, some x_encoding_Writer_Value, some x_sleuthref01_Value, some x_sleuthref01_Attr, some x_encoding_Writer_Ref, some x_sleuthref01_Ref, some x_encoding_Writer_Exchange, some x_sleuthref01_Exchange, some x_sleuthref01_Message, some x_sleuthref01_ReadNumber, some x_sleuthref01_ReadBool, some x_sleuthref01_ReadText, some x_sleuthref01_ReadCount, some x_sleuthref01_ReadValue, some x_sleuthref01_ReadAttr, some x_sleuthref01_ReadRef, some x_sleuthref01_ReadExchange, some x_sleuthref01_ReadMessage, some x_encoding_Reader_numbers, some x_encoding_elements_api_Span, some x_encoding_elements_api_Exchange, some x_sleuthref01_Spans, some x_encoding_Writer_numbers, some x_encoding_list_api_Span, some x_encoding_list_api_Exchange, some x_encoding_list_api_Attr, some x_encoding_list_api_Ref, some x_encoding_Reader_size, some x_encoding_read_api_Value, some x_encoding_read_api_Attr, some x_encoding_read_api_Ref, some x_encoding_read_api_Exchange, some x_encoding_read_api_Message, some x_encoding_elements_api_Attr, some x_encoding_elements_api_Ref, some x_encoding_read_api_Span, some x_sleuthref01_number, some x_sleuthref01_sized] : List (Option XF)).getD n none
theorem xp_sleuthlaw01_EncodingOrder : XP i_sleuthlaw01_EncodingOrder = some x_sleuthlaw01_EncodingOrder := rfl
theorem xp_sleuthlaw01_EncodingNumbers : XP i_sleuthlaw01_EncodingNumbers = some x_sleuthlaw01_EncodingNumbers := rfl
theorem xp_sleuthlaw01_EncodingWrites : XP i_sleuthlaw01_EncodingWrites = some x_sleuthlaw01_EncodingWrites := rfl
theorem xp_sleuthlaw01_EncodingReads : XP i_sleuthlaw01_EncodingReads = some x_sleuthlaw01_EncodingReads := rfl
theorem xp_sleuthlaw01_EncodingDecodes : XP i_sleuthlaw01_EncodingDecodes = some x_sleuthlaw01_EncodingDecodes := rfl
theorem xp_sleuthlaw01_EncodingSpans : XP i_sleuthlaw01_EncodingSpans = some x_sleuthlaw01_EncodingSpans := rfl
theorem xp_sleuthlaw01_EncodingCuts : XP i_sleuthlaw01_EncodingCuts = some x_sleuthlaw01_EncodingCuts := rfl
theorem xp_sleuthlaw01_EncodingNil : XP i_sleuthlaw01_EncodingNil = some x_sleuthlaw01_EncodingNil := rfl
theorem xp_sleuthlaw01_EncodingFragments : XP i_sleuthlaw01_EncodingFragments = some x_sleuthlaw01_EncodingFragments := rfl
theorem xp_encoding_Writer_Number : XP i_encoding_Writer_Number = some x_encoding_Writer_Number := rfl
theorem xp_encoding_Writer_Bytes : XP i_encoding_Writer_Bytes = some x_encoding_Writer_Bytes := rfl
theorem xp_sleuthlaw01_known : XP i_sleuthlaw01_known = some x_sleuthlaw01_known := rfl
theorem xp_encoding_NewReader : XP i_encoding_NewReader = some x_encoding_NewReader := rfl
theorem xp_sleuthref01_Number : XP i_sleuthref01_Number = some x_sleuthref01_Number := rfl
theorem xp_encoding_Writer_Len : XP i_encoding_Writer_Len = some x_encoding_Writer_Len := rfl
theorem xp_encoding_Reader_Number : XP i_encoding_Reader_Number = some x_encoding_Reader_Number := rfl
theorem xp_encoding_Reader_End : XP i_encoding_Reader_End = some x_encoding_Reader_End := rfl
theorem xp_encoding_Reader_Left : XP i_encoding_Reader_Left = some x_encoding_Reader_Left := rfl
theorem xp_sleuthlaw01_part : XP i_sleuthlaw01_part = some x_sleuthlaw01_part := rfl
theorem xp_sleuthlaw01_reads : XP i_sleuthlaw01_reads = some x_sleuthlaw01_reads := rfl
theorem xp_encoding_Reader_Err : XP i_encoding_Reader_Err = some x_encoding_Reader_Err := rfl
theorem xp_sleuthref01_End : XP i_sleuthref01_End = some x_sleuthref01_End := rfl
theorem xp_encoding_DecodeSpan : XP i_encoding_DecodeSpan = some x_encoding_DecodeSpan := rfl
theorem xp_encoding_DecodeFragment : XP i_encoding_DecodeFragment = some x_encoding_DecodeFragment := rfl
theorem xp_encoding_DecodeTrace : XP i_encoding_DecodeTrace = some x_encoding_DecodeTrace := rfl
theorem xp_sleuthref01_ReadSpan : XP i_sleuthref01_ReadSpan = some x_sleuthref01_ReadSpan := rfl
theorem xp_sleuthref01_Span : XP i_sleuthref01_Span = some x_sleuthref01_Span := rfl
theorem xp_sleuthref01_Fragment : XP i_sleuthref01_Fragment = some x_sleuthref01_Fragment := rfl
theorem xp_sleuthref01_Trace : XP i_sleuthref01_Trace = some x_sleuthref01_Trace := rfl
theorem xp_sleuthlaw01_short : XP i_sleuthlaw01_short = some x_sleuthlaw01_short := rfl
theorem xp_encoding_EncodeSpan : XP i_encoding_EncodeSpan = some x_encoding_EncodeSpan := rfl
theorem xp_sleuthlaw01_shortSpans : XP i_sleuthlaw01_shortSpans = some x_sleuthlaw01_shortSpans := rfl
theorem xp_encoding_EncodeFragment : XP i_encoding_EncodeFragment = some x_encoding_EncodeFragment := rfl
theorem xp_encoding_Writer_Bool : XP i_encoding_Writer_Bool = some x_encoding_Writer_Bool := rfl
theorem xp_encoding_Writer_Text : XP i_encoding_Writer_Text = some x_encoding_Writer_Text := rfl
theorem xp_encoding_Writer_Span : XP i_encoding_Writer_Span = some x_encoding_Writer_Span := rfl
theorem xp_encoding_Writer_Message : XP i_encoding_Writer_Message = some x_encoding_Writer_Message := rfl
theorem xp_encoding_Reader_Bool : XP i_encoding_Reader_Bool = some x_encoding_Reader_Bool := rfl
theorem xp_encoding_Reader_Text : XP i_encoding_Reader_Text = some x_encoding_Reader_Text := rfl
theorem xp_encoding_Reader_Count : XP i_encoding_Reader_Count = some x_encoding_Reader_Count := rfl
theorem xp_encoding_Reader_Value : XP i_encoding_Reader_Value = some x_encoding_Reader_Value := rfl
theorem xp_encoding_Reader_Attr : XP i_encoding_Reader_Attr = some x_encoding_Reader_Attr := rfl
theorem xp_encoding_Reader_Ref : XP i_encoding_Reader_Ref = some x_encoding_Reader_Ref := rfl
theorem xp_encoding_Reader_Exchange : XP i_encoding_Reader_Exchange = some x_encoding_Reader_Exchange := rfl
theorem xp_encoding_Reader_Message : XP i_encoding_Reader_Message = some x_encoding_Reader_Message := rfl
theorem xp_encoding_Reader_Span : XP i_encoding_Reader_Span = some x_encoding_Reader_Span := rfl
theorem xp_encoding_EncodeTrace : XP i_encoding_EncodeTrace = some x_encoding_EncodeTrace := rfl
theorem xp_encoding_magnitude : XP i_encoding_magnitude = some x_encoding_magnitude := rfl
theorem xp_encoding_Writer_Attr : XP i_encoding_Writer_Attr = some x_encoding_Writer_Attr := rfl
theorem xp_sleuthref01_magnitude : XP i_sleuthref01_magnitude = some x_sleuthref01_magnitude := rfl
theorem xp_encoding_Reader_ok : XP i_encoding_Reader_ok = some x_encoding_Reader_ok := rfl
theorem xp_encoding_Reader_number : XP i_encoding_Reader_number = some x_encoding_Reader_number := rfl
theorem xp_encoding_Reader_fail : XP i_encoding_Reader_fail = some x_encoding_Reader_fail := rfl
theorem xp_sleuthref01_Bool : XP i_sleuthref01_Bool = some x_sleuthref01_Bool := rfl
theorem xp_sleuthref01_Text : XP i_sleuthref01_Text = some x_sleuthref01_Text := rfl
theorem xp_encoding_Writer_Value : XP i_encoding_Writer_Value = some x_encoding_Writer_Value := rfl
theorem xp_sleuthref01_Value : XP i_sleuthref01_Value = some x_sleuthref01_Value := rfl
theorem xp_sleuthref01_Attr : XP i_sleuthref01_Attr = some x_sleuthref01_Attr := rfl
theorem xp_encoding_Writer_Ref : XP i_encoding_Writer_Ref = some x_encoding_Writer_Ref := rfl
theorem xp_sleuthref01_Ref : XP i_sleuthref01_Ref = some x_sleuthref01_Ref := rfl
theorem xp_encoding_Writer_Exchange : XP i_encoding_Writer_Exchange = some x_encoding_Writer_Exchange := rfl
theorem xp_sleuthref01_Exchange : XP i_sleuthref01_Exchange = some x_sleuthref01_Exchange := rfl
theorem xp_sleuthref01_Message : XP i_sleuthref01_Message = some x_sleuthref01_Message := rfl
theorem xp_sleuthref01_ReadNumber : XP i_sleuthref01_ReadNumber = some x_sleuthref01_ReadNumber := rfl
theorem xp_sleuthref01_ReadBool : XP i_sleuthref01_ReadBool = some x_sleuthref01_ReadBool := rfl
theorem xp_sleuthref01_ReadText : XP i_sleuthref01_ReadText = some x_sleuthref01_ReadText := rfl
theorem xp_sleuthref01_ReadCount : XP i_sleuthref01_ReadCount = some x_sleuthref01_ReadCount := rfl
theorem xp_sleuthref01_ReadValue : XP i_sleuthref01_ReadValue = some x_sleuthref01_ReadValue := rfl
theorem xp_sleuthref01_ReadAttr : XP i_sleuthref01_ReadAttr = some x_sleuthref01_ReadAttr := rfl
theorem xp_sleuthref01_ReadRef : XP i_sleuthref01_ReadRef = some x_sleuthref01_ReadRef := rfl
theorem xp_sleuthref01_ReadExchange : XP i_sleuthref01_ReadExchange = some x_sleuthref01_ReadExchange := rfl
theorem xp_sleuthref01_ReadMessage : XP i_sleuthref01_ReadMessage = some x_sleuthref01_ReadMessage := rfl
theorem xp_encoding_Reader_numbers : XP i_encoding_Reader_numbers = some x_encoding_Reader_numbers := rfl
theorem xp_encoding_elements_api_Span : XP i_encoding_elements_api_Span = some x_encoding_elements_api_Span := rfl
theorem xp_encoding_elements_api_Exchange : XP i_encoding_elements_api_Exchange = some x_encoding_elements_api_Exchange := rfl
theorem xp_sleuthref01_Spans : XP i_sleuthref01_Spans = some x_sleuthref01_Spans := rfl
theorem xp_encoding_Writer_numbers : XP i_encoding_Writer_numbers = some x_encoding_Writer_numbers := rfl
theorem xp_encoding_list_api_Span : XP i_encoding_list_api_Span = some x_encoding_list_api_Span := rfl
theorem xp_encoding_list_api_Exchange : XP i_encoding_list_api_Exchange = some x_encoding_list_api_Exchange := rfl
theorem xp_encoding_list_api_Attr : XP i_encoding_list_api_Attr = some x_encoding_list_api_Attr := rfl
theorem xp_encoding_list_api_Ref : XP i_encoding_list_api_Ref = some x_encoding_list_api_Ref := rfl
theorem xp_encoding_Reader_size : XP i_encoding_Reader_size = some x_encoding_Reader_size := rfl
theorem xp_encoding_read_api_Value : XP i_encoding_read_api_Value = some x_encoding_read_api_Value := rfl
theorem xp_encoding_read_api_Attr : XP i_encoding_read_api_Attr = some x_encoding_read_api_Attr := rfl
theorem xp_encoding_read_api_Ref : XP i_encoding_read_api_Ref = some x_encoding_read_api_Ref := rfl
theorem xp_encoding_read_api_Exchange : XP i_encoding_read_api_Exchange = some x_encoding_read_api_Exchange := rfl
theorem xp_encoding_read_api_Message : XP i_encoding_read_api_Message = some x_encoding_read_api_Message := rfl
theorem xp_encoding_elements_api_Attr : XP i_encoding_elements_api_Attr = some x_encoding_elements_api_Attr := rfl
theorem xp_encoding_elements_api_Ref : XP i_encoding_elements_api_Ref = some x_encoding_elements_api_Ref := rfl
theorem xp_encoding_read_api_Span : XP i_encoding_read_api_Span = some x_encoding_read_api_Span := rfl
theorem xp_sleuthref01_number : XP i_sleuthref01_number = some x_sleuthref01_number := rfl
theorem xp_sleuthref01_sized : XP i_sleuthref01_sized = some x_sleuthref01_sized := rfl
end Go.Proofs.Sl
