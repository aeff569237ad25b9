/- Joined: Ids CodesG. -/
import Derived.Test.YtblbepjnkehoaaaGreatDoorG03
import Derived.Test.YtblbepjnkehoaaaGreatDoorProg
import Derived.KernelRfl
set_option linter.unusedSimpArgs false
set_option linter.unusedVariables false
/- The numbers of the program's functions. -/
namespace Go.Proofs.YtblbepjnkehoaaaGreatDoor
def i_main_main : Nat := 0
def i_gosem_cut : Nat := 1
def i_gosem_cut_init : Nat := 2
def i_pilasterlaw25_EncodeSems : Nat := 3
def i_pilasterlaw25_EncodeMoves : Nat := 4
def i_pilasterlaw25_awake : Nat := 5
def i_pilasterlaw25_small : Nat := 6
def i_encode_Sem : Nat := 7
def i_encode_Abs : Nat := 8
def i_pilasterref24_Formed : Nat := 9
def i_pilasterlaw25_none : Nat := 10
def i_pilasterref25_Sem : Nat := 11
def i_pilasterref09_Valid : Nat := 12
def i_pilasterref09_Same : Nat := 13
def i_pilasterref25_Formed : Nat := 14
def i_pilasterref25_Abs : Nat := 15
def i_pilasterlaw25_nodes : Nat := 16
def i_slices_ContainsFunc_Con : Nat := 17
def i_pilasterlaw25_EncodeMoves_1 : Nat := 18
def i_pilasterlaw25_cons : Nat := 19
def i_sem_Shift : Nat := 20
def i_tycon_Shift : Nat := 21
def i_sem_Subst : Nat := 22
def i_tycon_Subst : Nat := 23
def i_pilasterref09_Var : Nat := 24
def i_normal_Text : Nat := 25
def i_pilasterref09_Bound : Nat := 26
def i_pilasterlaw25_kinds : Nat := 27
def i_sem_Size : Nat := 28
def i_encode_encoded : Nat := 29
def i_encode_kinds : Nat := 30
def i_encode_abstract : Nat := 31
def i_pilasterref24_count : Nat := 32
def i_pilasterref25_applied : Nat := 33
def i_pilasterref25_star : Nat := 34
def i_pilasterref09_Arrow : Nat := 35
def i_pilasterref09_Unit : Nat := 36
def i_pilasterref25_Around : Nat := 37
def i_pilasterref09_Small : Nat := 38
def i_pilasterref09_all : Nat := 39
def i_pilasterref09_SameKind : Nat := 40
def i_pilasterref01_Same : Nat := 41
def i_pilasterref25_Kinds : Nat := 42
def i_slices_ContainsFunc_string : Nat := 43
def i_pilasterlaw25_nodes_1 : Nat := 44
def i_slices_IndexFunc_Con : Nat := 45
def i_pilasterlaw25_cons_1 : Nat := 46
def i_sem_formed : Nat := 47
def i_slices_ContainsFunc_int : Nat := 48
def i_sem_free : Nat := 49
def i_sem_Shift_1 : Nat := 50
def i_sem_finish : Nat := 51
def i_sem_rebuild : Nat := 52
def i_sem_Shift_2 : Nat := 53
def i_tycon_Valid : Nat := 54
def i_tycon_each : Nat := 55
def i_tycon_Shift_1 : Nat := 56
def i_tycon_replaced : Nat := 57
def i_tycon_shifted : Nat := 58
def i_sem_Subst_1 : Nat := 59
def i_sem_Subst_2 : Nat := 60
def i_sem_substituted : Nat := 61
def i_tycon_all : Nat := 62
def i_tycon_Subst_1 : Nat := 63
def i_tycon_leafOf : Nat := 64
def i_tycon_variable : Nat := 65
def i_tycon_maker_rebuild : Nat := 66
def i_normal_writer_con : Nat := 67
def i_strings_Builder_Len : Nat := 68
def i_strings_Builder_String : Nat := 69
def i_sem_measure : Nat := 70
def i_encode_applied : Nat := 71
def i_encode_checked : Nat := 72
def i_encode_over : Nat := 73
def i_encode_arrow : Nat := 74
def i_tycon_Unit : Nat := 75
def i_encode_under : Nat := 76
def i_slices_Clone_string : Nat := 77
def i_slices_ContainsFunc_Kind : Nat := 78
def i_encode_kinds_1 : Nat := 79
def i_kind_Valid : Nat := 80
def i_pilasterref24_node : Nat := 81
def i_pilasterref24_HasCon : Nat := 82
def i_pilasterref09_Size : Nat := 83
def i_pilasterref09_App : Nat := 84
def i_pilasterref09_Shift : Nat := 85
def i_pilasterref08_Pair : Nat := 86
def i_pilasterref09_count : Nat := 87
def i_pilasterref09_node : Nat := 88
def i_pilasterref08_All : Nat := 89
def i_slices_IndexFunc_string : Nat := 90
def i_slices_IndexFunc_int : Nat := 91
def i_sem_free_1 : Nat := 92
def i_tycon_Free : Nat := 93
def i_slices_Sort_int : Nat := 94
def i_slices_Clone_Kind : Nat := 95
def i_sem_hasCon : Nat := 96
def i_sem_bound : Nat := 97
def i_tycon_Size : Nat := 98
def i_tycon_depth : Nat := 99
def i_tycon_formed : Nat := 100
def i_tycon_binder : Nat := 101
def i_tycon_shifted_1 : Nat := 102
def i_tycon_all_1 : Nat := 103
def i_tycon_kindOf : Nat := 104
def i_normal_writer_write : Nat := 105
def i_strconv_Itoa : Nat := 106
def i_kind_Text : Nat := 107
def i_normal_writer_fields : Nat := 108
def i_normal_word : Nat := 109
def i_sem_node : Nat := 110
def i_encode_copyKind : Nat := 111
def i_slices_Backward_Kind : Nat := 112
def i_slices_IndexFunc_Kind : Nat := 113
def i_kind_size : Nat := 114
def i_pilasterref24_NoCon : Nat := 115
def i_pilasterref08_Valid : Nat := 116
def i_pilasterref01_IsUpper : Nat := 117
def i_pilasterref24_kinds : Nat := 118
def i_pilasterref24_Module : Nat := 119
def i_pilasterref01_Ascending : Nat := 120
def i_pilasterref01_IsLabel : Nat := 121
def i_pilasterref24_Fits : Nat := 122
def i_pilasterref09_deep : Nat := 123
def i_pilasterref09_inside : Nat := 124
def i_pilasterref09_parts : Nat := 125
def i_pilasterref09_labels : Nat := 126
def i_pilasterref09_ConstName : Nat := 127
def i_pilasterref09_Binder : Nat := 128
def i_tycon_Free_1 : Nat := 129
def i_slices_Compact_int : Nat := 130
def i_slices_pdqsortOrdered_int : Nat := 131
def i_math_bits_Len : Nat := 132
def i_slices_Concat_Kind : Nat := 133
def i_tycon_parts : Nat := 134
def i_tycon_constant : Nat := 135
def i_tycon_labelled : Nat := 136
def i_ident_Ascending : Nat := 137
def i_tycon_formed_1 : Nat := 138
def i_ident_IsLabel : Nat := 139
def i_tycon_formed_2 : Nat := 140
def i_strings_Builder_WriteString : Nat := 141
def i_strconv_Itoa_142 : Nat := 142
def i_kind_write : Nat := 143
def i_sem_right : Nat := 144
def i_tycon_Equal : Nat := 145
def i_ident_IsUpper : Nat := 146
def i_sem_kinds : Nat := 147
def i_slices_Backward_Kind_1 : Nat := 148
def i_pilasterref08_count : Nat := 149
def i_pilasterref01_Word : Nat := 150
def i_pilasterref01_Capital : Nat := 151
def i_pilasterref01_Inner : Nat := 152
def i_pilasterref01_Split : Nat := 153
def i_pilasterref01_Number : Nat := 154
def i_slices_insertionSortOrdered_int : Nat := 155
def i_slices_heapSortOrdered_int : Nat := 156
def i_slices_breakPatternsOrdered_int : Nat := 157
def i_slices_choosePivotOrdered_int : Nat := 158
def i_slices_reverseRangeOrdered_int : Nat := 159
def i_slices_partialInsertionSortOrdered_int : Nat := 160
def i_cmp_Less_int : Nat := 161
def i_slices_partitionEqualOrdered_int : Nat := 162
def i_slices_partitionOrdered_int : Nat := 163
def i_math_bits_Len32 : Nat := 164
def i_math_bits_Len64 : Nat := 165
def i_slices_Grow_Kind : Nat := 166
def i_strings_Cut : Nat := 167
def i_ident_Number : Nat := 168
def i_ident_of : Nat := 169
def i_strings_Builder_copyCheck : Nat := 170
def i_strconv_FormatInt : Nat := 171
def i_strings_Builder_WriteByte : Nat := 172
def i_sem_module : Nat := 173
def i_sem_fits : Nat := 174
def i_tycon_same : Nat := 175
def i_slices_Equal_string : Nat := 176
def i_slices_EqualFunc_Con : Nat := 177
def i_ident_name : Nat := 178
def i_sem_kinds_1 : Nat := 179
def i_pilasterref01_inner : Nat := 180
def i_pilasterref01_Small : Nat := 181
def i_pilasterref01_Digit : Nat := 182
def i_pilasterref01_Heads : Nat := 183
def i_pilasterref01_Fits : Nat := 184
def i_slices_siftDownOrdered_int : Nat := 185
def i_slices_nextPowerOfTwo : Nat := 186
def i_slices_xorshift_Next : Nat := 187
def i_slices_medianAdjacentOrdered_int : Nat := 188
def i_slices_medianOrdered_int : Nat := 189
def i_cmp_isNaN_int : Nat := 190
def i_stringslite_Cut : Nat := 191
def i_strconv_Atoi : Nat := 192
def i_abi_NoEscape : Nat := 193
def i_strconv_small : Nat := 194
def i_strconv_numDigits : Nat := 195
def i_strconv_formatBase10 : Nat := 196
def i_strconv_formatBits : Nat := 197
def i_ident_Split : Nat := 198
def i_slices_EqualFunc_Kind : Nat := 199
def i_pilasterref01_IsLower : Nat := 200
def i_slices_order2Ordered_int : Nat := 201
def i_stringslite_Index : Nat := 202
def i_strconv_Atoi_203 : Nat := 203
def i_strconv_toError : Nat := 204
def i_strconv_log10Pow2 : Nat := 205
def i_strconv_bool2_int : Nat := 206
def i_strconv_isPowerOfTwo : Nat := 207
def i_math_bits_TrailingZeros : Nat := 208
def i_strings_CutPrefix : Nat := 209
def i_ident_prefix : Nat := 210
def i_ident_fits : Nat := 211
def i_pilasterref01_Find : Nat := 212
def i_pilasterref01_Keys : Nat := 213
def i_stringslite_IndexByte : Nat := 214
def i_bytealg_IndexString : Nat := 215
def i_bytealg_Cutover : Nat := 216
def i_bytealg_IndexRabinKarp_string : Nat := 217
def i_strconv_ParseInt : Nat := 218
def i_strconv_syntaxError : Nat := 219
def i_strconv_rangeError : Nat := 220
def i_strconv_baseError : Nat := 221
def i_strconv_bitSizeError : Nat := 222
def i_math_bits_TrailingZeros32 : Nat := 223
def i_math_bits_TrailingZeros64 : Nat := 224
def i_stringslite_CutPrefix : Nat := 225
def i_ident_IsLower : Nat := 226
def i_bytealg_IndexByteString : Nat := 227
def i_bytealg_hashStr_string : Nat := 228
def i_strconv_ParseUint : Nat := 229
def i_stringslite_Clone : Nat := 230
def i_errors_New : Nat := 231
def i_stringslite_HasPrefix : Nat := 232
def i_ident_word : Nat := 233
def i_strconv_lower : Nat := 234
def i_strconv_underscoreOK : Nat := 235
def i_slices_Contains_string : Nat := 236
def i_strings_Fields : Nat := 237
def i_slices_Index_string : Nat := 238
def i_strings_FieldsFunc : Nat := 239
def i_unicode_IsSpace : Nat := 240
def i_unicode_isExcludingLatin : Nat := 241
def i_unicode_is16 : Nat := 242
def i_unicode_is32 : Nat := 243
def i_runtime_boundsError_Error : Nat := 244
def i_runtime_boundsError_RuntimeError : Nat := 245
def i_runtime_errorString_Error : Nat := 246
def i_runtime_errorString_RuntimeError : Nat := 247
def i_runtime_plainError_Error : Nat := 248
def i_runtime_plainError_RuntimeError : Nat := 249
def i_runtime_errorAddressString_Error : Nat := 250
def i_runtime_errorAddressString_RuntimeError : Nat := 251
def i_runtime_TypeAssertionError_Error : Nat := 252
def i_runtime_TypeAssertionError_RuntimeError : Nat := 253
def i_runtime_PanicNilError_Error : Nat := 254
def i_runtime_PanicNilError_RuntimeError : Nat := 255
def i_abi_Type_Align : Nat := 256
def i_runtime_maps_unhashableTypeError_Error : Nat := 257
def i_runtime_maps_unhashableTypeError_RuntimeError : Nat := 258
def i_strings_Builder_Reset : Nat := 259
def i_strconv_Error_Error : Nat := 260
def i_strconv_NumError_Error : Nat := 261
def i_errors_errorString_Error : Nat := 262
def i_abi_Kind_String : Nat := 263
def i_gosem_cut_vars : Nat := 276
theorem mixed : Go.Proofs.Tryz.prog.follows .mixedOrders = true := by kernel_rfl
end Go.Proofs.YtblbepjnkehoaaaGreatDoor
/- The abstract code of the program's functions, printed by a program of this claim; each is checked against the translation. -/
namespace Go.Proofs.YtblbepjnkehoaaaGreatDoor
open Go
set_option maxRecDepth 100000
def c_ident_Number : AC :=
  (.seq (.region [⟨(some 2), (.mov (.cst (.int .i64 0))), none⟩, ⟨(some 3), (.mov (.cst (.int .i64 0))), none⟩])
  (.seq (.seq (.region [⟨(some 8), (.mov (.tmp 0)), none⟩, ⟨(some 9), (.bin .eql (.tmp 8) (.cst (.str []))), none⟩, ⟨(some 10), (.mov (.tmp 9)), none⟩, ⟨(some 11), (.mov (.tmp 0)), (some (10, false))⟩, ⟨(some 12), (.slen (.tmp 11)), (some (10, false))⟩, ⟨(some 13), (.bin .gtr (.tmp 12) (.cst (.int .i64 1))), (some (10, false))⟩, ⟨(some 14), (.mov (.tmp 13)), (some (10, false))⟩, ⟨(some 15), (.mov (.tmp 0)), (some (14, true))⟩, ⟨(some 16), (.sidx (.tmp 15) (.cst (.int .i64 0))), (some (14, true))⟩, ⟨(some 17), (.bin .eql (.tmp 16) (.cst (.int .u8 48))), (some (14, true))⟩, ⟨(some 18), (.pick (.tmp 14) (.tmp 17) (.cst (.bool false))), (some (10, false))⟩, ⟨(some 19), (.pick (.tmp 10) (.cst (.bool true)) (.tmp 18)), none⟩])
  (.cond (.tmp 19)
    (.seq (.region [⟨(some 2), (.mov (.cst (.int .i64 0))), none⟩, ⟨(some 3), (.mov (.cst (.int .i64 3))), none⟩])
    .ret)
    .skip))
  (.seq (.seq (.region [⟨(some 20), (.mov (.tmp 0)), none⟩, ⟨(some 21), (.convSB (.tmp 20)), none⟩, ⟨(some 22), (.len (.tmp 21)), none⟩, ⟨(some 23), (.mov (.cst (.int .i64 0))), none⟩])
  (.block 0 (.loop (.seq (.region [⟨(some 24), (.bin .lss (.tmp 23) (.tmp 22)), none⟩])
      (.seq (.cond (.tmp 24)
        .skip
        (.exit 0))
      (.seq (.block 1 (.seq (.region [⟨(some 25), (.iaddr 1 (.tmp 21) (.tmp 23)), none⟩, ⟨(some 26), (.load false 1 (.tmp 25)), none⟩, ⟨(some 5), (.mov (.tmp 26)), none⟩])
        (.seq (.region [⟨(some 27), (.mov (.tmp 5)), none⟩, ⟨(some 28), (.call (.cst (.fn (.func i_ident_of) [] [])) [(.tmp 27)]), none⟩, ⟨(some 29), (.bin .neq (.tmp 28) (.cst (.int .i64 3))), none⟩])
        (.cond (.tmp 29)
          (.seq (.region [⟨(some 2), (.mov (.cst (.int .i64 0))), none⟩, ⟨(some 3), (.mov (.cst (.int .i64 3))), none⟩])
          .ret)
          .skip))))
      (.region [⟨(some 30), (.bin .add (.tmp 23) (.cst (.int .i64 1))), none⟩, ⟨(some 23), (.mov (.tmp 30)), none⟩])))))))
  (.seq (.region [⟨(some 32), (.mov (.tmp 0)), none⟩, ⟨(some 33), (.call (.cst (.fn (.func i_strconv_Atoi) [] [])) [(.tmp 32)]), none⟩, ⟨(some 31), (.mov (.tmp 33)), none⟩, ⟨(some 34), (.extract (.tmp 31) 0), none⟩, ⟨(some 35), (.extract (.tmp 31) 1), none⟩, ⟨(some 6), (.mov (.tmp 34)), none⟩, ⟨(some 7), (.mov (.tmp 35)), none⟩])
  (.seq (.seq (.region [⟨(some 36), (.mov (.tmp 7)), none⟩, ⟨(some 37), (.binNil .ifc true (.tmp 36)), none⟩, ⟨(some 38), (.mov (.tmp 37)), none⟩, ⟨(some 39), (.mov (.tmp 6)), (some (38, false))⟩, ⟨(some 40), (.bin .gtr (.tmp 39) (.cst (.int .i64 4503599627370496))), (some (38, false))⟩, ⟨(some 41), (.pick (.tmp 38) (.cst (.bool true)) (.tmp 40)), none⟩])
  (.cond (.tmp 41)
    (.seq (.region [⟨(some 2), (.mov (.cst (.int .i64 0))), none⟩, ⟨(some 3), (.mov (.cst (.int .i64 6))), none⟩])
    .ret)
    .skip))
  (.seq (.region [⟨(some 42), (.mov (.tmp 6)), none⟩, ⟨(some 2), (.mov (.tmp 42)), none⟩, ⟨(some 3), (.mov (.cst (.int .i64 0))), none⟩])
  .ret))))))
theorem ok_ident_Number : FnOk Go.Proofs.Tryz.prog i_ident_Number c_ident_Number 43 [(.tmp 2), (.tmp 3)] := FnOk.of (by kernel_rfl)

def c_ident_of : AC :=
  (.seq (.region [⟨(some 2), (.mov (.cst (.int .i64 0))), none⟩])
  (.seq (.block 0 (.seq (.region [⟨(some 4), (.mov (.tmp 0)), none⟩, ⟨(some 5), (.bin .geq (.tmp 4) (.cst (.int .u8 97))), none⟩, ⟨(some 6), (.mov (.tmp 5)), none⟩, ⟨(some 7), (.mov (.tmp 0)), (some (6, true))⟩, ⟨(some 8), (.bin .leq (.tmp 7) (.cst (.int .u8 122))), (some (6, true))⟩, ⟨(some 9), (.pick (.tmp 6) (.tmp 8) (.cst (.bool false))), none⟩, ⟨(some 3), (.mov (.tmp 9)), none⟩])
    (.cond (.tmp 3)
      (.seq (.region [⟨(some 2), (.mov (.cst (.int .i64 1))), none⟩])
      .ret)
      (.seq (.region [⟨(some 11), (.mov (.tmp 0)), none⟩, ⟨(some 12), (.bin .geq (.tmp 11) (.cst (.int .u8 65))), none⟩, ⟨(some 13), (.mov (.tmp 12)), none⟩, ⟨(some 14), (.mov (.tmp 0)), (some (13, true))⟩, ⟨(some 15), (.bin .leq (.tmp 14) (.cst (.int .u8 90))), (some (13, true))⟩, ⟨(some 16), (.pick (.tmp 13) (.tmp 15) (.cst (.bool false))), none⟩, ⟨(some 10), (.mov (.tmp 16)), none⟩])
      (.cond (.tmp 10)
        (.seq (.region [⟨(some 2), (.mov (.cst (.int .i64 2))), none⟩])
        .ret)
        (.seq (.region [⟨(some 18), (.mov (.tmp 0)), none⟩, ⟨(some 19), (.bin .geq (.tmp 18) (.cst (.int .u8 48))), none⟩, ⟨(some 20), (.mov (.tmp 19)), none⟩, ⟨(some 21), (.mov (.tmp 0)), (some (20, true))⟩, ⟨(some 22), (.bin .leq (.tmp 21) (.cst (.int .u8 57))), (some (20, true))⟩, ⟨(some 23), (.pick (.tmp 20) (.tmp 22) (.cst (.bool false))), none⟩, ⟨(some 17), (.mov (.tmp 23)), none⟩])
        (.cond (.tmp 17)
          (.seq (.region [⟨(some 2), (.mov (.cst (.int .i64 3))), none⟩])
          .ret)
          (.seq (.region [⟨(some 25), (.mov (.tmp 0)), none⟩, ⟨(some 26), (.bin .eql (.tmp 25) (.cst (.int .u8 95))), none⟩, ⟨(some 24), (.mov (.tmp 26)), none⟩])
          (.cond (.tmp 24)
            (.seq (.region [⟨(some 2), (.mov (.cst (.int .i64 4))), none⟩])
            .ret)
            (.seq (.region [⟨(some 28), (.mov (.tmp 0)), none⟩, ⟨(some 29), (.bin .eql (.tmp 28) (.cst (.int .u8 46))), none⟩, ⟨(some 27), (.mov (.tmp 29)), none⟩])
            (.cond (.tmp 27)
              (.seq (.region [⟨(some 2), (.mov (.cst (.int .i64 5))), none⟩])
              .ret)
              .skip)))))))))))
  (.seq (.region [⟨(some 2), (.mov (.cst (.int .i64 0))), none⟩])
  .ret)))
theorem ok_ident_of : FnOk Go.Proofs.Tryz.prog i_ident_of c_ident_of 30 [(.tmp 2)] := FnOk.of (by kernel_rfl)

def c_strings_Builder_WriteByte : AC :=
  (.seq (.region [⟨(some 4), (.mov (.cst .nili)), none⟩])
  (.seq (.region [⟨(some 5), (.mov (.tmp 0)), none⟩, ⟨(some 6), (.call (.cst (.fn (.func i_strings_Builder_copyCheck) [] [])) [(.tmp 5)]), none⟩])
  (.seq (.region [⟨(some 7), (.mov (.tmp 0)), none⟩, ⟨(some 8), (.mov (.tmp 0)), none⟩, ⟨(some 9), (.nilck (.tmp 8)), none⟩, ⟨(some 10), (.faddr 1 (.tmp 9)), none⟩, ⟨(some 11), (.load false 1 (.tmp 10)), none⟩, ⟨(some 12), (.mov (.tmp 1)), none⟩, ⟨(some 13), (.buildSl 1 [(.int .u8 0)] 1 [(0, (.tmp 12))]), none⟩, ⟨(some 14), (.append 1 5 (.tmp 11) (.tmp 13)), none⟩, ⟨(some 15), (.nilck (.tmp 7)), none⟩, ⟨(some 16), (.faddr 1 (.tmp 15)), none⟩, ⟨none, (.store 1 (.tmp 16) (.tmp 14)), none⟩])
  (.seq (.region [⟨(some 4), (.mov (.cst .nili)), none⟩])
  .ret))))
theorem ok_strings_Builder_WriteByte : FnOk Go.Proofs.Tryz.prog i_strings_Builder_WriteByte c_strings_Builder_WriteByte 17 [(.tmp 4)] := FnOk.of (by kernel_rfl)

def c_sem_module : AC :=
  (.seq (.region [⟨(some 1), (.box (.tmp 0)), none⟩, ⟨(some 2), (.mov (.cst (.bool false))), none⟩])
  (.seq (.region [⟨(some 3), (.faddr 0 (.tmp 1)), none⟩, ⟨(some 4), (.load false 1 (.tmp 3)), none⟩, ⟨(some 5), (.bin .eql (.tmp 4) (.cst (.int .i64 5))), none⟩, ⟨(some 6), (.mov (.tmp 5)), none⟩, ⟨(some 7), (.faddr 0 (.tmp 1)), (some (6, false))⟩, ⟨(some 8), (.load false 1 (.tmp 7)), (some (6, false))⟩, ⟨(some 9), (.bin .eql (.tmp 8) (.cst (.int .i64 6))), (some (6, false))⟩, ⟨(some 10), (.pick (.tmp 6) (.cst (.bool true)) (.tmp 9)), none⟩, ⟨(some 2), (.mov (.tmp 10)), none⟩])
  .ret))
theorem ok_sem_module : FnOk Go.Proofs.Tryz.prog i_sem_module c_sem_module 11 [(.tmp 2)] := FnOk.of (by kernel_rfl)

def c_sem_fits : AC :=
  (.seq (.region [⟨(some 3), (.box (.tmp 1)), none⟩, ⟨(some 4), (.mov (.cst (.bool false))), none⟩])
  (.seq (.region [⟨(some 9), (.mov (.tmp 0)), none⟩, ⟨(some 10), (.call (.cst (.fn (.func i_ident_Split) [] [])) [(.tmp 9)]), none⟩, ⟨(some 8), (.mov (.tmp 10)), none⟩, ⟨(some 11), (.extract (.tmp 8) 0), none⟩, ⟨(some 12), (.extract (.tmp 8) 1), none⟩, ⟨(some 13), (.extract (.tmp 8) 2), none⟩, ⟨(some 5), (.mov (.tmp 11)), none⟩, ⟨(some 6), (.mov (.tmp 12)), none⟩, ⟨(some 7), (.mov (.tmp 13)), none⟩])
  (.seq (.seq (.region [⟨(some 14), (.mov (.tmp 7)), none⟩, ⟨(some 15), (.bin .neq (.tmp 14) (.cst (.int .i64 0))), none⟩])
  (.cond (.tmp 15)
    (.seq (.region [⟨(some 4), (.mov (.cst (.bool false))), none⟩])
    .ret)
    .skip))
  (.seq (.seq (.region [⟨(some 16), (.mov (.tmp 5)), none⟩])
  (.block 0 (.seq (.region [⟨(some 18), (.bin .eql (.tmp 16) (.cst (.int .i64 1))), none⟩, ⟨(some 17), (.mov (.tmp 18)), none⟩])
    (.cond (.tmp 17)
      (.seq (.region [⟨(some 19), (.faddr 0 (.tmp 3)), none⟩, ⟨(some 20), (.load false 1 (.tmp 19)), none⟩, ⟨(some 21), (.bin .eql (.tmp 20) (.cst (.int .i64 1))), none⟩, ⟨(some 4), (.mov (.tmp 21)), none⟩])
      .ret)
      (.seq (.region [⟨(some 23), (.bin .eql (.tmp 16) (.cst (.int .i64 2))), none⟩, ⟨(some 22), (.mov (.tmp 23)), none⟩])
      (.cond (.tmp 22)
        (.seq (.region [⟨(some 24), (.faddr 0 (.tmp 3)), none⟩, ⟨(some 25), (.load false 1 (.tmp 24)), none⟩, ⟨(some 26), (.bin .eql (.tmp 25) (.cst (.int .i64 2))), none⟩, ⟨(some 4), (.mov (.tmp 26)), none⟩])
        .ret)
        (.seq (.region [⟨(some 28), (.bin .eql (.tmp 16) (.cst (.int .i64 3))), none⟩, ⟨(some 27), (.mov (.tmp 28)), none⟩])
        (.cond (.tmp 27)
          (.seq (.region [⟨(some 29), (.faddr 0 (.tmp 3)), none⟩, ⟨(some 30), (.load false 1 (.tmp 29)), none⟩, ⟨(some 31), (.bin .eql (.tmp 30) (.cst (.int .i64 3))), none⟩, ⟨(some 32), (.mov (.tmp 31)), none⟩, ⟨(some 33), (.faddr 2 (.tmp 3)), (some (32, true))⟩, ⟨(some 34), (.load false 1 (.tmp 33)), (some (32, true))⟩, ⟨(some 35), (.mov (.tmp 6)), (some (32, true))⟩, ⟨(some 36), (.bin .eql (.tmp 34) (.tmp 35)), (some (32, true))⟩, ⟨(some 37), (.pick (.tmp 32) (.tmp 36) (.cst (.bool false))), none⟩, ⟨(some 4), (.mov (.tmp 37)), none⟩])
          .ret)
          (.seq (.region [⟨(some 39), (.bin .eql (.tmp 16) (.cst (.int .i64 4))), none⟩, ⟨(some 38), (.mov (.tmp 39)), none⟩])
          (.cond (.tmp 38)
            (.seq (.region [⟨(some 40), (.load true 14 (.tmp 3)), none⟩, ⟨(some 41), (.call (.cst (.fn (.func i_sem_module) [] [])) [(.tmp 40)]), none⟩, ⟨(some 4), (.mov (.tmp 41)), none⟩])
            .ret)
            .skip))))))))))
  (.seq (.region [⟨(some 42), (.faddr 0 (.tmp 3)), none⟩, ⟨(some 43), (.load false 1 (.tmp 42)), none⟩, ⟨(some 44), (.bin .eql (.tmp 43) (.cst (.int .i64 4))), none⟩, ⟨(some 4), (.mov (.tmp 44)), none⟩])
  .ret)))))
theorem ok_sem_fits : FnOk Go.Proofs.Tryz.prog i_sem_fits c_sem_fits 45 [(.tmp 4)] := FnOk.of (by kernel_rfl)

def c_tycon_same : AC :=
  (.seq (.region [⟨(some 2), (.box (.tmp 0)), none⟩, ⟨(some 3), (.box (.tmp 1)), none⟩, ⟨(some 4), (.mov (.cst (.bool false))), none⟩])
  (.seq (.region [⟨(some 5), (.faddr 0 (.tmp 2)), none⟩, ⟨(some 6), (.load false 1 (.tmp 5)), none⟩, ⟨(some 7), (.faddr 0 (.tmp 3)), none⟩, ⟨(some 8), (.load false 1 (.tmp 7)), none⟩, ⟨(some 9), (.call (.cst (.fn (.func i_slices_EqualFunc_Kind) [] [])) [(.tmp 6), (.tmp 8), (.cst (.fn (.func i_tycon_same) [] []))]), none⟩, ⟨(some 4), (.mov (.tmp 9)), none⟩])
  .ret))
theorem ok_tycon_same : FnOk Go.Proofs.Tryz.prog i_tycon_same c_tycon_same 10 [(.tmp 4)] := FnOk.of (by kernel_rfl)

def c_slices_Equal_string : AC :=
  (.seq (.region [⟨(some 4), (.mov (.cst (.bool false))), none⟩])
  (.seq (.seq (.region [⟨(some 6), (.mov (.tmp 0)), none⟩, ⟨(some 7), (.len (.tmp 6)), none⟩, ⟨(some 8), (.mov (.tmp 1)), none⟩, ⟨(some 9), (.len (.tmp 8)), none⟩, ⟨(some 10), (.bin .neq (.tmp 7) (.tmp 9)), none⟩])
  (.cond (.tmp 10)
    (.seq (.region [⟨(some 4), (.mov (.cst (.bool false))), none⟩])
    .ret)
    .skip))
  (.seq (.seq (.region [⟨(some 11), (.mov (.tmp 0)), none⟩, ⟨(some 12), (.len (.tmp 11)), none⟩, ⟨(some 13), (.mov (.cst (.int .i64 0))), none⟩])
  (.block 0 (.loop (.seq (.region [⟨(some 14), (.bin .lss (.tmp 13) (.tmp 12)), none⟩])
      (.seq (.cond (.tmp 14)
        .skip
        (.exit 0))
      (.seq (.block 1 (.seq (.region [⟨(some 15), (.mov (.tmp 13)), none⟩, ⟨(some 5), (.mov (.tmp 15)), none⟩])
        (.seq (.draw [⟨(some 16), (.mov (.tmp 0)), none⟩, ⟨(some 17), (.mov (.tmp 5)), none⟩, ⟨(some 18), (.iaddr 1 (.tmp 16) (.tmp 17)), none⟩, ⟨(some 19), (.load false 1 (.tmp 18)), none⟩, ⟨(some 20), (.mov (.tmp 1)), none⟩, ⟨(some 21), (.mov (.tmp 5)), none⟩, ⟨(some 22), (.iaddr 1 (.tmp 20) (.tmp 21)), none⟩, ⟨(some 23), (.load false 1 (.tmp 22)), none⟩, ⟨(some 24), (.bin .neq (.tmp 19) (.tmp 23)), none⟩] [[], [], [0, 1], [2], [], [], [4, 5], [6], [3, 7]])
        (.cond (.tmp 24)
          (.seq (.region [⟨(some 4), (.mov (.cst (.bool false))), none⟩])
          .ret)
          .skip))))
      (.region [⟨(some 25), (.bin .add (.tmp 13) (.cst (.int .i64 1))), none⟩, ⟨(some 13), (.mov (.tmp 25)), none⟩])))))))
  (.seq (.region [⟨(some 4), (.mov (.cst (.bool true))), none⟩])
  .ret))))
theorem ok_slices_Equal_string : FnOk Go.Proofs.Tryz.prog i_slices_Equal_string c_slices_Equal_string 26 [(.tmp 4)] := FnOk.of (by kernel_rfl)

def c_slices_EqualFunc_Con : AC :=
  (.seq (.region [⟨(some 6), (.mov (.cst (.bool false))), none⟩])
  (.seq (.seq (.region [⟨(some 10), (.mov (.tmp 0)), none⟩, ⟨(some 11), (.len (.tmp 10)), none⟩, ⟨(some 12), (.mov (.tmp 1)), none⟩, ⟨(some 13), (.len (.tmp 12)), none⟩, ⟨(some 14), (.bin .neq (.tmp 11) (.tmp 13)), none⟩])
  (.cond (.tmp 14)
    (.seq (.region [⟨(some 6), (.mov (.cst (.bool false))), none⟩])
    .ret)
    .skip))
  (.seq (.seq (.region [⟨(some 15), (.mov (.tmp 0)), none⟩, ⟨(some 16), (.len (.tmp 15)), none⟩, ⟨(some 17), (.mov (.cst (.int .i64 0))), none⟩])
  (.block 0 (.loop (.seq (.region [⟨(some 18), (.bin .lss (.tmp 17) (.tmp 16)), none⟩])
      (.seq (.cond (.tmp 18)
        .skip
        (.exit 0))
      (.seq (.block 1 (.seq (.region [⟨(some 19), (.mov (.tmp 17)), none⟩, ⟨(some 20), (.iaddr 6 (.tmp 15) (.tmp 17)), none⟩, ⟨(some 21), (.load true 6 (.tmp 20)), none⟩, ⟨(some 8), (.alloc [(.int .i64 0), (.int .i64 0), (.str []), (.sl .nilT []), (.sl .nilT []), (.sl .nilT [])]), none⟩, ⟨(some 7), (.mov (.tmp 19)), none⟩, ⟨none, (.store 6 (.tmp 8) (.tmp 21)), none⟩])
        (.seq (.region [⟨(some 22), (.mov (.tmp 1)), none⟩, ⟨(some 23), (.mov (.tmp 7)), none⟩, ⟨(some 24), (.iaddr 6 (.tmp 22) (.tmp 23)), none⟩, ⟨(some 25), (.load true 6 (.tmp 24)), none⟩, ⟨(some 9), (.alloc [(.int .i64 0), (.int .i64 0), (.str []), (.sl .nilT []), (.sl .nilT []), (.sl .nilT [])]), none⟩, ⟨none, (.store 6 (.tmp 9) (.tmp 25)), none⟩])
        (.seq (.region [⟨(some 26), (.mov (.tmp 2)), none⟩, ⟨(some 27), (.load true 6 (.tmp 8)), none⟩, ⟨(some 28), (.load true 6 (.tmp 9)), none⟩, ⟨(some 29), (.call (.tmp 26) [(.tmp 27), (.tmp 28)]), none⟩, ⟨(some 30), (.un .not (.tmp 29)), none⟩])
        (.cond (.tmp 30)
          (.seq (.region [⟨(some 6), (.mov (.cst (.bool false))), none⟩])
          .ret)
          .skip)))))
      (.region [⟨(some 31), (.bin .add (.tmp 17) (.cst (.int .i64 1))), none⟩, ⟨(some 17), (.mov (.tmp 31)), none⟩])))))))
  (.seq (.region [⟨(some 6), (.mov (.cst (.bool true))), none⟩])
  .ret))))
theorem ok_slices_EqualFunc_Con : FnOk Go.Proofs.Tryz.prog i_slices_EqualFunc_Con c_slices_EqualFunc_Con 32 [(.tmp 6)] := FnOk.of (by kernel_rfl)

def c_ident_name : AC :=
  (.seq (.region [⟨(some 4), (.mov (.cst (.bool false))), none⟩])
  (.seq (.seq (.region [⟨(some 8), (.mov (.tmp 0)), none⟩, ⟨(some 9), (.bin .eql (.tmp 8) (.cst (.str []))), none⟩, ⟨(some 10), (.mov (.tmp 9)), none⟩, ⟨(some 11), (.mov (.tmp 0)), (some (10, false))⟩, ⟨(some 12), (.slen (.tmp 11)), (some (10, false))⟩, ⟨(some 13), (.bin .gtr (.tmp 12) (.cst (.int .i64 24))), (some (10, false))⟩, ⟨(some 14), (.pick (.tmp 10) (.cst (.bool true)) (.tmp 13)), none⟩, ⟨(some 15), (.mov (.tmp 14)), none⟩, ⟨(some 16), (.mov (.tmp 0)), (some (15, false))⟩, ⟨(some 17), (.sidx (.tmp 16) (.cst (.int .i64 0))), (some (15, false))⟩, ⟨(some 18), (.call (.cst (.fn (.func i_ident_of) [] [])) [(.tmp 17)]), (some (15, false))⟩, ⟨(some 19), (.mov (.tmp 1)), (some (15, false))⟩, ⟨(some 20), (.bin .neq (.tmp 18) (.tmp 19)), (some (15, false))⟩, ⟨(some 21), (.pick (.tmp 15) (.cst (.bool true)) (.tmp 20)), none⟩])
  (.cond (.tmp 21)
    (.seq (.region [⟨(some 4), (.mov (.cst (.bool false))), none⟩])
    .ret)
    .skip))
  (.seq (.seq (.region [⟨(some 22), (.mov (.tmp 0)), none⟩, ⟨(some 23), (.convSB (.tmp 22)), none⟩, ⟨(some 24), (.len (.tmp 23)), none⟩, ⟨(some 25), (.mov (.cst (.int .i64 0))), none⟩])
  (.block 0 (.loop (.seq (.region [⟨(some 26), (.bin .lss (.tmp 25) (.tmp 24)), none⟩])
      (.seq (.cond (.tmp 26)
        .skip
        (.exit 0))
      (.seq (.block 1 (.seq (.region [⟨(some 27), (.iaddr 1 (.tmp 23) (.tmp 25)), none⟩, ⟨(some 28), (.load false 1 (.tmp 27)), none⟩, ⟨(some 6), (.mov (.tmp 28)), none⟩])
        (.seq (.region [⟨(some 29), (.mov (.tmp 6)), none⟩, ⟨(some 30), (.call (.cst (.fn (.func i_ident_of) [] [])) [(.tmp 29)]), none⟩, ⟨(some 7), (.mov (.tmp 30)), none⟩])
        (.seq (.region [⟨(some 31), (.mov (.tmp 7)), none⟩, ⟨(some 32), (.bin .eql (.tmp 31) (.cst (.int .i64 0))), none⟩, ⟨(some 33), (.mov (.tmp 32)), none⟩, ⟨(some 34), (.mov (.tmp 7)), (some (33, false))⟩, ⟨(some 35), (.bin .eql (.tmp 34) (.cst (.int .i64 5))), (some (33, false))⟩, ⟨(some 36), (.pick (.tmp 33) (.cst (.bool true)) (.tmp 35)), none⟩])
        (.cond (.tmp 36)
          (.seq (.region [⟨(some 4), (.mov (.cst (.bool false))), none⟩])
          .ret)
          .skip)))))
      (.region [⟨(some 37), (.bin .add (.tmp 25) (.cst (.int .i64 1))), none⟩, ⟨(some 25), (.mov (.tmp 37)), none⟩])))))))
  (.seq (.region [⟨(some 4), (.mov (.cst (.bool true))), none⟩])
  .ret))))
theorem ok_ident_name : FnOk Go.Proofs.Tryz.prog i_ident_name c_ident_name 38 [(.tmp 4)] := FnOk.of (by kernel_rfl)

def c_sem_kinds_1 : AC :=
  (.seq (.region [⟨(some 1), (.box (.tmp 0)), none⟩, ⟨(some 2), (.mov (.cst (.bool false))), none⟩])
  (.seq (.region [⟨(some 3), (.load true 1 (.tmp 1)), none⟩, ⟨(some 4), (.call (.cst (.fn (.func i_kind_Valid) [] [])) [(.tmp 3)]), none⟩, ⟨(some 5), (.un .not (.tmp 4)), none⟩, ⟨(some 2), (.mov (.tmp 5)), none⟩])
  .ret))
theorem ok_sem_kinds_1 : FnOk Go.Proofs.Tryz.prog i_sem_kinds_1 c_sem_kinds_1 6 [(.tmp 2)] := FnOk.of (by kernel_rfl)

def c_pilasterref01_inner : AC :=
  (.seq (.region [⟨(some 2), (.mov (.cst (.bool false))), none⟩])
  (.seq (.seq (.region [⟨(some 3), (.mov (.cst (.int .i64 0))), none⟩])
  (.block 0 (.loop (.seq (.seq (.region [⟨(some 4), (.mov (.tmp 3)), none⟩, ⟨(some 5), (.mov (.tmp 0)), none⟩, ⟨(some 6), (.slen (.tmp 5)), none⟩, ⟨(some 7), (.bin .lss (.tmp 4) (.tmp 6)), none⟩])
      (.cond (.tmp 7)
        .skip
        (.exit 0)))
      (.seq (.block 1 (.seq (.region [⟨(some 10), (.mov (.tmp 0)), none⟩, ⟨(some 11), (.mov (.tmp 3)), none⟩, ⟨(some 12), (.sidx (.tmp 10) (.tmp 11)), none⟩, ⟨(some 13), (.call (.cst (.fn (.func i_pilasterref01_Inner) [] [])) [(.tmp 12)]), none⟩, ⟨(some 14), (.un .not (.tmp 13)), none⟩])
        (.cond (.tmp 14)
          (.seq (.region [⟨(some 2), (.mov (.cst (.bool false))), none⟩])
          .ret)
          .skip)))
      (.region [⟨(some 8), (.mov (.tmp 3)), none⟩, ⟨(some 9), (.bin .add (.tmp 8) (.cst (.int .i64 1))), none⟩, ⟨(some 3), (.mov (.tmp 9)), none⟩]))))))
  (.seq (.region [⟨(some 2), (.mov (.cst (.bool true))), none⟩])
  .ret)))
theorem ok_pilasterref01_inner : FnOk Go.Proofs.Tryz.prog i_pilasterref01_inner c_pilasterref01_inner 15 [(.tmp 2)] := FnOk.of (by kernel_rfl)

def c_pilasterref01_Small : AC :=
  (.seq (.region [⟨(some 2), (.mov (.cst (.bool false))), none⟩])
  (.seq (.region [⟨(some 3), (.mov (.tmp 0)), none⟩, ⟨(some 4), (.bin .geq (.tmp 3) (.cst (.int .u8 97))), none⟩, ⟨(some 5), (.mov (.tmp 4)), none⟩, ⟨(some 6), (.mov (.tmp 0)), (some (5, true))⟩, ⟨(some 7), (.bin .leq (.tmp 6) (.cst (.int .u8 122))), (some (5, true))⟩, ⟨(some 8), (.pick (.tmp 5) (.tmp 7) (.cst (.bool false))), none⟩, ⟨(some 2), (.mov (.tmp 8)), none⟩])
  .ret))
theorem ok_pilasterref01_Small : FnOk Go.Proofs.Tryz.prog i_pilasterref01_Small c_pilasterref01_Small 9 [(.tmp 2)] := FnOk.of (by kernel_rfl)

def c_pilasterref01_Digit : AC :=
  (.seq (.region [⟨(some 2), (.mov (.cst (.bool false))), none⟩])
  (.seq (.region [⟨(some 3), (.mov (.tmp 0)), none⟩, ⟨(some 4), (.bin .geq (.tmp 3) (.cst (.int .u8 48))), none⟩, ⟨(some 5), (.mov (.tmp 4)), none⟩, ⟨(some 6), (.mov (.tmp 0)), (some (5, true))⟩, ⟨(some 7), (.bin .leq (.tmp 6) (.cst (.int .u8 57))), (some (5, true))⟩, ⟨(some 8), (.pick (.tmp 5) (.tmp 7) (.cst (.bool false))), none⟩, ⟨(some 2), (.mov (.tmp 8)), none⟩])
  .ret))
theorem ok_pilasterref01_Digit : FnOk Go.Proofs.Tryz.prog i_pilasterref01_Digit c_pilasterref01_Digit 9 [(.tmp 2)] := FnOk.of (by kernel_rfl)

def c_pilasterref01_Heads : AC :=
  (.seq (.region [⟨(some 0), (.mov (.cst (.sl .nilT []))), none⟩])
  (.seq (.region [⟨(some 1), (.buildSl 1 [(.str [])] 6 [(0, (.cst (.str []))), (1, (.cst (.str [118, 97, 108, 46]))), (2, (.cst (.str [116, 121, 112, 101, 46]))), (3, (.cst (.str [99, 111, 110, 46]))), (4, (.cst (.str [109, 111, 100, 46]))), (5, (.cst (.str [115, 105, 103, 46])))]), none⟩, ⟨(some 0), (.mov (.tmp 1)), none⟩])
  .ret))
theorem ok_pilasterref01_Heads : FnOk Go.Proofs.Tryz.prog i_pilasterref01_Heads c_pilasterref01_Heads 2 [(.tmp 0)] := FnOk.of (by kernel_rfl)

def c_pilasterref01_Fits : AC :=
  (.seq (.region [⟨(some 4), (.mov (.cst (.bool false))), none⟩])
  (.seq (.seq (.region [⟨(some 5), (.mov (.tmp 0)), none⟩, ⟨(some 6), (.bin .eql (.tmp 5) (.cst (.int .i64 1))), none⟩, ⟨(some 7), (.mov (.tmp 6)), none⟩, ⟨(some 8), (.mov (.tmp 0)), (some (7, false))⟩, ⟨(some 9), (.bin .eql (.tmp 8) (.cst (.int .i64 2))), (some (7, false))⟩, ⟨(some 10), (.pick (.tmp 7) (.cst (.bool true)) (.tmp 9)), none⟩])
  (.cond (.tmp 10)
    (.seq (.region [⟨(some 11), (.mov (.tmp 1)), none⟩, ⟨(some 12), (.call (.cst (.fn (.func i_pilasterref01_IsLower) [] [])) [(.tmp 11)]), none⟩, ⟨(some 4), (.mov (.tmp 12)), none⟩])
    .ret)
    .skip))
  (.seq (.region [⟨(some 13), (.mov (.tmp 1)), none⟩, ⟨(some 14), (.call (.cst (.fn (.func i_pilasterref01_IsUpper) [] [])) [(.tmp 13)]), none⟩, ⟨(some 4), (.mov (.tmp 14)), none⟩])
  .ret)))
theorem ok_pilasterref01_Fits : FnOk Go.Proofs.Tryz.prog i_pilasterref01_Fits c_pilasterref01_Fits 15 [(.tmp 4)] := FnOk.of (by kernel_rfl)

def c_strconv_small : AC :=
  (.seq (.region [⟨(some 2), (.mov (.cst (.str []))), none⟩])
  (.seq (.seq (.region [⟨(some 3), (.mov (.tmp 0)), none⟩, ⟨(some 4), (.bin .lss (.tmp 3) (.cst (.int .i64 10))), none⟩])
  (.cond (.tmp 4)
    (.seq (.region [⟨(some 5), (.mov (.tmp 0)), none⟩, ⟨(some 6), (.mov (.tmp 0)), none⟩, ⟨(some 7), (.bin .add (.tmp 6) (.cst (.int .i64 1))), none⟩, ⟨(some 8), (.sslice (.cst (.str [48, 49, 50, 51, 52, 53, 54, 55, 56, 57, 97, 98, 99, 100, 101, 102, 103, 104, 105, 106, 107, 108, 109, 110, 111, 112, 113, 114, 115, 116, 117, 118, 119, 120, 121, 122])) (some (.tmp 5)) (some (.tmp 7))), none⟩, ⟨(some 2), (.mov (.tmp 8)), none⟩])
    .ret)
    .skip))
  (.seq (.region [⟨(some 9), (.mov (.tmp 0)), none⟩, ⟨(some 10), (.bin .mul (.tmp 9) (.cst (.int .i64 2))), none⟩, ⟨(some 11), (.mov (.tmp 0)), none⟩, ⟨(some 12), (.bin .mul (.tmp 11) (.cst (.int .i64 2))), none⟩, ⟨(some 13), (.bin .add (.tmp 12) (.cst (.int .i64 2))), none⟩, ⟨(some 14), (.sslice (.cst (.str [48, 48, 48, 49, 48, 50, 48, 51, 48, 52, 48, 53, 48, 54, 48, 55, 48, 56, 48, 57, 49, 48, 49, 49, 49, 50, 49, 51, 49, 52, 49, 53, 49, 54, 49, 55, 49, 56, 49, 57, 50, 48, 50, 49, 50, 50, 50, 51, 50, 52, 50, 53, 50, 54, 50, 55, 50, 56, 50, 57, 51, 48, 51, 49, 51, 50, 51, 51, 51, 52, 51, 53, 51, 54, 51, 55, 51, 56, 51, 57, 52, 48, 52, 49, 52, 50, 52, 51, 52, 52, 52, 53, 52, 54, 52, 55, 52, 56, 52, 57, 53, 48, 53, 49, 53, 50, 53, 51, 53, 52, 53, 53, 53, 54, 53, 55, 53, 56, 53, 57, 54, 48, 54, 49, 54, 50, 54, 51, 54, 52, 54, 53, 54, 54, 54, 55, 54, 56, 54, 57, 55, 48, 55, 49, 55, 50, 55, 51, 55, 52, 55, 53, 55, 54, 55, 55, 55, 56, 55, 57, 56, 48, 56, 49, 56, 50, 56, 51, 56, 52, 56, 53, 56, 54, 56, 55, 56, 56, 56, 57, 57, 48, 57, 49, 57, 50, 57, 51, 57, 52, 57, 53, 57, 54, 57, 55, 57, 56, 57, 57])) (some (.tmp 10)) (some (.tmp 13))), none⟩, ⟨(some 2), (.mov (.tmp 14)), none⟩])
  .ret)))
theorem ok_strconv_small : FnOk Go.Proofs.Tryz.prog i_strconv_small c_strconv_small 15 [(.tmp 2)] := FnOk.of (by kernel_rfl)

def c_ident_Split : AC :=
  (.seq (.region [⟨(some 2), (.mov (.cst (.int .i64 0))), none⟩, ⟨(some 3), (.mov (.cst (.str []))), none⟩, ⟨(some 4), (.mov (.cst (.int .i64 0))), none⟩])
  (.seq (.seq (.region [⟨(some 5), (.mov (.cst (.int .i64 1))), none⟩])
  (.block 0 (.loop (.seq (.seq (.region [⟨(some 8), (.mov (.tmp 5)), none⟩, ⟨(some 9), (.bin .leq (.tmp 8) (.cst (.int .i64 5))), none⟩])
      (.cond (.tmp 9)
        .skip
        (.exit 0)))
      (.seq (.block 1 (.seq (.region [⟨(some 13), (.mov (.tmp 0)), none⟩, ⟨(some 14), (.mov (.tmp 5)), none⟩, ⟨(some 15), (.call (.cst (.fn (.func i_ident_prefix) [] [])) [(.tmp 14)]), none⟩, ⟨(some 16), (.call (.cst (.fn (.func i_strings_CutPrefix) [] [])) [(.tmp 13), (.tmp 15)]), none⟩, ⟨(some 12), (.mov (.tmp 16)), none⟩, ⟨(some 17), (.extract (.tmp 12) 0), none⟩, ⟨(some 18), (.extract (.tmp 12) 1), none⟩, ⟨(some 6), (.mov (.tmp 17)), none⟩, ⟨(some 7), (.mov (.tmp 18)), none⟩])
        (.seq (.region [⟨(some 19), (.mov (.tmp 7)), none⟩, ⟨(some 20), (.mov (.tmp 19)), none⟩, ⟨(some 21), (.mov (.tmp 5)), (some (20, true))⟩, ⟨(some 22), (.mov (.tmp 6)), (some (20, true))⟩, ⟨(some 23), (.call (.cst (.fn (.func i_ident_fits) [] [])) [(.tmp 21), (.tmp 22)]), (some (20, true))⟩, ⟨(some 24), (.pick (.tmp 20) (.tmp 23) (.cst (.bool false))), none⟩])
        (.cond (.tmp 24)
          (.seq (.region [⟨(some 25), (.mov (.tmp 5)), none⟩, ⟨(some 26), (.mov (.tmp 6)), none⟩, ⟨(some 2), (.mov (.tmp 25)), none⟩, ⟨(some 3), (.mov (.tmp 26)), none⟩, ⟨(some 4), (.mov (.cst (.int .i64 0))), none⟩])
          .ret)
          .skip))))
      (.region [⟨(some 10), (.mov (.tmp 5)), none⟩, ⟨(some 11), (.bin .add (.tmp 10) (.cst (.int .i64 1))), none⟩, ⟨(some 5), (.mov (.tmp 11)), none⟩]))))))
  (.seq (.region [⟨(some 2), (.mov (.cst (.int .i64 0))), none⟩, ⟨(some 3), (.mov (.cst (.str []))), none⟩, ⟨(some 4), (.mov (.cst (.int .i64 3))), none⟩])
  .ret)))
theorem ok_ident_Split : FnOk Go.Proofs.Tryz.prog i_ident_Split c_ident_Split 27 [(.tmp 2), (.tmp 3), (.tmp 4)] := FnOk.of (by kernel_rfl)

def c_slices_EqualFunc_Kind : AC :=
  (.seq (.region [⟨(some 6), (.mov (.cst (.bool false))), none⟩])
  (.seq (.seq (.region [⟨(some 10), (.mov (.tmp 0)), none⟩, ⟨(some 11), (.len (.tmp 10)), none⟩, ⟨(some 12), (.mov (.tmp 1)), none⟩, ⟨(some 13), (.len (.tmp 12)), none⟩, ⟨(some 14), (.bin .neq (.tmp 11) (.tmp 13)), none⟩])
  (.cond (.tmp 14)
    (.seq (.region [⟨(some 6), (.mov (.cst (.bool false))), none⟩])
    .ret)
    .skip))
  (.seq (.seq (.region [⟨(some 15), (.mov (.tmp 0)), none⟩, ⟨(some 16), (.len (.tmp 15)), none⟩, ⟨(some 17), (.mov (.cst (.int .i64 0))), none⟩])
  (.block 0 (.loop (.seq (.region [⟨(some 18), (.bin .lss (.tmp 17) (.tmp 16)), none⟩])
      (.seq (.cond (.tmp 18)
        .skip
        (.exit 0))
      (.seq (.block 1 (.seq (.region [⟨(some 19), (.mov (.tmp 17)), none⟩, ⟨(some 20), (.iaddr 1 (.tmp 15) (.tmp 17)), none⟩, ⟨(some 21), (.load true 1 (.tmp 20)), none⟩, ⟨(some 8), (.alloc [(.sl .nilT [])]), none⟩, ⟨(some 7), (.mov (.tmp 19)), none⟩, ⟨none, (.store 1 (.tmp 8) (.tmp 21)), none⟩])
        (.seq (.region [⟨(some 22), (.mov (.tmp 1)), none⟩, ⟨(some 23), (.mov (.tmp 7)), none⟩, ⟨(some 24), (.iaddr 1 (.tmp 22) (.tmp 23)), none⟩, ⟨(some 25), (.load true 1 (.tmp 24)), none⟩, ⟨(some 9), (.alloc [(.sl .nilT [])]), none⟩, ⟨none, (.store 1 (.tmp 9) (.tmp 25)), none⟩])
        (.seq (.region [⟨(some 26), (.mov (.tmp 2)), none⟩, ⟨(some 27), (.load true 1 (.tmp 8)), none⟩, ⟨(some 28), (.load true 1 (.tmp 9)), none⟩, ⟨(some 29), (.call (.tmp 26) [(.tmp 27), (.tmp 28)]), none⟩, ⟨(some 30), (.un .not (.tmp 29)), none⟩])
        (.cond (.tmp 30)
          (.seq (.region [⟨(some 6), (.mov (.cst (.bool false))), none⟩])
          .ret)
          .skip)))))
      (.region [⟨(some 31), (.bin .add (.tmp 17) (.cst (.int .i64 1))), none⟩, ⟨(some 17), (.mov (.tmp 31)), none⟩])))))))
  (.seq (.region [⟨(some 6), (.mov (.cst (.bool true))), none⟩])
  .ret))))
theorem ok_slices_EqualFunc_Kind : FnOk Go.Proofs.Tryz.prog i_slices_EqualFunc_Kind c_slices_EqualFunc_Kind 32 [(.tmp 6)] := FnOk.of (by kernel_rfl)

def c_pilasterref01_IsLower : AC :=
  (.seq (.region [⟨(some 2), (.mov (.cst (.bool false))), none⟩])
  (.seq (.region [⟨(some 3), (.mov (.tmp 0)), none⟩, ⟨(some 4), (.call (.cst (.fn (.func i_pilasterref01_Word) [] [])) [(.tmp 3)]), none⟩, ⟨(some 5), (.mov (.tmp 4)), none⟩, ⟨(some 6), (.mov (.tmp 0)), (some (5, true))⟩, ⟨(some 7), (.sidx (.tmp 6) (.cst (.int .i64 0))), (some (5, true))⟩, ⟨(some 8), (.call (.cst (.fn (.func i_pilasterref01_Small) [] [])) [(.tmp 7)]), (some (5, true))⟩, ⟨(some 9), (.pick (.tmp 5) (.tmp 8) (.cst (.bool false))), none⟩, ⟨(some 10), (.mov (.tmp 9)), none⟩, ⟨(some 11), (.call (.cst (.fn (.func i_pilasterref01_Keys) [] [])) []), (some (10, true))⟩, ⟨(some 12), (.mov (.tmp 0)), (some (10, true))⟩, ⟨(some 13), (.call (.cst (.fn (.func i_pilasterref01_Find) [] [])) [(.tmp 11), (.tmp 12)]), (some (10, true))⟩, ⟨(some 14), (.bin .lss (.tmp 13) (.cst (.int .i64 0))), (some (10, true))⟩, ⟨(some 15), (.pick (.tmp 10) (.tmp 14) (.cst (.bool false))), none⟩, ⟨(some 2), (.mov (.tmp 15)), none⟩])
  .ret))
theorem ok_pilasterref01_IsLower : FnOk Go.Proofs.Tryz.prog i_pilasterref01_IsLower c_pilasterref01_IsLower 16 [(.tmp 2)] := FnOk.of (by kernel_rfl)

def c_strings_CutPrefix : AC :=
  (.seq (.region [⟨(some 4), (.mov (.cst (.str []))), none⟩, ⟨(some 5), (.mov (.cst (.bool false))), none⟩])
  (.seq (.region [⟨(some 6), (.mov (.tmp 0)), none⟩, ⟨(some 7), (.mov (.tmp 1)), none⟩, ⟨(some 8), (.call (.cst (.fn (.func i_stringslite_CutPrefix) [] [])) [(.tmp 6), (.tmp 7)]), none⟩, ⟨(some 9), (.extract (.tmp 8) 0), none⟩, ⟨(some 10), (.extract (.tmp 8) 1), none⟩, ⟨(some 4), (.mov (.tmp 9)), none⟩, ⟨(some 5), (.mov (.tmp 10)), none⟩])
  .ret))
theorem ok_strings_CutPrefix : FnOk Go.Proofs.Tryz.prog i_strings_CutPrefix c_strings_CutPrefix 11 [(.tmp 4), (.tmp 5)] := FnOk.of (by kernel_rfl)

def c_ident_prefix : AC :=
  (.seq (.region [⟨(some 2), (.mov (.cst (.str []))), none⟩])
  (.seq (.seq (.region [⟨(some 3), (.mov (.tmp 0)), none⟩])
  (.block 0 (.seq (.region [⟨(some 5), (.bin .eql (.tmp 3) (.cst (.int .i64 1))), none⟩, ⟨(some 4), (.mov (.tmp 5)), none⟩])
    (.cond (.tmp 4)
      (.seq (.region [⟨(some 2), (.mov (.cst (.str [118, 97, 108, 46]))), none⟩])
      .ret)
      (.seq (.region [⟨(some 7), (.bin .eql (.tmp 3) (.cst (.int .i64 2))), none⟩, ⟨(some 6), (.mov (.tmp 7)), none⟩])
      (.cond (.tmp 6)
        (.seq (.region [⟨(some 2), (.mov (.cst (.str [116, 121, 112, 101, 46]))), none⟩])
        .ret)
        (.seq (.region [⟨(some 9), (.bin .eql (.tmp 3) (.cst (.int .i64 3))), none⟩, ⟨(some 8), (.mov (.tmp 9)), none⟩])
        (.cond (.tmp 8)
          (.seq (.region [⟨(some 2), (.mov (.cst (.str [99, 111, 110, 46]))), none⟩])
          .ret)
          (.seq (.region [⟨(some 11), (.bin .eql (.tmp 3) (.cst (.int .i64 4))), none⟩, ⟨(some 10), (.mov (.tmp 11)), none⟩])
          (.cond (.tmp 10)
            (.seq (.region [⟨(some 2), (.mov (.cst (.str [109, 111, 100, 46]))), none⟩])
            .ret)
            (.seq (.region [⟨(some 13), (.bin .eql (.tmp 3) (.cst (.int .i64 5))), none⟩, ⟨(some 12), (.mov (.tmp 13)), none⟩])
            (.cond (.tmp 12)
              (.seq (.region [⟨(some 2), (.mov (.cst (.str [115, 105, 103, 46]))), none⟩])
              .ret)
              .skip))))))))))))
  (.seq (.region [⟨(some 2), (.mov (.cst (.str []))), none⟩])
  .ret)))
theorem ok_ident_prefix : FnOk Go.Proofs.Tryz.prog i_ident_prefix c_ident_prefix 14 [(.tmp 2)] := FnOk.of (by kernel_rfl)

def c_ident_fits : AC :=
  (.seq (.region [⟨(some 4), (.mov (.cst (.bool false))), none⟩])
  (.seq (.seq (.region [⟨(some 5), (.mov (.tmp 0)), none⟩, ⟨(some 6), (.bin .eql (.tmp 5) (.cst (.int .i64 1))), none⟩, ⟨(some 7), (.mov (.tmp 6)), none⟩, ⟨(some 8), (.mov (.tmp 0)), (some (7, false))⟩, ⟨(some 9), (.bin .eql (.tmp 8) (.cst (.int .i64 2))), (some (7, false))⟩, ⟨(some 10), (.pick (.tmp 7) (.cst (.bool true)) (.tmp 9)), none⟩])
  (.cond (.tmp 10)
    (.seq (.region [⟨(some 11), (.mov (.tmp 1)), none⟩, ⟨(some 12), (.call (.cst (.fn (.func i_ident_IsLower) [] [])) [(.tmp 11)]), none⟩, ⟨(some 4), (.mov (.tmp 12)), none⟩])
    .ret)
    .skip))
  (.seq (.region [⟨(some 13), (.mov (.tmp 1)), none⟩, ⟨(some 14), (.call (.cst (.fn (.func i_ident_IsUpper) [] [])) [(.tmp 13)]), none⟩, ⟨(some 4), (.mov (.tmp 14)), none⟩])
  .ret)))
theorem ok_ident_fits : FnOk Go.Proofs.Tryz.prog i_ident_fits c_ident_fits 15 [(.tmp 4)] := FnOk.of (by kernel_rfl)

def c_pilasterref01_Find : AC :=
  (.seq (.region [⟨(some 4), (.mov (.cst (.int .i64 0))), none⟩])
  (.seq (.seq (.region [⟨(some 5), (.mov (.cst (.int .i64 0))), none⟩])
  (.block 0 (.loop (.seq (.seq (.region [⟨(some 6), (.mov (.tmp 5)), none⟩, ⟨(some 7), (.mov (.tmp 0)), none⟩, ⟨(some 8), (.len (.tmp 7)), none⟩, ⟨(some 9), (.bin .lss (.tmp 6) (.tmp 8)), none⟩])
      (.cond (.tmp 9)
        .skip
        (.exit 0)))
      (.seq (.block 1 (.seq (.region [⟨(some 12), (.mov (.tmp 0)), none⟩, ⟨(some 13), (.mov (.tmp 5)), none⟩, ⟨(some 14), (.iaddr 1 (.tmp 12) (.tmp 13)), none⟩, ⟨(some 15), (.load false 1 (.tmp 14)), none⟩, ⟨(some 16), (.mov (.tmp 1)), none⟩, ⟨(some 17), (.bin .eql (.tmp 15) (.tmp 16)), none⟩])
        (.cond (.tmp 17)
          (.seq (.region [⟨(some 18), (.mov (.tmp 5)), none⟩, ⟨(some 4), (.mov (.tmp 18)), none⟩])
          .ret)
          .skip)))
      (.region [⟨(some 10), (.mov (.tmp 5)), none⟩, ⟨(some 11), (.bin .add (.tmp 10) (.cst (.int .i64 1))), none⟩, ⟨(some 5), (.mov (.tmp 11)), none⟩]))))))
  (.seq (.region [⟨(some 4), (.mov (.cst (.int .i64 (-1)))), none⟩])
  .ret)))
theorem ok_pilasterref01_Find : FnOk Go.Proofs.Tryz.prog i_pilasterref01_Find c_pilasterref01_Find 19 [(.tmp 4)] := FnOk.of (by kernel_rfl)

def c_pilasterref01_Keys : AC :=
  (.seq (.region [⟨(some 0), (.mov (.cst (.sl .nilT []))), none⟩])
  (.seq (.region [⟨(some 1), (.buildSl 1 [(.str [])] 31 [(0, (.cst (.str [97, 110, 100, 97, 108, 115, 111]))), (1, (.cst (.str [99, 97, 115, 101]))), (2, (.cst (.str [100, 97, 116, 97]))), (3, (.cst (.str [100, 105, 118]))), (4, (.cst (.str [101, 108, 115, 101]))), (5, (.cst (.str [101, 110, 100]))), (6, (.cst (.str [102, 110]))), (7, (.cst (.str [102, 117, 110]))), (8, (.cst (.str [102, 117, 110, 99, 116, 111, 114]))), (9, (.cst (.str [103, 101, 110, 101, 114, 97, 116, 105, 118, 101]))), (10, (.cst (.str [105, 102]))), (11, (.cst (.str [105, 109, 112, 111, 114, 116]))), (12, (.cst (.str [105, 110]))), (13, (.cst (.str [105, 110, 99, 108, 117, 100, 101]))), (14, (.cst (.str [108, 101, 116]))), (15, (.cst (.str [109, 111, 100]))), (16, (.cst (.str [109, 111, 100, 117, 108, 101]))), (17, (.cst (.str [111, 102]))), (18, (.cst (.str [111, 112, 101, 110]))), (19, (.cst (.str [111, 114, 101, 108, 115, 101]))), (20, (.cst (.str [112, 97, 99, 107]))), (21, (.cst (.str [115, 104, 97, 114, 105, 110, 103]))), (22, (.cst (.str [115, 105, 103]))), (23, (.cst (.str [115, 105, 103, 110, 97, 116, 117, 114, 101]))), (24, (.cst (.str [115, 116, 114, 117, 99, 116]))), (25, (.cst (.str [115, 116, 114, 117, 99, 116, 117, 114, 101]))), (26, (.cst (.str [116, 104, 101, 110]))), (27, (.cst (.str [116, 121, 112, 101]))), (28, (.cst (.str [117, 110, 112, 97, 99, 107]))), (29, (.cst (.str [118, 97, 108]))), (30, (.cst (.str [119, 105, 116, 104])))]), none⟩, ⟨(some 0), (.mov (.tmp 1)), none⟩])
  .ret))
theorem ok_pilasterref01_Keys : FnOk Go.Proofs.Tryz.prog i_pilasterref01_Keys c_pilasterref01_Keys 2 [(.tmp 0)] := FnOk.of (by kernel_rfl)

end Go.Proofs.YtblbepjnkehoaaaGreatDoor
