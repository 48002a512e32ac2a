/- Contracts of the lexer's functions, part one. -/
import Derived.Test.YthfehkcfhiilfaaGreatDoorKT1
import Derived.Test.YthfehkcfhiilfaaGreatDoorKVmD
namespace Go.Proofs.YthfehkcfhiilfaaGreatDoor set_option linter.unusedSimpArgs false set_option linter.unusedVariables false
open Go.AM Go.VM
abbrev F.main_main : FuncId := 0
abbrev F.gosem_cut : FuncId := 1
abbrev F.gosem_cut_init : FuncId := 2
abbrev F.modcertlaw05_ParserAscribes : FuncId := 3
abbrev F.modcertlaw05_awake : FuncId := 4
abbrev F.parser_Type : FuncId := 5
abbrev F.modcertref04_TypeDepth : FuncId := 6
abbrev F.parser_Expr : FuncId := 7
abbrev F.parser_Module : FuncId := 8
abbrev F.modcertref04_EqualTypes : FuncId := 9
abbrev F.parser_read_api_Type : FuncId := 10
abbrev F.reader_typ : FuncId := 11
abbrev F.syntax_CheckType : FuncId := 12
abbrev F.modcertref04_Parts : FuncId := 13
abbrev F.parser_read_api_Expr : FuncId := 14
abbrev F.reader_expr : FuncId := 15
abbrev F.syntax_CheckExpr : FuncId := 16
abbrev F.parser_read_api_Module : FuncId := 17
abbrev F.parser_Module_1 : FuncId := 18
abbrev F.reader_module : FuncId := 19
abbrev F.syntax_CheckModule : FuncId := 20
abbrev F.modcertref04_EqualTypeLists : FuncId := 21
abbrev F.lexer_Lex : FuncId := 22
abbrev F.parser_read_api_Type_1 : FuncId := 23
abbrev F.reader_peek : FuncId := 24
abbrev F.reader_fail : FuncId := 25
abbrev F.reader_take : FuncId := 26
abbrev F.parser_basic : FuncId := 27
abbrev F.reader_bracket : FuncId := 28
abbrev F.reader_need : FuncId := 29
abbrev F.reader_fields : FuncId := 30
abbrev F.reader_args : FuncId := 31
abbrev F.reader_token : FuncId := 32
abbrev F.syntax_TypeSize : FuncId := 33
abbrev F.syntax_TypeDepth : FuncId := 34
abbrev F.syntax_types : FuncId := 35
abbrev F.syntax_typeNode : FuncId := 36
abbrev F.parser_read_api_Expr_1 : FuncId := 37
abbrev F.reader_let : FuncId := 38
abbrev F.reader_conditional : FuncId := 39
abbrev F.reader_match : FuncId := 40
abbrev F.reader_fold : FuncId := 41
abbrev F.reader_function : FuncId := 42
abbrev F.reader_or : FuncId := 43
abbrev F.syntax_ExprSize : FuncId := 44
abbrev F.syntax_exprDepth : FuncId := 45
abbrev F.syntax_forms : FuncId := 46
abbrev F.syntax_exprs : FuncId := 47
abbrev F.syntax_exprNode : FuncId := 48
abbrev F.parser_read_api_Module_1 : FuncId := 49
abbrev F.reader_path : FuncId := 50
abbrev F.reader_skip : FuncId := 51
abbrev F.reader_name : FuncId := 52
abbrev F.reader_decl : FuncId := 53
abbrev F.syntax_head : FuncId := 54
abbrev F.syntax_decl : FuncId := 55
abbrev F.lexer_tokens : FuncId := 56
abbrev F.reader_list : FuncId := 57
abbrev F.reader_fields_1 : FuncId := 58
abbrev F.reader_fresh : FuncId := 59
abbrev F.parser_sorted : FuncId := 60
abbrev F.reader_is : FuncId := 61
abbrev F.reader_some : FuncId := 62
abbrev F.reader_args_1 : FuncId := 63
abbrev F.syntax_parts : FuncId := 64
abbrev F.syntax_types_1 : FuncId := 65
abbrev F.syntax_types_1_1 : FuncId := 66
abbrev F.syntax_shaped : FuncId := 67
abbrev F.syntax_Variable : FuncId := 68
abbrev F.syntax_module : FuncId := 69
abbrev F.lexer_IsType : FuncId := 70
abbrev F.slices_ContainsFunc_api_Field : FuncId := 71
abbrev F.syntax_typeNode_1 : FuncId := 72
abbrev F.lexer_IsName : FuncId := 73
abbrev F.syntax_increase_api_Field : FuncId := 74
abbrev F.syntax_typeNode_2 : FuncId := 75
abbrev F.reader_match_1 : FuncId := 76
abbrev F.parser_join : FuncId := 77
abbrev F.reader_function_1 : FuncId := 78
abbrev F.reader_binary : FuncId := 79
abbrev F.reader_and : FuncId := 80
abbrev F.syntax_own : FuncId := 81
abbrev F.syntax_exprs_1 : FuncId := 82
abbrev F.syntax_exprs_1_1 : FuncId := 83
abbrev F.syntax_fits : FuncId := 84
abbrev F.syntax_misnamed : FuncId := 85
abbrev F.syntax_increase_api_Label : FuncId := 86
abbrev F.syntax_exprNode_1 : FuncId := 87
abbrev F.lexer_IsPath : FuncId := 88
abbrev F.reader_typedecl : FuncId := 89
abbrev F.reader_letdecl : FuncId := 90
abbrev F.reader_usedecl : FuncId := 91
abbrev F.syntax_ModuleSize : FuncId := 92
abbrev F.slices_ContainsFunc_api_Import : FuncId := 93
abbrev F.syntax_head_1 : FuncId := 94
abbrev F.syntax_declared : FuncId := 95
abbrev F.syntax_titled : FuncId := 96
abbrev F.slices_ContainsFunc_api_Decl : FuncId := 97
abbrev F.syntax_decl_1 : FuncId := 98
abbrev F.lexer_tokens_1 : FuncId := 99
abbrev F.lexer_blanks : FuncId := 100
abbrev F.lexer_next : FuncId := 101
abbrev F.slices_SortStableFunc_api_Field : FuncId := 102
abbrev F.parser_sorted_1 : FuncId := 103
abbrev F.strings_Compare : FuncId := 104
abbrev F.slices_Clone_api_Type : FuncId := 105
abbrev F.syntax_shaped_1 : FuncId := 106
abbrev F.lexer_capital : FuncId := 107
abbrev F.lexer_all : FuncId := 108
abbrev F.lexer_word : FuncId := 109
abbrev F.slices_IndexFunc_api_Field : FuncId := 110
abbrev F.lexer_small : FuncId := 111
abbrev F.lexer_keyword : FuncId := 112
abbrev F.slices_SortStableFunc_parser_part : FuncId := 113
abbrev F.parser_join_1 : FuncId := 114
abbrev F.slices_IndexFunc_string : FuncId := 115
abbrev F.reader_not : FuncId := 116
abbrev F.syntax_fits_1 : FuncId := 117
abbrev F.strings_Contains : FuncId := 118
abbrev F.syntax_kids : FuncId := 119
abbrev F.slices_ContainsFunc_api_Label : FuncId := 120
abbrev F.syntax_fits_2 : FuncId := 121
abbrev F.syntax_zeroType : FuncId := 122
abbrev F.syntax_misnamed_1 : FuncId := 123
abbrev F.syntax_misnamed_2 : FuncId := 124
abbrev F.lexer_Major : FuncId := 125
abbrev F.reader_typedecl_1 : FuncId := 126
abbrev F.syntax_Substitute : FuncId := 127
abbrev F.reader_letdecl_1 : FuncId := 128
abbrev F.reader_either : FuncId := 129
abbrev F.syntax_transparent : FuncId := 130
abbrev F.slices_IndexFunc_api_Import : FuncId := 131
abbrev F.slices_ContainsFunc_api_Param : FuncId := 132
abbrev F.syntax_declared_1 : FuncId := 133
abbrev F.syntax_declared_2 : FuncId := 134
abbrev F.syntax_zeroExpr : FuncId := 135
abbrev F.syntax_declared_3 : FuncId := 136
abbrev F.syntax_titled_1 : FuncId := 137
abbrev F.slices_IndexFunc_api_Decl : FuncId := 138
abbrev F.strings_IndexByte : FuncId := 139
abbrev F.strings_HasPrefix : FuncId := 140
abbrev F.lexer_span : FuncId := 141
abbrev F.lexer_digit : FuncId := 142
abbrev F.lexer_literal : FuncId := 143
abbrev F.lexer_symbol : FuncId := 144
abbrev F.slices_stableCmpFunc_api_Field : FuncId := 145
abbrev F.bytealg_CompareString : FuncId := 146
abbrev F.slices_stableCmpFunc_parser_part : FuncId := 147
abbrev F.reader_add : FuncId := 148
abbrev F.strings_Index : FuncId := 149
abbrev F.syntax_operands : FuncId := 150
abbrev F.slices_IndexFunc_api_Label : FuncId := 151
abbrev F.strings_Split : FuncId := 152
abbrev F.lexer_version : FuncId := 153
abbrev F.lexer_Major_1 : FuncId := 154
abbrev F.slices_Index_string : FuncId := 155
abbrev F.slices_Clone_api_Field : FuncId := 156
abbrev F.syntax_EqualTypes : FuncId := 157
abbrev F.slices_IndexFunc_api_Param : FuncId := 158
abbrev F.stringslite_IndexByte : FuncId := 159
abbrev F.stringslite_HasPrefix : FuncId := 160
abbrev F.lexer_hex : FuncId := 161
abbrev F.slices_insertionSortCmpFunc_api_Field : FuncId := 162
abbrev F.slices_symMergeCmpFunc_api_Field : FuncId := 163
abbrev F.bytealg_abigen_runtime_cmpstring : FuncId := 164
abbrev F.slices_insertionSortCmpFunc_parser_part : FuncId := 165
abbrev F.slices_symMergeCmpFunc_parser_part : FuncId := 166
abbrev F.reader_mul : FuncId := 167
abbrev F.stringslite_Index : FuncId := 168
abbrev F.strings_genSplit : FuncId := 169
abbrev F.strings_CutPrefix : FuncId := 170
abbrev F.slices_EqualFunc_api_Type : FuncId := 171
abbrev F.slices_EqualFunc_api_Field : FuncId := 172
abbrev F.syntax_EqualTypes_1 : FuncId := 173
abbrev F.bytealg_IndexByteString : FuncId := 174
abbrev F.slices_rotateCmpFunc_api_Field : FuncId := 175
abbrev F.slices_rotateCmpFunc_parser_part : FuncId := 176
abbrev F.reader_unary : FuncId := 177
abbrev F.bytealg_IndexString : FuncId := 178
abbrev F.bytealg_Cutover : FuncId := 179
abbrev F.bytealg_IndexRabinKarp_string : FuncId := 180
abbrev F.strings_explode : FuncId := 181
abbrev F.strings_Count : FuncId := 182
abbrev F.stringslite_CutPrefix : FuncId := 183
abbrev F.slices_swapRangeCmpFunc_api_Field : FuncId := 184
abbrev F.slices_swapRangeCmpFunc_parser_part : FuncId := 185
abbrev F.reader_number : FuncId := 186
abbrev F.reader_postfix : FuncId := 187
abbrev F.bytealg_hashStr_string : FuncId := 188
abbrev F.unicode_utf8_RuneCountInString : FuncId := 189
abbrev F.unicode_utf8_DecodeRuneInString : FuncId := 190
abbrev F.bytealg_CountString : FuncId := 191
abbrev F.strconv_ParseUint : FuncId := 192
abbrev F.reader_primary : FuncId := 193
abbrev F.reader_given : FuncId := 194
abbrev F.unicode_utf8_decodeRuneInStringSlow : FuncId := 195
abbrev F.strconv_ParseUint_x : FuncId := 196
abbrev F.strconv_toError : FuncId := 197
abbrev F.reader_value : FuncId := 198
abbrev F.reader_primary_1 : FuncId := 199
abbrev F.reader_given_1 : FuncId := 200
abbrev F.strconv_lower : FuncId := 201
abbrev F.strconv_underscoreOK : FuncId := 202
abbrev F.strconv_syntaxError : FuncId := 203
abbrev F.strconv_rangeError : FuncId := 204
abbrev F.strconv_baseError : FuncId := 205
abbrev F.strconv_bitSizeError : FuncId := 206
abbrev F.stringslite_Clone : FuncId := 207
abbrev F.errors_New : FuncId := 208
abbrev F.strconv_Itoa : FuncId := 209
abbrev F.strconv_Itoa_x : FuncId := 210
abbrev F.strconv_FormatInt : FuncId := 211
abbrev F.strconv_small : FuncId := 212
abbrev F.strconv_numDigits : FuncId := 213
abbrev F.strconv_formatBase10 : FuncId := 214
abbrev F.strconv_formatBits : FuncId := 215
abbrev F.strconv_log10Pow2 : FuncId := 216
abbrev F.math_bits_Len64 : FuncId := 217
abbrev F.strconv_bool2_int : FuncId := 218
abbrev F.strconv_isPowerOfTwo : FuncId := 219
abbrev F.math_bits_TrailingZeros : FuncId := 220
abbrev F.math_bits_TrailingZeros32 : FuncId := 221
abbrev F.math_bits_TrailingZeros64 : FuncId := 222
abbrev F.runtime_boundsError_Error : FuncId := 223
abbrev F.runtime_boundsError_RuntimeError : FuncId := 224
abbrev F.runtime_errorString_Error : FuncId := 225
abbrev F.runtime_errorString_RuntimeError : FuncId := 226
abbrev F.runtime_plainError_Error : FuncId := 227
abbrev F.runtime_plainError_RuntimeError : FuncId := 228
abbrev F.runtime_errorAddressString_Error : FuncId := 229
abbrev F.runtime_errorAddressString_RuntimeError : FuncId := 230
abbrev F.runtime_TypeAssertionError_Error : FuncId := 231
abbrev F.runtime_TypeAssertionError_RuntimeError : FuncId := 232
abbrev F.runtime_PanicNilError_Error : FuncId := 233
abbrev F.runtime_PanicNilError_RuntimeError : FuncId := 234
abbrev F.abi_Type_Align : FuncId := 235
abbrev F.runtime_maps_unhashableTypeError_Error : FuncId := 236
abbrev F.runtime_maps_unhashableTypeError_RuntimeError : FuncId := 237
abbrev F.strconv_Error_Error : FuncId := 238
abbrev F.strconv_NumError_Error : FuncId := 239
abbrev F.errors_errorString_Error : FuncId := 240
abbrev F.abi_Kind_String : FuncId := 241
abbrev F.gosem_cut_vars : FuncId := 251
def isSmall (c : UInt8) : Bool := decide (97 <= Int.ofNat c.toNat) && decide (Int.ofNat c.toNat <= 122)
def isCapital (c : UInt8) : Bool := decide (65 <= Int.ofNat c.toNat) && decide (Int.ofNat c.toNat <= 90)
def isDigit (c : UInt8) : Bool := decide (48 <= Int.ofNat c.toNat) && decide (Int.ofNat c.toNat <= 57)
def isWord (c : UInt8) : Bool := isSmall c || isCapital c || isDigit c || decide (Int.ofNat c.toNat = 95)
set_option maxHeartbeats 4000000 in
theorem small_spec (c : UInt8) {σ : VS} {K : VCR -> VS -> Prop} (hk : K (.ret (boolV (isSmall c))) σ) : VCall C intr0 F.lexer_small [byteV c] σ K := by
 refine VCall.b0 nofz (fun _ => rfl) ?_
 refine vci (fun h => ?_) (fun h => ?_)
 ·exact vcp h (vcp h (retb_of (by simp only [isSmall, h, Bool.true_and]) hk))
 ·exact vcn h (vcn h (retb_of (by simp only [isSmall, h, Bool.false_and]) hk))
set_option maxHeartbeats 4000000 in
theorem capital_spec (c : UInt8) {σ : VS} {K : VCR -> VS -> Prop} (hk : K (.ret (boolV (isCapital c))) σ) : VCall C intr0 F.lexer_capital [byteV c] σ K := by
 refine VCall.b0 nofz (fun _ => rfl) ?_
 refine vci (fun h => ?_) (fun h => ?_)
 ·exact vcp h (vcp h (retb_of (by simp only [isCapital, h, Bool.true_and]) hk))
 ·exact vcn h (vcn h (retb_of (by simp only [isCapital, h, Bool.false_and]) hk))
set_option maxHeartbeats 4000000 in
theorem digit_spec (c : UInt8) {σ : VS} {K : VCR -> VS -> Prop} (hk : K (.ret (boolV (isDigit c))) σ) : VCall C intr0 F.lexer_digit [byteV c] σ K := by
 refine VCall.b0 nofz (fun _ => rfl) ?_
 refine vci (fun h => ?_) (fun h => ?_)
 ·exact vcp h (vcp h (retb_of (by simp only [isDigit, h, Bool.true_and]) hk))
 ·exact vcn h (vcn h (retb_of (by simp only [isDigit, h, Bool.false_and]) hk))
set_option maxHeartbeats 4000000 in
theorem word_spec (c : UInt8) {σ : VS} {K : VCR -> VS -> Prop} (hk : K (.ret (boolV (isWord c))) σ) : VCall C intr0 F.lexer_word [byteV c] σ K := by
 refine VCall.b0 nofz (fun _ => rfl) ?_
 refine small_spec c ?_
 refine vci (fun h1 => ?_) (fun h1 => ?_)
 ·exact vcp h1 (vcp h1 (retb_of (by simp only [isWord, h1, Bool.true_or]) hk))
 ·refine vcn h1 (capital_spec c ?_)
  refine vcn h1 ?_
  refine vci (fun h2 => ?_) (fun h2 => ?_)
  ·exact vcp h2 (vcp h2 (retb_of (by simp only [isWord, h2, Bool.true_or, Bool.or_true]) hk))
  ·refine vcn h2 (digit_spec c ?_)
   refine vcn h2 ?_
   refine vci (fun h3 => ?_) (fun h3 => ?_)
   ·exact vcp h3 (vcp h3 (retb_of (by simp only [isWord, h3, Bool.true_or, Bool.or_true]) hk))
   ·exact vcn h3 (vcn h3 (retb_of (by simp only [isWord, h1, h2, h3, Bool.false_or]) hk))
structure ByteFn (g : Nat) (p : UInt8 -> Bool) : Prop where
 is : (C.ff.get g).isSome = true
 spec : ∀ (c : UInt8) {σ : VS} {K : VCR -> VS -> Prop}, K (.ret (boolV (p c))) σ -> VCall C intr0 g [byteV c] σ K
theorem word_fn : ByteFn F.lexer_word isWord := ⟨rfl, word_spec⟩
theorem digit_fn : ByteFn F.lexer_digit isDigit := ⟨rfl, digit_spec⟩
set_option maxHeartbeats 4000000 in
theorem all_spec {g : Nat} {p : UInt8 -> Bool} (hg : ByteFn g p) (s : List UInt8) (hs : s.length < 4294967296) {σ : VS} {K : VCR -> VS -> Prop} (hk : K (.ret (boolV (s.all p))) σ) : VCall C intr0 F.lexer_all [strV s, .fn g [] []] σ K := by
 refine VCall.b0 nofz (fun _ => rfl) ?_
 refine VCode.less (tm0 := [(8, intV 0), (7, intV s.length), (4, boolV false), (1, .fn g [] []), (0, strV s)]) ⟨rfl, rfl, rfl, rfl, rfl, trivial⟩ ?_
 refine VCode.iter (fun i : Nat => [(8, intV i), (7, intV s.length), (4, boolV false), (1, .fn g [] []), (0, strV s)]) (fun _ => σ) (fun i => s.length - i) (fun i => i <= s.length /\ (s.take i).all p = true) ?_ 0 ⟨by omega, by simp⟩
 rintro i ⟨hi, hp⟩
 refine vci (fun h => ?_) (fun h => ?_)
 ·have h : i < s.length := by simpa using h
  have hgi : s[i]? = some s[i] := List.getElem?_eq_getElem h
  refine vnf rfl (exf s[i] (by rw [nth_eq]; exact hgi) ?_)
  refine vcp hg.is ?_
  refine hg.spec s[i] ?_
  refine vci (fun h2 => ?_) (fun h2 => ?_)
  ·refine retb_of ?_ hk
   symm
   rw [List.all_eq_false]
   exact ⟨s[i], List.getElem_mem h, by simpa using h2⟩
  ·refine ⟨i + 1, ⟨by omega, ?_⟩, by omega, .same ⟨int_eq ?_, rfl, rfl, rfl, rfl, trivial⟩ rfl, rfl, rfl⟩
   ·rw [List.take_add_one, hgi]
    simp only [List.all_append, hp, Option.toList, List.all_cons, List.all_nil, Bool.and_true, Bool.true_and]
    simpa using h2
   ·exact wrap_succ (by omega)
 ·have h : ¬ i < s.length := by simpa using h
  refine retb_of ?_ hk
  rw [List.take_of_length_le (by omega)] at hp
  exact hp.symm
set_option maxHeartbeats 4000000 in
theorem contains_spec (s t : List UInt8) (hs : s.length < 4294967281) {σ : VS} {K : VCR -> VS -> Prop} (hk : K (.ret (boolV (hasSub t s))) σ) : VCall C intr0 F.strings_Contains [strV s, strV t] σ K := by
 refine VCall.intrinsic (args := [.str s, .str t]) (x := .bool (hasSub t s)) ?_ rfl hk
 have : Nat.blt s.length 4294967281 = true := by rw [blt_dec]; exact decide_eq_true hs
 simp only [intr0, intrA, List.map_cons, List.map_nil, eraseD]
 show (match Nat.blt s.length 4294967281 with | true => _ | false => _) = _
 rw [this]
def kwBytes : List UInt8 := [32, 97, 110, 100, 32, 97, 110, 121, 32, 97, 115, 32, 98, 111, 111, 108, 32, 100, 101, 112, 114, 101, 99, 97, 116, 101, 100, 32, 101, 108, 115, 101, 32, 101, 120, 112, 111, 114, 116, 32, 102, 97, 108, 115, 101, 32, 102, 110, 32, 102, 111, 108, 100, 32, 102, 114, 111, 109, 32, 105, 102, 32, 105, 109, 112, 111, 114, 116, 32, 105, 110, 32, 105, 110, 116, 32, 108, 101, 110, 103, 116, 104, 32, 108, 101, 116, 32, 108, 105, 115, 116, 32, 109, 97, 116, 99, 104, 32, 109, 111, 100, 117, 108, 101, 32, 110, 111, 110, 101, 32, 110, 111, 116, 32, 111, 114, 32, 116, 101, 120, 116, 32, 116, 104, 101, 110, 32, 116, 114, 117, 101, 32, 116, 121, 112, 101, 32, 117, 115, 101, 32]
def isKw (s : List UInt8) : Bool := hasSub (([32] ++ s) ++ [32]) kwBytes
set_option maxHeartbeats 4000000 in
theorem keyword_spec (s : List UInt8) (hs : s.length < 4294967296) {σ : VS} {K : VCR -> VS -> Prop} (hk : K (.ret (boolV (isKw s))) σ) : VCall C intr0 F.lexer_keyword [strV s] σ K := by
 refine VCall.b0 nofz (fun _ => rfl) ?_
 refine vni ?_ ?_
 ·show 1 + s.length <= _
  omega
 refine vni ?_ ?_
 ·show (_ :: s).length + 1 <= _
  simp only [List.length_cons]; omega
 refine contains_spec kwBytes (([32] ++ s) ++ [32]) (by simp only [kwBytes, List.length_cons, List.length_nil]; omega) ?_
 exact hk
def isName (s : List UInt8) : Bool := decide (s ≠ []) && decide (s.length <= 32) && (s.head?.any isSmall) && s.all isWord && !(isKw s)
def isType (s : List UInt8) : Bool := decide (s ≠ []) && decide (s.length <= 32) && (s.head?.any isCapital) && s.all isWord
set_option maxHeartbeats 4000000 in
theorem isName_spec (s : List UInt8) (hs : s.length < 4294967296) {σ : VS} {K : VCR -> VS -> Prop} (hk : K (.ret (boolV (isName s))) σ) : VCall C intr0 F.lexer_IsName [strV s] σ K := by
 refine VCall.b0 nofz (fun _ => rfl) ?_
 refine vci (fun h1 => ?_) (fun h1 => ?_)
 ·repeat refine vcp h1 ?_
  cases s with
  | nil => simp at h1
  | cons c r =>
   refine vci (fun h2 => ?_) (fun h2 => ?_)
   ·have h2' : (c :: r).length <= 32 := dle h2
    refine vcp h2 (vnf rfl (exf c rfl ?_))
    refine vcp h2 (small_spec c ?_)
    refine vcp h2 ?_
    refine vci (fun h3 => ?_) (fun h3 => ?_)
    ·refine vcp h3 (all_spec word_fn (c :: r) (by omega) ?_)
     refine vcp h3 ?_
     refine vci (fun h4 => ?_) (fun h4 => ?_)
     ·refine vcp h4 (keyword_spec (c :: r) (by omega) ?_)
      refine vcp h4 ?_
      refine vcp h4 ?_
      refine retb_of ?_ hk
      have h4 : (c :: r).all isWord = true := h4
      simp only [isName, decide_eq_true h2', h3, h4, List.head?_cons, Option.any_some]
      simp
     ·repeat refine vcn h4 ?_
      refine retb_of ?_ hk
      have h4 : (c :: r).all isWord = false := h4
      simp [isName, h4]
    ·repeat refine vcn h3 ?_
     refine retb_of ?_ hk
     have h3 : isSmall c = false := h3
     simp [isName, h3]
   ·repeat refine vcn h2 ?_
    refine retb_of ?_ hk
    have h2' : ¬ (c :: r).length <= 32 := Nat.not_le_of_lt (dnle h2)
    simp only [isName, decide_eq_false h2', Bool.and_false, Bool.false_and]
 ·repeat refine vcn h1 ?_
  refine retb_of ?_ hk
  have h1' : s = [] := by simpa using h1
  subst h1'
  rfl
set_option maxHeartbeats 4000000 in
theorem isType_spec (s : List UInt8) (hs : s.length < 4294967296) {σ : VS} {K : VCR -> VS -> Prop} (hk : K (.ret (boolV (isType s))) σ) : VCall C intr0 F.lexer_IsType [strV s] σ K := by
 refine VCall.b0 nofz (fun _ => rfl) ?_
 refine vci (fun h1 => ?_) (fun h1 => ?_)
 ·repeat refine vcp h1 ?_
  cases s with
  | nil => simp at h1
  | cons c r =>
   refine vci (fun h2 => ?_) (fun h2 => ?_)
   ·have h2' : (c :: r).length <= 32 := dle h2
    refine vcp h2 (vnf rfl (exf c rfl ?_))
    refine vcp h2 (capital_spec c ?_)
    refine vcp h2 ?_
    refine vci (fun h3 => ?_) (fun h3 => ?_)
    ·refine vcp h3 (all_spec word_fn (c :: r) (by omega) ?_)
     refine vcp h3 ?_
     refine retb_of ?_ hk
     simp only [isType, decide_eq_true h2', h3, List.head?_cons, Option.any_some]
     simp
    ·repeat refine vcn h3 ?_
     refine retb_of ?_ hk
     have h3 : isCapital c = false := h3
     simp [isType, h3]
   ·repeat refine vcn h2 ?_
    refine retb_of ?_ hk
    have h2' : ¬ (c :: r).length <= 32 := Nat.not_le_of_lt (dnle h2)
    simp only [isType, decide_eq_false h2', Bool.and_false, Bool.false_and]
 ·repeat refine vcn h1 ?_
  refine retb_of ?_ hk
  have h1' : s = [] := by simpa using h1
  subst h1'
  rfl
theorem ext_index (s : List UInt8) (c : UInt8) : C.ext F.bytealg_IndexByteString ([D.str s, byteD c].map eraseD) = some (eraseD (.int .i64 (indexByte s c.toNat 0))) := by
 have hc : Nat.blt c.toNat 256 = true := by rw [blt_dec]; exact decide_eq_true c.toNat_lt
 show ext 174 [.string ⟨⟨s⟩⟩, .int .u8 (Int.ofNat c.toNat)] = _
 simp only [ext, hc]
 rfl
set_option maxHeartbeats 4000000 in
theorem indexByte0_spec (s : List UInt8) (c : UInt8) {σ : VS} {K : VCR -> VS -> Prop} (hk : K (.ret (.d (.int .i64 (indexByte s c.toNat 0)))) σ) : VCall C intr0 F.stringslite_IndexByte [strV s, byteV c] σ K := by
 refine VCall.b0 nofz (fun _ => rfl) ?_
 refine ex3_of (.int .i64 (indexByte s c.toNat 0)) (ext_index s c) rfl ?_
 exact hk
set_option maxHeartbeats 4000000 in
theorem indexByte_spec (s : List UInt8) (c : UInt8) {σ : VS} {K : VCR -> VS -> Prop} (hk : K (.ret (.d (.int .i64 (indexByte s c.toNat 0)))) σ) : VCall C intr0 F.strings_IndexByte [strV s, byteV c] σ K := by
 refine VCall.b0 nofz (fun _ => rfl) ?_
 refine indexByte0_spec s c ?_
 exact hk
def hasPre (s p : List UInt8) : Bool := p.isPrefixOf s
theorem hasPre_yes {s p : List UInt8} (h : p.length <= s.length) : decide ((s.take p.length).drop 0 = p) = hasPre s p := by
 rw [List.drop_zero, hasPre, Bool.eq_iff_iff, decide_eq_true_eq, List.isPrefixOf_iff_prefix]
 exact ⟨fun e => ⟨s.drop p.length, by have := List.take_append_drop p.length s; rw [e] at this; exact this⟩, fun ⟨t, e⟩ => by rw [<- e]; simp⟩
theorem hasPre_no {s p : List UInt8} (h : s.length < p.length) : hasPre s p = false := by
 rw [hasPre, Bool.eq_false_iff]
 intro hp
 rw [List.isPrefixOf_iff_prefix] at hp
 have := hp.length_le
 omega
set_option maxHeartbeats 4000000 in
theorem hasPrefix0_spec (s p : List UInt8) {σ : VS} {K : VCR -> VS -> Prop} (hk : K (.ret (boolV (hasPre s p))) σ) : VCall C intr0 F.stringslite_HasPrefix [strV s, strV p] σ K := by
 refine VCall.b0 nofz (fun _ => rfl) ?_
 refine vci (fun h => ?_) (fun h => ?_)
 ·repeat refine vcp h ?_
  refine vnf rfl ?_
  refine vni ⟨Nat.zero_le _, dle h⟩ ?_
  repeat refine vcp h ?_
  exact retb_of (hasPre_yes (dle h)) hk
 ·repeat refine vcn h ?_
  exact retb_of (hasPre_no (dnle h)).symm hk
set_option maxHeartbeats 4000000 in
theorem hasPrefix_spec (s p : List UInt8) {σ : VS} {K : VCR -> VS -> Prop} (hk : K (.ret (boolV (hasPre s p))) σ) : VCall C intr0 F.strings_HasPrefix [strV s, strV p] σ K := by
 refine VCall.b0 nofz (fun _ => rfl) ?_
 refine hasPrefix0_spec s p ?_
 exact hk
def spanN (p : UInt8 -> Bool) (l : List UInt8) : Nat := (l.takeWhile p).length
theorem spanN_cons (p : UInt8 -> Bool) (c : UInt8) (l : List UInt8) : spanN p (c :: l) = if p c then spanN p l + 1 else 0 := by
 simp only [spanN, List.takeWhile_cons]
 split <;> simp_all
theorem spanN_le (p : UInt8 -> Bool) (l : List UInt8) : spanN p l <= l.length := by
 induction l with
 | nil => simp [spanN]
 | cons c l ih => rw [spanN_cons]; split <;> simp <;> omega
set_option maxHeartbeats 4000000 in
theorem span_spec {g : Nat} {p : UInt8 -> Bool} (hg : ByteFn g p) (s : List UInt8) (at0 : Nat) (h0 : at0 <= s.length) (hs : s.length < 4294967296) {σ : VS} {K : VCR -> VS -> Prop} (hk : K (.ret (intV (at0 + spanN p (s.drop at0)))) σ) :
  VCall C intr0 F.lexer_span [strV s, intV at0, .fn g [] []] σ K := by
 refine VCall.b0 nofz (fun _ => rfl) ?_
 refine VCode.less (tm0 := [(1, intV at0), (6, intV 0), (2, .fn g [] []), (0, strV s)]) ⟨rfl, rfl, rfl, rfl, trivial⟩ ?_
 refine VCode.iter (fun i : Nat => [(1, intV i), (6, intV 0), (2, .fn g [] []), (0, strV s)]) (fun _ => σ) (fun i => s.length - i) (fun i => i <= s.length /\ i + spanN p (s.drop i) = at0 + spanN p (s.drop at0)) ?_ at0 ⟨h0, rfl⟩
 rintro i ⟨hi, hp⟩
 refine vci (fun h => ?_) (fun h => ?_)
 ·have h' := dlt h
  have hgi : s[i]? = some s[i] := List.getElem?_eq_getElem h'
  have hd : s.drop i = s[i] :: s.drop (i + 1) := List.drop_eq_getElem_cons h'
  rw [hd, spanN_cons] at hp
  repeat refine vcp h ?_
  refine vnf rfl (exf s[i] (by rw [nth_eq]; exact hgi) ?_)
  refine vcp h ?_
  refine vcp hg.is ?_
  refine hg.spec s[i] ?_
  refine vcp h ?_
  refine vci (fun h2 => ?_) (fun h2 => ?_)
  ·rw [if_pos h2] at hp
   exact ⟨i + 1, ⟨by omega, by omega⟩, by omega, .same ⟨int_eq (wrap_succ (by omega)), rfl, rfl, rfl, trivial⟩ rfl, rfl, rfl⟩
  ·rw [if_neg (by rw [h2]; simp)] at hp
   exact ret_of (show _ = intV (at0 + spanN p (s.drop at0)) by rw [<- hp]; rfl) hk
 ·have h' := dnlt h
  rw [List.drop_of_length_le h'] at hp
  simp only [spanN, List.takeWhile_nil, List.length_nil] at hp
  repeat refine vcn h ?_
  exact ret_of (show _ = intV (at0 + spanN p (s.drop at0)) by simp only [spanN]; rw [<- hp]; rfl) hk
theorem wrap8 {n : Int} (h0 : 0 <= n) (h1 : n < 256) : IntKind.u8.wrap n = n := by
 have : IntKind.u8.wrap n = n % 256 := rfl
 rw [this]
 omega
def hexN (c : UInt8) : Option Nat := if isDigit c then some (c.toNat - 48) else if decide (97 <= c.toNat) && decide (c.toNat <= 102) then some (c.toNat - 87) else none
def hexRet (c : UInt8) : V := match hexN c with
 | some n => .tup [.d (.int .u8 (Int.ofNat n)), boolV true]
 | none => .tup [.d (.int .u8 0), boolV false]
theorem digit_lt {c : UInt8} (h : isDigit c = true) : 48 <= c.toNat /\ c.toNat <= 57 := by
 simp only [isDigit, Bool.and_eq_true] at h
 exact ⟨dle (a := 48) h.1, dle (b := 57) h.2⟩
set_option maxHeartbeats 4000000 in
theorem hex_spec (c : UInt8) {σ : VS} {K : VCR -> VS -> Prop} (hk : K (.ret (hexRet c)) σ) : VCall C intr0 F.lexer_hex [byteV c] σ K := by
 refine VCall.b0 nofz (fun _ => rfl) ?_
 refine digit_spec c ?_
 refine vci (fun h => ?_) (fun h => ?_)
 ·refine ret_of ?_ hk
  have hd := digit_lt h
  simp only [hexRet, hexN, h, if_pos]
  show V.tup [V.d (.int .u8 (IntKind.u8.wrap (Int.ofNat c.toNat - 48))), _] = _
  rw [wrap8 (by simp only [Int.ofNat_eq_natCast]; omega) (by simp only [Int.ofNat_eq_natCast]; omega)]
  have : Int.ofNat c.toNat - 48 = Int.ofNat (c.toNat - 48) := by simp only [Int.ofNat_eq_natCast]; omega
  rw [this]; rfl
 ·refine vci (fun h1 => ?_) (fun h1 => ?_)
  ·have h1' : 97 <= c.toNat := dle (a := 97) h1
   repeat refine vcp h1 ?_
   refine vci (fun h2 => ?_) (fun h2 => ?_)
   ·have h2' : c.toNat <= 102 := dle (b := 102) h2
    refine ret_of ?_ hk
    simp only [hexRet, hexN, h, decide_eq_true h1', decide_eq_true h2', Bool.and_self, if_pos]
    show V.tup [V.d (.int .u8 (IntKind.u8.wrap (IntKind.u8.wrap (Int.ofNat c.toNat - 97) + 10))), _] = _
    rw [wrap8 (n := Int.ofNat c.toNat - 97) (by simp only [Int.ofNat_eq_natCast]; omega) (by simp only [Int.ofNat_eq_natCast]; omega)]
    rw [wrap8 (by simp only [Int.ofNat_eq_natCast]; omega) (by simp only [Int.ofNat_eq_natCast]; omega)]
    have : Int.ofNat c.toNat - 97 + 10 = Int.ofNat (c.toNat - 87) := by simp only [Int.ofNat_eq_natCast]; omega
    rw [this]; rfl
   ·have h2' : ¬ c.toNat <= 102 := Nat.not_le_of_lt (dnle (b := 102) h2)
    refine ret_of ?_ hk
    simp only [hexRet, hexN, h, decide_eq_false h2', Bool.and_false]
    rfl
  ·have h1' : ¬ 97 <= c.toNat := Nat.not_le_of_lt (dnle (a := 97) h1)
   repeat refine vcn h1 ?_
   refine ret_of ?_ hk
   simp only [hexRet, hexN, h, decide_eq_false h1', Bool.false_and]
   rfl
def syms7 : List (List UInt8) := [[61, 61, 61], [58, 58], [62, 58], [60, 58], [61, 62], [61, 61], [43, 43]]
def singles : List UInt8 := [40, 41, 91, 93, 123, 125, 60, 62, 44, 58, 61, 46, 43, 45, 42, 124, 63, 47]
def symOf (s : List UInt8) : List UInt8 := match syms7.find? (hasPre s) with
 | some x => x
 | none => match s with
  | [] => []
  | c :: _ => if 0 <= indexByte singles c.toNat 0 then [c] else []
set_option maxHeartbeats 4000000 in
theorem symbol_spec (s : List UInt8) {σ : VS} {K : VCR -> VS -> Prop} (hk : K (.ret (strV (symOf s))) σ) : VCall C intr0 F.lexer_symbol [strV s] σ K := by
 refine VCall.b0 nofz (fun _ => rfl) ?_
 refine VCode.loop ?_
 refine vnf (m := 0) rfl (vni (by decide) ?_)
 refine hasPrefix_spec s [61, 61, 61] ?_
 refine vci (fun h => ?_) (fun h0 => ?_)
 ·refine ret_of ?_ hk
  have h : hasPre s [61, 61, 61] = true := h
  simp only [symOf, syms7, List.find?_cons, h]
  rfl
 have h0 : hasPre s [61, 61, 61] = false := h0
 refine VCode.loop ?_
 refine vnf (m := 1) rfl (vni (by decide) ?_)
 refine hasPrefix_spec s [58, 58] ?_
 refine vci (fun h => ?_) (fun h1 => ?_)
 ·refine ret_of ?_ hk
  have h : hasPre s [58, 58] = true := h
  simp only [symOf, syms7, List.find?_cons, h0, h]
  rfl
 have h1 : hasPre s [58, 58] = false := h1
 refine VCode.loop ?_
 refine vnf (m := 2) rfl (vni (by decide) ?_)
 refine hasPrefix_spec s [62, 58] ?_
 refine vci (fun h => ?_) (fun h2 => ?_)
 ·refine ret_of ?_ hk
  have h : hasPre s [62, 58] = true := h
  simp only [symOf, syms7, List.find?_cons, h0, h1, h]
  rfl
 have h2 : hasPre s [62, 58] = false := h2
 refine VCode.loop ?_
 refine vnf (m := 3) rfl (vni (by decide) ?_)
 refine hasPrefix_spec s [60, 58] ?_
 refine vci (fun h => ?_) (fun h3 => ?_)
 ·refine ret_of ?_ hk
  have h : hasPre s [60, 58] = true := h
  simp only [symOf, syms7, List.find?_cons, h0, h1, h2, h]
  rfl
 have h3 : hasPre s [60, 58] = false := h3
 refine VCode.loop ?_
 refine vnf (m := 4) rfl (vni (by decide) ?_)
 refine hasPrefix_spec s [61, 62] ?_
 refine vci (fun h => ?_) (fun h4 => ?_)
 ·refine ret_of ?_ hk
  have h : hasPre s [61, 62] = true := h
  simp only [symOf, syms7, List.find?_cons, h0, h1, h2, h3, h]
  rfl
 have h4 : hasPre s [61, 62] = false := h4
 refine VCode.loop ?_
 refine vnf (m := 5) rfl (vni (by decide) ?_)
 refine hasPrefix_spec s [61, 61] ?_
 refine vci (fun h => ?_) (fun h5 => ?_)
 ·refine ret_of ?_ hk
  have h : hasPre s [61, 61] = true := h
  simp only [symOf, syms7, List.find?_cons, h0, h1, h2, h3, h4, h]
  rfl
 have h5 : hasPre s [61, 61] = false := h5
 refine VCode.loop ?_
 refine vnf (m := 6) rfl (vni (by decide) ?_)
 refine hasPrefix_spec s [43, 43] ?_
 refine vci (fun h => ?_) (fun h6 => ?_)
 ·refine ret_of ?_ hk
  have h : hasPre s [43, 43] = true := h
  simp only [symOf, syms7, List.find?_cons, h0, h1, h2, h3, h4, h5, h]
  rfl
 have h6 : hasPre s [43, 43] = false := h6
 have hn : syms7.find? (hasPre s) = none := by simp only [syms7, List.find?_cons, h0, h1, h2, h3, h4, h5, h6, List.find?_nil]
 refine VCode.loop ?_
 refine vci (fun h => ?_) (fun h => ?_)
 ·repeat refine vcp h ?_
  cases s with
  | nil => simp at h
  | cons c r =>
   refine vnf (m := 0) rfl (exf c rfl ?_)
   refine indexByte_spec singles c ?_
   refine vci (fun h2 => ?_) (fun h2 => ?_)
   ·refine vnf (m := 1) rfl (vni ⟨by omega, by simp⟩ ?_)
    refine ret_of ?_ hk
    simp only [symOf, hn]
    rw [if_pos (of_decide_eq_true h2)]
    rfl
   ·refine ret_of ?_ hk
    simp only [symOf, hn]
    rw [if_neg (of_decide_eq_false h2)]
    rfl
 ·repeat refine vcn h ?_
  have h' : s = [] := by simpa using h
  subst h'
  exact ret_of rfl hk
def skipF : Bool -> List UInt8 -> Nat
 | _, [] => 0
 | true, c :: r => 1 + skipF (decide (c ≠ 10)) r
 | false, c :: r => if c = 47 /\ r.head? = some 47 then 1 + skipF true r else if c = 32 ∨ c = 9 ∨ c = 10 ∨ c = 13 then 1 + skipF false r else 0
theorem skipF_le (b : Bool) (l : List UInt8) : skipF b l <= l.length := by
 induction l generalizing b with
 | nil => cases b <;> simp [skipF]
 | cons c r ih =>
  cases b with
  | true => simp only [skipF, List.length_cons]; have := ih (decide (c ≠ 10)); omega
  | false =>
   simp only [skipF, List.length_cons]
   split
   ·have := ih true; omega
   ·split
    ·have := ih false; omega
    ·omega
def isBlank (c : UInt8) : Prop := c = 32 ∨ c = 9 ∨ c = 10 ∨ c = 13
instance (c : UInt8) : Decidable (isBlank c) := by unfold isBlank; infer_instance
theorem blank_idx (c : UInt8) : decide (0 <= indexByte [32, 9, 10, 13] c.toNat 0) = decide (isBlank c) := by
 have e : ∀ d : UInt8, Nat.beq d.toNat c.toNat = decide (c = d) := fun d => by
  rw [beq_dec]
  exact decide_eq_decide.2 ⟨fun h => (UInt8.toNat_inj.1 h).symm, fun h => by rw [h]⟩
 simp only [indexByte, e, isBlank]
 by_cases h1 : c = 32
 ·simp [h1]
 ·by_cases h2 : c = 9
  ·simp [h1, h2]
  ·by_cases h3 : c = 10
   ·simp [h1, h2, h3]
   ·by_cases h4 : c = 13
    ·simp [h1, h2, h3, h4]
    ·simp [h1, h2, h3, h4]
theorem skipF_blank {c : UInt8} {r : List UInt8} (h : isBlank c) : skipF false (c :: r) = 1 + skipF false r := by
 have h' : ¬ (c = 47 /\ r.head? = some 47) := by
  rintro ⟨rfl, _⟩
  revert h; decide
 simp only [skipF, if_neg h']
 exact if_pos h
theorem skipF_stop {c : UInt8} {r : List UInt8} (h : ¬ isBlank c) (h2 : hasPre (c :: r) [47, 47] = false) : skipF false (c :: r) = 0 := by
 have h' : ¬ (c = 47 /\ r.head? = some 47) := by
  rintro ⟨rfl, hr⟩
  cases r with
  | nil => cases hr
  | cons d r => simp at hr; subst hr; simp [hasPre] at h2
 simp only [skipF, if_neg h']
 exact if_neg h
theorem skipF_comment {l : List UInt8} (h : hasPre l [47, 47] = true) : skipF false l = skipF true l := by
 rw [hasPre, List.isPrefixOf_iff_prefix] at h
 obtain ⟨t, rfl⟩ := h
 show skipF false (47 :: 47 :: t) = skipF true (47 :: 47 :: t)
 rfl
theorem skipT : ∀ (l : List UInt8) (off : Nat), (indexByte l 10 off = -1 /\ skipF true l = l.length) ∨ ∃ k, k < l.length /\ indexByte l 10 off = Int.ofNat (off + k) /\ l[k]? = some 10 /\ skipF true l = k + skipF false (l.drop k) := by
 intro l
 induction l with
 | nil => intro off; exact .inl ⟨rfl, rfl⟩
 | cons c r ih =>
  intro off
  by_cases hc : c = 10
  ·subst hc
   refine .inr ⟨0, by simp, by simp [indexByte], rfl, ?_⟩
   rw [List.drop_zero, skipF_blank (by decide)]
   simp [skipF]
  ·have hb : Nat.beq c.toNat 10 = false := beq_ne fun e => hc (UInt8.toNat_inj.1 e)
   have e1 : indexByte (c :: r) 10 off = indexByte r 10 (off + 1) := by simp only [indexByte, hb]
   have e2 : skipF true (c :: r) = 1 + skipF true r := by simp only [skipF, ne_eq, hc, not_false_eq_true, decide_true]
   rcases ih (off + 1) with ⟨h1, h2⟩ | ⟨k, h1, h2, h4, h3⟩
   ·exact .inl ⟨by rw [e1, h1], by rw [e2, h2, List.length_cons]; omega⟩
   ·refine .inr ⟨k + 1, by simp; omega, by rw [e1, h2]; congr 1; omega, by simpa using h4, by rw [e2, h3, List.drop_succ_cons]; omega⟩
set_option maxHeartbeats 4000000 in
theorem blanks_spec (s : List UInt8) (at0 : Nat) (h0 : at0 <= s.length) (hs : s.length < 4294967296) {σ : VS} {K : VCR -> VS -> Prop} (hk : K (.ret (intV (at0 + skipF false (s.drop at0)))) σ) :
  VCall C intr0 F.lexer_blanks [strV s, intV at0] σ K := by
 refine VCall.b0 nofz (fun _ => rfl) ?_
 refine VCode.less (tm0 := [(1, intV at0), (4, intV 0), (0, strV s)]) ⟨rfl, rfl, rfl, trivial⟩ ?_
 refine VCode.iter (fun i : Nat => [(1, intV i), (4, intV 0), (0, strV s)]) (fun _ => σ) (fun i => s.length - i) (fun i => i <= s.length /\ i + skipF false (s.drop i) = at0 + skipF false (s.drop at0)) ?_ at0 ⟨h0, rfl⟩
 rintro i ⟨hi, hp⟩
 refine vci (fun h => ?_) (fun h => ?_)
 ·have h' := dlt h
  have hgi : s[i]? = some s[i] := List.getElem?_eq_getElem h'
  have hd : s.drop i = s[i] :: s.drop (i + 1) := List.drop_eq_getElem_cons h'
  refine vnf rfl (exf s[i] (by rw [nth_eq]; exact hgi) ?_)
  refine indexByte_spec [32, 9, 10, 13] s[i] ?_
  refine vci (fun h2 => ?_) (fun h2 => ?_)
  ·have hb : isBlank s[i] := by
    have : decide (0 <= indexByte [32, 9, 10, 13] s[i].toNat 0) = true := h2
    rw [blank_idx] at this
    exact of_decide_eq_true this
   rw [hd, skipF_blank hb] at hp
   exact ⟨i + 1, ⟨by omega, by omega⟩, by omega, .same ⟨int_eq (wrap_succ (by omega)), rfl, rfl, trivial⟩ rfl, rfl, rfl⟩
  ·have hb : ¬ isBlank s[i] := by
    have : decide (0 <= indexByte [32, 9, 10, 13] s[i].toNat 0) = false := h2
    rw [blank_idx] at this
    exact of_decide_eq_false this
   refine vnf rfl (vni ⟨by omega, Nat.le_refl _⟩ ?_)
   refine hasPrefix_spec _ [47, 47] ?_
   rw [List.take_length]
   refine vci (fun h3 => ?_) (fun h3 => ?_)
   ·have h3' : hasPre (s.drop i) [47, 47] = true := h3
    rw [skipF_comment h3'] at hp
    refine vnf rfl (vni ⟨by omega, Nat.le_refl _⟩ ?_)
    refine indexByte_spec _ 10 ?_
    rw [List.take_length]
    rcases skipT (s.drop i) 0 with ⟨g1, g2⟩ | ⟨k, g1, g2, g4, g3⟩
    ·refine vcn (by show decide (0 <= indexByte (s.drop i) 10 0) = false; rw [g1]; rfl) ?_
     rw [g2, List.length_drop] at hp
     exact ⟨s.length, ⟨Nat.le_refl _, by rw [List.drop_of_length_le (Nat.le_refl _)]; simp only [skipF]; omega⟩, by omega, .same ⟨rfl, rfl, rfl, trivial⟩ rfl, rfl, rfl⟩
    ·rw [Nat.zero_add] at g2
     refine vcp (by show decide (0 <= indexByte (s.drop i) 10 0) = true; rw [g2]; exact decide_eq_true (by simp)) ?_
     rw [g3, List.drop_drop] at hp
     rw [List.length_drop] at g1
     have hk0 : k ≠ 0 := fun e => by
      subst e
      rw [List.getElem?_drop, Nat.add_zero, hgi] at g4
      injection g4 with g5
      exact hb (.inr (.inr (.inl g5)))
     exact ⟨i + k, ⟨by omega, by omega⟩, by omega, .same ⟨int_eq (by show IntKind.i64.wrap (Int.ofNat i + indexByte (s.drop i) 10 0) = _; rw [g2]; exact wrap_add (by omega)), rfl, rfl, trivial⟩ rfl, rfl, rfl⟩
   ·have h3' : hasPre (s[i] :: s.drop (i + 1)) [47, 47] = false := by rw [<- hd]; exact h3
    rw [hd, skipF_stop hb h3'] at hp
    exact ret_of (show _ = intV (at0 + skipF false (s.drop at0)) by rw [<- hp]; rfl) hk
 ·have h' := dnlt h
  rw [List.drop_of_length_le h'] at hp
  simp only [skipF] at hp
  exact ret_of (show _ = intV (at0 + skipF false (s.drop at0)) by rw [<- hp]; rfl) hk
def litF : List UInt8 -> Option (List UInt8 × Nat)
 | [] => none
 | c :: r =>
  if c = 34 then some ([], 1)
  else if c < 32 then none
  else if c ≠ 92 then (litF r).map fun x => (c :: x.1, x.2 + 1)
  else match r with
   | [] => none
   | e :: r2 =>
    if e = 34 ∨ e = 92 then (litF r2).map fun x => (e :: x.1, x.2 + 2)
    else if e = 110 then (litF r2).map fun x => (10 :: x.1, x.2 + 2)
    else if e = 120 then match r2 with
     | h :: l :: r3 => match hexN h, hexN l with
      | some a, some b => (litF r3).map fun x => (UInt8.ofNat (16 * a + b) :: x.1, x.2 + 4)
      | _, _ => none
     | _ => none
    else none
theorem litF_quote (r : List UInt8) : litF (34 :: r) = some ([], 1) := by rw [litF.eq_def]; rfl
theorem litF_low {c : UInt8} {r : List UInt8} (h1 : c ≠ 34) (h2 : c < 32) : litF (c :: r) = none := by
 rw [litF.eq_def]; simp only [if_neg h1, if_pos h2]
theorem litF_plain {c : UInt8} {r : List UInt8} (h1 : c ≠ 34) (h2 : ¬ c < 32) (h3 : c ≠ 92) : litF (c :: r) = (litF r).map fun x => (c :: x.1, x.2 + 1) := by
 rw [litF.eq_def]; simp only [if_neg h1, if_neg h2, if_pos h3]
theorem litF_esc (r : List UInt8) : litF (92 :: r) = match r with
   | [] => none
   | e :: r2 =>
    if e = 34 ∨ e = 92 then (litF r2).map fun x => (e :: x.1, x.2 + 2)
    else if e = 110 then (litF r2).map fun x => (10 :: x.1, x.2 + 2)
    else if e = 120 then match r2 with
     | h :: l :: r3 => match hexN h, hexN l with
      | some a, some b => (litF r3).map fun x => (UInt8.ofNat (16 * a + b) :: x.1, x.2 + 4)
      | _, _ => none
     | _ => none
    else none := by
 conv => lhs; rw [litF.eq_def]
 simp only [show ¬ ((92 : UInt8) = 34) from by decide, show ¬ ((92 : UInt8) < 32) from by decide, if_false, ne_eq, not_true_eq_false]
def litRet (r : Option (List UInt8 × Nat)) (at0 : Nat) : V := match r with
 | some (b, n) => .tup [strV b, intV (at0 + n), boolV true]
 | none => .tup [strV [], intV 0, boolV false]
def bytesRow (acc : List UInt8) : VObj := .row 1 (acc.map fun c => [byteV c])
def bufV : List UInt8 -> V
 | [] => .d .nils
 | c :: r => .ms 0 1 0 (r.length + 1) (r.length + 1)
def bufS : List UInt8 -> VS
 | [] => []
 | c :: r => [bytesRow (c :: r)]
theorem renO_bytes (π : Nat -> Nat) (acc : List UInt8) : renO π (bytesRow acc) = bytesRow acc := by
 simp only [bytesRow, renO]
 congr 1
 rw [List.map_map]
 exact List.map_congr_left fun c _ => rfl
theorem bd_bytes (k : Nat) (acc : List UInt8) : bdO k (bytesRow acc) = true := by
 simp only [bytesRow, bdO, List.all_map]
 exact List.all_eq_true.2 fun c _ => rfl
theorem grow_bytes (acc : List UInt8) (n : Nat) (hn : n = acc.length) (c : UInt8) : some (VObj.row 1 (((acc.map fun c => [byteV c]).drop 0).take n ++ [[byteV c]])) = some (renO (emb [1] 2) (bytesRow (acc ++ [c]))) := by
 rw [renO_bytes, bytesRow, List.map_append, List.drop_zero, List.take_of_length_le (by simp; omega)]
 rfl
def lfz : Nat -> Bool := fun t => Nat.beq t 40 || Nat.beq t 60 || Nat.beq t 66 || Nat.beq t 99
def litInv (s : List UInt8) (at0 : Nat) (x : Nat × List UInt8) : Prop :=
 x.1 <= s.length /\ at0 <= x.1 /\ x.2.length <= x.1 /\ litF (s.drop at0) = (litF (s.drop x.1)).map fun y => (x.2 ++ y.1, y.2 + (x.1 - at0))
theorem ex6_of {α : Type} {p q r t u : α -> Prop} (a : α) (h : p a) (h1 : q a) (h2 : r a) (h3 : t a) (h4 : u a) : ∃ a, p a /\ q a /\ r a /\ t a /\ u a := ⟨a, h, h1, h2, h3, h4⟩
theorem take_self {α : Type} (l : List α) (n : Nat) (h : n = l.length) : (l.drop 0).take n = l := by
 rw [List.drop_zero, List.take_of_length_le (by omega)]
theorem lit_end {v w : V} (h : v = w) : VUpd 0 (.ret v) [] fun r σ' => σ' = [] /\ r = .ret w := .now rfl ⟨rfl, by rw [h]⟩
theorem lit_end1 {v w : V} {o : VObj} (h : v = w) (hb : bd 0 v = true) : VUpd 0 (.ret v) [o] fun r σ' => σ' = [] /\ r = .ret w := .drop 0 rfl rfl hb (lit_end h)
theorem lit_endS {v w : V} (acc : List UInt8) (h : v = w) (hb : bd 0 v = true) : VUpd 0 (.ret v) (bufS acc) fun r σ' => σ' = [] /\ r = .ret w := by
 cases acc with
 | nil => exact lit_end h
 | cons a r => exact lit_end1 h hb
theorem lit_arr {s : List UInt8} {j : Nat} {a c : UInt8} {r : List UInt8} {tm : Tm} {σ' : VS} (h1 : vlook tm 1 = some (intV j)) (h7 : vlook tm 7 = some (.ms 1 1 0 (r.length + 1 + 1) (r.length + 1 + 1))) (h0 : vlook tm 0 = some (strV s))
  (hσ : σ' = [.gone, .row 1 ((((a :: r).map fun c => [byteV c]).drop 0).take (r.length + 1) ++ [[byteV c]])]) :
  Arr 0 [(1, intV j), (7, bufV (a :: r ++ [c])), (0, strV s)] (bufS (a :: r ++ [c])) [] .none tm σ' := by
 subst hσ
 refine .pick 0 [1] ⟨h1, ?_, h0, trivial⟩ rfl rfl rfl rfl rfl (by simp) ⟨grow_bytes (a :: r) (r.length + 1) rfl c, bd_bytes _ _, trivial⟩
 rw [h7]
 show _ = some (V.ms 1 1 0 ((r ++ [c]).length + 1) ((r ++ [c]).length + 1))
 simp
theorem lit_arr0 {s : List UInt8} {j : Nat} {c : UInt8} {tm : Tm} {σ' : VS} (h1 : vlook tm 1 = some (intV j)) (h7 : vlook tm 7 = some (.ms 0 1 0 1 1)) (h0 : vlook tm 0 = some (strV s))
  (hσ : σ' = [.row 1 [[byteV c]]]) : Arr 0 [(1, intV j), (7, bufV ([] ++ [c])), (0, strV s)] (bufS ([] ++ [c])) [] .none tm σ' := .same ⟨h1, h7, h0, trivial⟩ hσ
theorem lit_step {s : List UInt8} {at0 i k : Nat} {acc : List UInt8} {c : UInt8} (hk : 0 < k) (hik : i + k <= s.length) (hi0 : at0 + 1 <= i) (hal : acc.length <= i)
  (hp : litF (s.drop (at0 + 1)) = (litF (s.drop i)).map fun y => (acc ++ y.1, y.2 + (i - (at0 + 1)))) (hl : litF (s.drop i) = (litF (s.drop (i + k))).map fun x => (c :: x.1, x.2 + k)) :
  litInv s (at0 + 1) (i + k, acc ++ [c]) /\ s.length - (i + k) < s.length - i := by
 refine ⟨⟨hik, by show at0 + 1 <= i + k; omega, by show (acc ++ [c]).length <= i + k; simp; omega, ?_⟩, by omega⟩
 show litF (s.drop (at0 + 1)) = (litF (s.drop (i + k))).map fun y => ((acc ++ [c]) ++ y.1, y.2 + (i + k - (at0 + 1)))
 rw [hp, hl, Option.map_map]
 congr 1
 funext y
 simp only [Function.comp, List.append_assoc, List.cons_append, List.nil_append]
 rw [show y.2 + k + (i - (at0 + 1)) = y.2 + (i + k - (at0 + 1)) from by omega]
theorem lit_fit {i n : Nat} {r : List UInt8} {a : UInt8} (h : (a :: r).length <= i) (h' : i < 4294967296) (hn : n = 1) : (r.length + 1 + n) * 1 <= limit /\ r.length + 1 + n <= limit := by
 simp only [List.length_cons] at h
 unfold limit
 omega
theorem lit_full (n : Nat) : Nat.ble (n + 1) n = false := by rw [ble_dec]; exact decide_eq_false (by omega)
theorem pre1 {l : List UInt8} {x : UInt8} (h : hasPre l [x] = true) : ∃ r, l = x :: r := by
 rw [hasPre, List.isPrefixOf_iff_prefix] at h
 obtain ⟨t, e⟩ := h
 exact ⟨t, e.symm⟩
theorem pre1_not {l r : List UInt8} {x e : UInt8} (h : hasPre l [x] = false) (hl : l = e :: r) : e ≠ x := by
 rintro rfl
 subst hl
 simp [hasPre] at h
theorem drop_next {s r : List UInt8} {j : Nat} {x : UInt8} (h : s.drop j = x :: r) : s.drop (j + 1) = r /\ j < s.length := by
 constructor
 ·rw [<- List.drop_drop, h]; rfl
 ·rcases Nat.lt_or_ge j s.length with h1 | h1
  ·exact h1
  ·rw [List.drop_of_length_le h1] at h; cases h
theorem hexN_lt {c : UInt8} {a : Nat} (h : hexN c = some a) : a < 16 := by
 unfold hexN at h
 split at h
 ·rename_i hd; have := digit_lt hd; cases h; omega
 ·split at h
  ·rename_i hd
   rw [Bool.and_eq_true, decide_eq_true_eq, decide_eq_true_eq] at hd
   cases h; omega
  ·cases h
set_option maxRecDepth 10000 in
theorem hex_byte0 : ∀ a b : Fin 16, IntKind.u8.wrap ((BitVec.ofInt IntKind.u8.bits (IntKind.u8.wrap (Int.ofNat a.1 * 2 ^ (min 4 IntKind.u8.bits))) ||| BitVec.ofInt IntKind.u8.bits (Int.ofNat b.1)).toNat) = Int.ofNat (UInt8.ofNat (16 * a.1 + b.1)).toNat := by decide
theorem hex_byte {a b : Nat} (ha : a < 16) (hb : b < 16) : IntKind.u8.wrap ((BitVec.ofInt IntKind.u8.bits (IntKind.u8.wrap (Int.ofNat a * 2 ^ (min 4 IntKind.u8.bits))) ||| BitVec.ofInt IntKind.u8.bits (Int.ofNat b)).toNat) = Int.ofNat (UInt8.ofNat (16 * a + b)).toNat := hex_byte0 ⟨a, ha⟩ ⟨b, hb⟩
theorem lit_none {s : List UInt8} {at0 i : Nat} {acc : List UInt8} (hp : litF (s.drop (at0 + 1)) = (litF (s.drop i)).map fun y => (acc ++ y.1, y.2 + (i - (at0 + 1)))) (h : litF (s.drop i) = none) : V.tup [strV [], intV 0, boolV false] = litRet (litF (s.drop (at0 + 1))) (at0 + 1) := by
 rw [hp, h]; rfl
set_option maxHeartbeats 4000000 in
theorem literal_spec (s : List UInt8) (at0 : Nat) (h0 : at0 < s.length) (hs : s.length < 4294967296) {σ : VS} {K : VCR -> VS -> Prop} (hk : K (.ret (litRet (litF (s.drop (at0 + 1))) (at0 + 1))) σ) :
  VCall C intr0 F.lexer_literal [strV s, intV at0] σ K := by
 refine VCall.pure (v := litRet (litF (s.drop (at0 + 1))) (at0 + 1)) ?_ rfl ?_ hk
 ·refine VCall.b1 lfz (fun _ => rfl) ?_
  refine VCode.less (tm0 := [(1, intV (at0 + 1)), (7, bufV []), (0, strV s)]) ⟨int_eq (wrap_succ (by omega)), rfl, rfl, trivial⟩ ?_
  refine VCode.iter (fun x : Nat × List UInt8 => [(1, intV x.1), (7, bufV x.2), (0, strV s)]) (fun x => bufS x.2) (fun x => s.length - x.1) (litInv s (at0 + 1)) ?_ (at0 + 1, []) ⟨by omega, Nat.le_refl _, by simp, by simp⟩
  rintro ⟨i, acc⟩ ⟨hi, hi0, hal, hp⟩
  have hi : i <= s.length := hi
  have hi0 : at0 + 1 <= i := hi0
  have hal : acc.length <= i := hal
  have hp : litF (s.drop (at0 + 1)) = (litF (s.drop i)).map fun y => (acc ++ y.1, y.2 + (i - (at0 + 1))) := hp
  refine vci (fun h => ?_) (fun h => ?_)
  ·have h' : i < s.length := dlt h
   have hgi : s[i]? = some s[i] := List.getElem?_eq_getElem h'
   have hd : s.drop i = s[i] :: s.drop (i + 1) := List.drop_eq_getElem_cons h'
   refine vnf rfl (exf s[i] (by rw [nth_eq]; exact hgi) ?_)
   refine vci (fun h2 => ?_) (fun h2 => ?_)
   ·
    have e2 : s[i] = 34 := UInt8.toNat_inj.1 (deq (b := 34) h2)
    have hl : litF (s.drop i) = some ([], 1) := by rw [hd, e2]; exact litF_quote _
    have hres : V.tup [strV acc, V.d (.int .i64 (IntKind.i64.wrap (Int.ofNat i + 1))), boolV true] = litRet (litF (s.drop (at0 + 1))) (at0 + 1) := by
     rw [hp, hl, wrap_succ (by omega)]
     simp only [Option.map_some, litRet, List.append_nil, intV]
     rw [show at0 + 1 + (1 + (i - (at0 + 1))) = i + 1 from by omega]
    cases acc with
    | nil => exact lit_end hres
    | cons a r =>
     refine ex6_of (a :: r) rfl rfl (take_self _ _ (by simp)) (by simp) ?_
     exact lit_end1 hres rfl
   ·have e2 : s[i] ≠ 34 := fun e => dneq (b := 34) h2 (by rw [e]; rfl)
    refine vci (fun h3 => ?_) (fun h3 => ?_)
    ·have e3 : s[i] < 32 := UInt8.lt_iff_toNat_lt.2 (dlt (b := 32) h3)
     have hl : litF (s.drop i) = none := by rw [hd]; exact litF_low e2 e3
     exact lit_endS acc (lit_none hp hl) rfl
    ·have e3 : ¬ s[i] < 32 := fun e => Nat.not_lt_of_le (dnlt (b := 32) h3) (UInt8.lt_iff_toNat_lt.1 e)
     refine vci (fun h4 => ?_) (fun h4 => ?_)
     ·
      have e4 : s[i] ≠ 92 := fun e => by rw [e] at h4; cases h4
      have hl : litF (s.drop i) = (litF (s.drop (i + 1))).map fun x => (s[i] :: x.1, x.2 + 1) := by rw [hd]; exact litF_plain e2 e3 e4
      obtain ⟨g1, g2⟩ := lit_step (k := 1) (by omega) (by omega) hi0 hal hp hl
      intro b
      cases acc with
      | nil =>
       refine vni rfl (vni ⟨Nat.le_of_ble_eq_true rfl, Nat.le_of_ble_eq_true rfl⟩ ?_)
       exact ⟨(i + 1, [] ++ [s[i]]), g1, g2, lit_arr0 (int_eq (wrap_succ (by omega))) rfl rfl rfl, rfl, rfl⟩
      | cons a r =>
       refine vni rfl (vni ⟨rfl, rfl, by simp, Nat.le_refl _, lit_fit hal (by omega) rfl⟩ ?_)
       refine vcn rfl (vcn (lit_full (r.length + 1)) ?_)
       exact ⟨(i + 1, (a :: r) ++ [s[i]]), g1, g2, lit_arr (int_eq (wrap_succ (by omega))) rfl rfl rfl, rfl, rfl⟩
     ·
      have e4 : s[i] = 92 := UInt8.toNat_inj.1 (deq (b := 92) (by simpa using h4))
      have hw : IntKind.i64.wrap (Int.ofNat i + 1) = Int.ofNat (i + 1) := wrap_succ (by omega)
      have hmin : min (IntKind.i64.wrap (Int.ofNat i + 1)) (Int.ofNat s.length) = Int.ofNat (i + 1) := by rw [hw]; simp only [Int.ofNat_eq_natCast]; omega
      refine vnf hmin (vni ⟨by omega, Nat.le_refl _⟩ ?_)
      rw [List.take_length]
      refine hasPrefix_spec (s.drop (i + 1)) [34] ?_
      refine vci (fun h5 => ?_) (fun h5 => ?_)
      ·obtain ⟨r2, hr2⟩ := pre1 h5
       obtain ⟨hr3, hlt⟩ := drop_next hr2
       have hl : litF (s.drop i) = (litF (s.drop (i + 2))).map fun x => (34 :: x.1, x.2 + 2) := by
        rw [hd, e4, hr2, litF_esc, hr3]
        rfl
       repeat refine vcp h5 ?_
       refine vnf (m := 0) rfl (exf 34 (by rw [hr2]; rfl) ?_)
       obtain ⟨g1, g2⟩ := lit_step (k := 2) (by omega) (by omega) hi0 hal hp hl
       intro b
       cases acc with
       | nil =>
        refine vni rfl (vni ⟨Nat.le_of_ble_eq_true rfl, Nat.le_of_ble_eq_true rfl⟩ ?_)
        exact ⟨(i + 2, [] ++ [34]), g1, g2, lit_arr0 (int_eq (by show IntKind.i64.wrap (IntKind.i64.wrap (Int.ofNat i + 1) + 1) = _; rw [hw]; exact wrap_succ (by omega))) rfl rfl rfl, rfl, rfl⟩
       | cons a r =>
        refine vni rfl (vni ⟨rfl, rfl, by simp, Nat.le_refl _, lit_fit hal (by omega) rfl⟩ ?_)
        refine vcn rfl (vcn (lit_full (r.length + 1)) ?_)
        exact ⟨(i + 2, (a :: r) ++ [34]), g1, g2, lit_arr (int_eq (by show IntKind.i64.wrap (IntKind.i64.wrap (Int.ofNat i + 1) + 1) = _; rw [hw]; exact wrap_succ (by omega))) rfl rfl rfl, rfl, rfl⟩
      ·repeat refine vcn h5 ?_
       refine hasPrefix_spec (s.drop (i + 1)) [92] ?_
       repeat refine vcn h5 ?_
       refine vci (fun h6 => ?_) (fun h6 => ?_)
       ·obtain ⟨r2, hr2⟩ := pre1 h6
        obtain ⟨hr3, hlt⟩ := drop_next hr2
        have hl : litF (s.drop i) = (litF (s.drop (i + 2))).map fun x => (92 :: x.1, x.2 + 2) := by
         rw [hd, e4, hr2, litF_esc, hr3]
         rfl
        refine vnf (m := 0) rfl (exf 92 (by rw [hr2]; rfl) ?_)
        obtain ⟨g1, g2⟩ := lit_step (k := 2) (by omega) (by omega) hi0 hal hp hl
        intro b
        cases acc with
        | nil =>
         refine vni rfl (vni ⟨Nat.le_of_ble_eq_true rfl, Nat.le_of_ble_eq_true rfl⟩ ?_)
         exact ⟨(i + 2, [] ++ [92]), g1, g2, lit_arr0 (int_eq (by show IntKind.i64.wrap (IntKind.i64.wrap (Int.ofNat i + 1) + 1) = _; rw [hw]; exact wrap_succ (by omega))) rfl rfl rfl, rfl, rfl⟩
        | cons a r =>
         refine vni rfl (vni ⟨rfl, rfl, by simp, Nat.le_refl _, lit_fit hal (by omega) rfl⟩ ?_)
         refine vcn rfl (vcn (lit_full (r.length + 1)) ?_)
         exact ⟨(i + 2, (a :: r) ++ [92]), g1, g2, lit_arr (int_eq (by show IntKind.i64.wrap (IntKind.i64.wrap (Int.ofNat i + 1) + 1) = _; rw [hw]; exact wrap_succ (by omega))) rfl rfl rfl, rfl, rfl⟩
       ·refine hasPrefix_spec (s.drop (i + 1)) [110] ?_
        refine vci (fun h7 => ?_) (fun h7 => ?_)
        ·obtain ⟨r2, hr2⟩ := pre1 h7
         obtain ⟨hr3, hlt⟩ := drop_next hr2
         have hl : litF (s.drop i) = (litF (s.drop (i + 2))).map fun x => (10 :: x.1, x.2 + 2) := by
          rw [hd, e4, hr2, litF_esc, hr3]
          rfl
         obtain ⟨g1, g2⟩ := lit_step (k := 2) (by omega) (by omega) hi0 hal hp hl
         intro b
         cases acc with
         | nil =>
          refine vni rfl (vni ⟨Nat.le_of_ble_eq_true rfl, Nat.le_of_ble_eq_true rfl⟩ ?_)
          exact ⟨(i + 2, [] ++ [10]), g1, g2, lit_arr0 (int_eq (by show IntKind.i64.wrap (IntKind.i64.wrap (Int.ofNat i + 1) + 1) = _; rw [hw]; exact wrap_succ (by omega))) rfl rfl rfl, rfl, rfl⟩
         | cons a r =>
          refine vni rfl (vni ⟨rfl, rfl, by simp, Nat.le_refl _, lit_fit hal (by omega) rfl⟩ ?_)
          refine vcn rfl (vcn (lit_full (r.length + 1)) ?_)
          exact ⟨(i + 2, (a :: r) ++ [10]), g1, g2, lit_arr (int_eq (by show IntKind.i64.wrap (IntKind.i64.wrap (Int.ofNat i + 1) + 1) = _; rw [hw]; exact wrap_succ (by omega))) rfl rfl rfl, rfl, rfl⟩
        ·refine hasPrefix_spec (s.drop (i + 1)) [120] ?_
         refine vci (fun h8 => ?_) (fun h8 => ?_)
         ·obtain ⟨r2, hr2⟩ := pre1 h8
          obtain ⟨hr3, hlt⟩ := drop_next hr2
          repeat refine vcp h8 ?_
          refine vci (fun h9 => ?_) (fun h9 => ?_)
          ·have hlen : 2 < (s.drop (i + 1)).length := dlt (a := 2) h9
           rw [List.length_drop] at hlen
           have q1 : s.drop (i + 2) = s[i + 2] :: s.drop (i + 3) := List.drop_eq_getElem_cons (by omega)
           have q2 : s.drop (i + 3) = s[i + 3] :: s.drop (i + 4) := List.drop_eq_getElem_cons (by omega)
           have hl0 : litF (s.drop i) = match hexN s[i + 2], hexN s[i + 3] with
             | some a, some b => (litF (s.drop (i + 4))).map fun x => (UInt8.ofNat (16 * a + b) :: x.1, x.2 + 4)
             | _, _ => none := by
            rw [hd, e4, hr2, litF_esc, <- hr3, q1, q2]
            rfl
           refine vnf (m := 1) rfl (exf s[i + 2] (by rw [hr2, <- hr3, q1]; rfl) ?_)
           refine hex_spec s[i + 2] ?_
           cases hh : hexN s[i + 2] with
           | none =>
            rw [show hexRet s[i + 2] = V.tup [.d (.int .u8 0), boolV false] from by simp only [hexRet, hh]]
            refine vnf (m := 2) rfl (exf s[i + 3] (by rw [hr2, <- hr3, q1, q2]; rfl) ?_)
            refine hex_spec s[i + 3] ?_
            have hl : litF (s.drop i) = none := by rw [hl0, hh]
            cases hh2 : hexN s[i + 3] with
            | none =>
             rw [show hexRet s[i + 3] = V.tup [.d (.int .u8 0), boolV false] from by simp only [hexRet, hh2]]
             exact lit_endS acc (lit_none hp hl) rfl
            | some b =>
             rw [show hexRet s[i + 3] = V.tup [.d (.int .u8 (Int.ofNat b)), boolV true] from by simp only [hexRet, hh2]]
             exact lit_endS acc (lit_none hp hl) rfl
           | some x =>
            rw [show hexRet s[i + 2] = V.tup [.d (.int .u8 (Int.ofNat x)), boolV true] from by simp only [hexRet, hh]]
            refine vnf (m := 2) rfl (exf s[i + 3] (by rw [hr2, <- hr3, q1, q2]; rfl) ?_)
            refine hex_spec s[i + 3] ?_
            cases hh2 : hexN s[i + 3] with
            | none =>
             have hl : litF (s.drop i) = none := by rw [hl0, hh, hh2]
             rw [show hexRet s[i + 3] = V.tup [.d (.int .u8 0), boolV false] from by simp only [hexRet, hh2]]
             exact lit_endS acc (lit_none hp hl) rfl
            | some y =>
             have hl : litF (s.drop i) = (litF (s.drop (i + 4))).map fun z => (UInt8.ofNat (16 * x + y) :: z.1, z.2 + 4) := by rw [hl0, hh, hh2]
             have hxy := hex_byte (hexN_lt hh) (hexN_lt hh2)
             rw [show hexRet s[i + 3] = V.tup [.d (.int .u8 (Int.ofNat y)), boolV true] from by simp only [hexRet, hh2]]
             refine vnf (m := 4) rfl ?_
             obtain ⟨g1, g2⟩ := lit_step (k := 4) (by omega) (by omega) hi0 hal hp hl
             intro b
             cases acc with
             | nil =>
              refine vni rfl (vni ⟨Nat.le_of_ble_eq_true rfl, Nat.le_of_ble_eq_true rfl⟩ ?_)
              exact ⟨(i + 4, [] ++ [UInt8.ofNat (16 * x + y)]), g1, g2, lit_arr0 (int_eq (by show IntKind.i64.wrap (IntKind.i64.wrap (IntKind.i64.wrap (Int.ofNat i + 1) + 2) + 1) = _; rw [hw, show IntKind.i64.wrap (Int.ofNat (i + 1) + 2) = Int.ofNat (i + 3) from wrap_add (b := 2) (by omega)]; exact wrap_succ (by omega))) rfl rfl (congrArg (fun z => [VObj.row 1 [[V.d (.int .u8 z)]]]) hxy), rfl, rfl⟩
             | cons a r =>
              refine vni rfl (vni ⟨rfl, rfl, by simp, Nat.le_refl _, lit_fit hal (by omega) rfl⟩ ?_)
              refine vcn rfl (vcn (lit_full (r.length + 1)) ?_)
              exact ⟨(i + 4, (a :: r) ++ [UInt8.ofNat (16 * x + y)]), g1, g2, lit_arr (int_eq (by show IntKind.i64.wrap (IntKind.i64.wrap (IntKind.i64.wrap (Int.ofNat i + 1) + 2) + 1) = _; rw [hw, show IntKind.i64.wrap (Int.ofNat (i + 1) + 2) = Int.ofNat (i + 3) from wrap_add (b := 2) (by omega)]; exact wrap_succ (by omega))) rfl rfl (congrArg (fun z => [VObj.gone, VObj.row 1 ((((a :: r).map fun c => [byteV c]).drop 0).take (r.length + 1) ++ [[V.d (.int .u8 z)]])]) hxy), rfl, rfl⟩
          ·have hlen : (s.drop (i + 1)).length <= 2 := dnlt (a := 2) h9
           have hl : litF (s.drop i) = none := by
            rw [hr2] at hlen
            rw [hd, e4, hr2, litF_esc]
            match r2, hlen with
            | [], _ => rfl
            | [_], _ => rfl
            | _ :: _ :: _, h => simp at h
           exact lit_endS acc (lit_none hp hl) rfl
         ·repeat refine vcn h8 ?_
          have hl : litF (s.drop i) = none := by
           rw [hd, e4, litF_esc]
           cases hq : s.drop (i + 1) with
           | nil => rfl
           | cons e r2 =>
            have n5 := pre1_not h5 hq
            have n6 := pre1_not h6 hq
            have n7 := pre1_not h7 hq
            have n8 := pre1_not h8 hq
            simp only [n5, n6, n7, n8, or_self, if_false]
          exact lit_endS acc (lit_none hp hl) rfl
  ·have h' : s.length <= i := dnlt h
   have hl : litF (s.drop i) = none := by rw [List.drop_of_length_le h']; rfl
   exact lit_endS acc (lit_none hp hl) rfl
 ·cases litF (s.drop (at0 + 1)) with
  | none => rfl
  | some x => rfl
end Go.Proofs.YthfehkcfhiilfaaGreatDoor
