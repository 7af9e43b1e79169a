/-
  Functions of the program, lifted to plain data.
-/
import Derived.Test.YtcgkkhgapeiabaaProg
import Derived.Tactics
import Derived.Tactics2
import Derived.Recover
import Derived.WalkKit
import Derived.StillTactics
import Derived.Laws.Pointers
import Derived.Laws.Externs
import Derived.RegionTactic
import Derived.LoopTactic
import Derived.Lib.Builder
import Derived.Test.YtcgkkhgapeiabaaP3
set_option linter.unusedVariables false
set_option linter.unusedSimpArgs false
set_option maxRecDepth 100000
namespace Go.AM
open Go.Proofs
abbrev F_gosem_cut_init : FuncId := 2
abbrev F_semigrouplaw04_ExprValidates : FuncId := 3
abbrev F_semigrouplaw04_ExprFormats : FuncId := 4
abbrev F_semigrouplaw04_ExprRoundTrips : FuncId := 5
abbrev F_semigrouplaw04_ExprCompares : FuncId := 6
abbrev F_semigrouplaw04_ExprMeasures : FuncId := 7
abbrev F_semigrouplaw04_ExprNormalizes : FuncId := 8
abbrev F_semigrouplaw04_ExprIgnores : FuncId := 9
abbrev F_semigrouplaw04_ExprSettles : FuncId := 10
abbrev F_expr_Validate : FuncId := 11
abbrev F_semigroupref04_Validate : FuncId := 12
abbrev F_semigrouplaw04_awake : FuncId := 13
abbrev F_expr_Format : FuncId := 14
abbrev F_semigroupref04_Valid : FuncId := 15
abbrev F_semigroupref04_Format : FuncId := 16
abbrev F_expr_Parse : FuncId := 17
abbrev F_semigrouplaw04_same : FuncId := 18
abbrev F_expr_Compare : FuncId := 19
abbrev F_semigroupref04_Compare : FuncId := 20
abbrev F_expr_Size : FuncId := 21
abbrev F_expr_Depth : FuncId := 22
abbrev F_expr_StarHeight : FuncId := 23
abbrev F_expr_StarFree : FuncId := 24
abbrev F_expr_Nullable : FuncId := 25
abbrev F_semigroupref04_Size : FuncId := 26
abbrev F_semigroupref04_Depth : FuncId := 27
abbrev F_semigroupref04_StarHeight : FuncId := 28
abbrev F_semigroupref04_Uses : FuncId := 29
abbrev F_semigroupref04_Nullable : FuncId := 30
abbrev F_expr_Normal : FuncId := 31
abbrev F_semigroupref04_Normal : FuncId := 32
abbrev F_semigrouplaw04_little : FuncId := 33
abbrev F_expr_withinLimits : FuncId := 34
abbrev F_expr_wellFormed : FuncId := 35
abbrev F_semigroupref01_MayLetters : FuncId := 36
abbrev F_semigroupref04_Within : FuncId := 37
abbrev F_semigroupref04_shaped : FuncId := 38
abbrev F_expr_valid : FuncId := 39
abbrev F_expr_write : FuncId := 40
abbrev F_strings_Builder_String : FuncId := 41
abbrev F_semigroupref04_part : FuncId := 42
abbrev F_expr_parseText : FuncId := 43
abbrev F_cmp_Compare_int_ : FuncId := 44
abbrev F_slices_CompareFunc___api_Expr___api_Expr_api_Expr_api_Expr_ : FuncId := 45
abbrev F_semigroupref04_sign : FuncId := 46
abbrev F_expr_size : FuncId := 47
abbrev F_expr_depth : FuncId := 48
abbrev F_expr_starHeight : FuncId := 49
abbrev F_expr_HasUnit : FuncId := 50
abbrev F_semigroupref04_measure : FuncId := 51
abbrev F_expr_Simplify : FuncId := 52
abbrev F_semigroupref04_Universal : FuncId := 53
abbrev F_semigroupref04_flat : FuncId := 54
abbrev F_semigroupref04_insert : FuncId := 55
abbrev F_expr_fits : FuncId := 56
abbrev F_strings_Builder_WriteByte : FuncId := 57
abbrev F_expr_writeKids : FuncId := 58
abbrev F_semigroupref04_level : FuncId := 59
abbrev F_expr_parseText_1 : FuncId := 60
abbrev F_expr_parser_union : FuncId := 61
abbrev F_expr_parser_peek : FuncId := 62
abbrev F_expr_parser_fail : FuncId := 63
abbrev F_cmp_isNaN_int_ : FuncId := 64
abbrev F_slices_ContainsFunc___api_Expr_api_Expr_ : FuncId := 65
abbrev F_expr_Join : FuncId := 66
abbrev F_strings_Builder_copyCheck : FuncId := 67
abbrev F_strings_Builder_WriteString : FuncId := 68
abbrev F_expr_level : FuncId := 69
abbrev F_expr_parser_list : FuncId := 70
abbrev F_expr_parser_and : FuncId := 71
abbrev F_slices_IndexFunc___api_Expr_api_Expr_ : FuncId := 72
abbrev F_expr_joinUnion : FuncId := 73
abbrev F_expr_joinConcat : FuncId := 74
abbrev F_expr_joinAnd : FuncId := 75
abbrev F_expr_unit : FuncId := 76
abbrev F_expr_isUniversal : FuncId := 77
abbrev F_expr_node : FuncId := 79
abbrev F_expr_parser_cat : FuncId := 80
abbrev F_expr_universal : FuncId := 81
abbrev F_slices_DeleteFunc___api_Expr_api_Expr_ : FuncId := 82
abbrev F_expr_flatten : FuncId := 83
abbrev F_expr_isEmpty : FuncId := 84
abbrev F_expr_collect : FuncId := 85
abbrev F_expr_ordered : FuncId := 86
abbrev F_expr_empty : FuncId := 87
abbrev F_expr_isUnit : FuncId := 88
abbrev F_expr_parser_unary : FuncId := 89
abbrev F_expr_parser_begins : FuncId := 90
abbrev F_slices_SortFunc___api_Expr_api_Expr_ : FuncId := 91
abbrev F_slices_CompactFunc___api_Expr_api_Expr_ : FuncId := 92
abbrev F_expr_ordered_1 : FuncId := 93
abbrev F_expr_parser_postfix : FuncId := 94
abbrev F_expr_parser_isLetter : FuncId := 95
abbrev F_slices_pdqsortCmpFunc_api_Expr_ : FuncId := 96
abbrev F_bits_Len : FuncId := 97
abbrev F_expr_parser_atom : FuncId := 98
abbrev F_slices_insertionSortCmpFunc_api_Expr_ : FuncId := 99
abbrev F_slices_heapSortCmpFunc_api_Expr_ : FuncId := 100
abbrev F_slices_breakPatternsCmpFunc_api_Expr_ : FuncId := 101
abbrev F_slices_choosePivotCmpFunc_api_Expr_ : FuncId := 102
abbrev F_slices_reverseRangeCmpFunc_api_Expr_ : FuncId := 103
abbrev F_slices_partialInsertionSortCmpFunc_api_Expr_ : FuncId := 104
abbrev F_slices_partitionEqualCmpFunc_api_Expr_ : FuncId := 105
abbrev F_slices_partitionCmpFunc_api_Expr_ : FuncId := 106
abbrev F_bits_Len32 : FuncId := 107
abbrev F_bits_Len64 : FuncId := 108
abbrev F_slices_siftDownCmpFunc_api_Expr_ : FuncId := 109
abbrev F_slices_nextPowerOfTwo : FuncId := 110
abbrev F_slices_xorshift_Next : FuncId := 111
abbrev F_slices_medianAdjacentCmpFunc_api_Expr_ : FuncId := 112
abbrev F_slices_medianCmpFunc_api_Expr_ : FuncId := 113
abbrev F_slices_order2CmpFunc_api_Expr_ : FuncId := 114
abbrev T_int64 : TypeId := 2
abbrev T_int : TypeId := 3
abbrev T_bool : TypeId := 4
abbrev T_uint8 : TypeId := 5
abbrev T_abi_BoundsErrorCode : TypeId := 6
abbrev T_runtime_boundsError : TypeId := 8
abbrev T_string : TypeId := 9
abbrev T_runtime_errorString : TypeId := 10
abbrev T_runtime_plainError : TypeId := 11
abbrev T_uintptr : TypeId := 12
abbrev T_runtime_errorAddressString : TypeId := 14
abbrev T_maps_unhashableTypeError : TypeId := 19
abbrev T_int32 : TypeId := 21
abbrev T_l_api_Expr : TypeId := 22
abbrev T_api_Expr : TypeId := 24
abbrev T_api_Errno : TypeId := 25
abbrev T_l_int : TypeId := 38
abbrev T_l_uint8 : TypeId := 41
abbrev T_strings_Builder : TypeId := 43
abbrev T_error : TypeId := 59
abbrev T_expr_mismatch : TypeId := 65
abbrev T_expr_parser : TypeId := 68
abbrev T_uint : TypeId := 90
abbrev T_slices_sortedHint : TypeId := 92
abbrev T_uint32 : TypeId := 100
abbrev T_uint64 : TypeId := 102
abbrev T_slices_xorshift : TypeId := 103
abbrev T_runtime_TypeAssertionError : TypeId := 111
abbrev T__0_p_runtime_PanicNilError : TypeId := 112
abbrev T_runtime_PanicNilError : TypeId := 114
abbrev T_abi_TFlag : TypeId := 116
abbrev T_abi_Kind : TypeId := 117
abbrev T_abi_NameOff : TypeId := 119
abbrev T_abi_TypeOff : TypeId := 120
abbrev T_abi_Type : TypeId := 122
abbrev K_expr_parser_list_k132 : Nat := 132
def annFid : List (Nat × FuncId) := [(3, F_semigrouplaw04_ExprValidates), (4, F_semigrouplaw04_ExprFormats), (5, F_semigrouplaw04_ExprRoundTrips), (6, F_semigrouplaw04_ExprCompares), (7, F_semigrouplaw04_ExprMeasures), (11, F_expr_Validate), (12, F_semigroupref04_Validate), (13, F_semigrouplaw04_awake), (14, F_expr_Format), (15, F_semigroupref04_Valid), (16, F_semigroupref04_Format), (17, F_expr_Parse), (18, F_semigrouplaw04_same), (19, F_expr_Compare), (20, F_semigroupref04_Compare), (21, F_expr_Size), (22, F_expr_Depth), (23, F_expr_StarHeight), (24, F_expr_StarFree), (25, F_expr_Nullable), (26, F_semigroupref04_Size), (27, F_semigroupref04_Depth), (28, F_semigroupref04_StarHeight), (29, F_semigroupref04_Uses), (30, F_semigroupref04_Nullable), (34, F_expr_withinLimits), (35, F_expr_wellFormed), (36, F_semigroupref01_MayLetters), (37, F_semigroupref04_Within), (38, F_semigroupref04_shaped), (39, F_expr_valid), (40, F_expr_write), (41, F_strings_Builder_String), (42, F_semigroupref04_part), (43, F_expr_parseText), (44, F_cmp_Compare_int_), (45, F_slices_CompareFunc___api_Expr___api_Expr_api_Expr_api_Expr_), (46, F_semigroupref04_sign), (47, F_expr_size), (48, F_expr_depth), (49, F_expr_starHeight), (50, F_expr_HasUnit), (51, F_semigroupref04_measure), (56, F_expr_fits), (57, F_strings_Builder_WriteByte), (58, F_expr_writeKids), (59, F_semigroupref04_level), (61, F_expr_parser_union), (62, F_expr_parser_peek), (64, F_cmp_isNaN_int_), (65, F_slices_ContainsFunc___api_Expr_api_Expr_), (68, F_strings_Builder_WriteString), (69, F_expr_level), (70, F_expr_parser_list), (71, F_expr_parser_and), (72, F_slices_IndexFunc___api_Expr_api_Expr_), (79, F_expr_node), (80, F_expr_parser_cat), (89, F_expr_parser_unary), (90, F_expr_parser_begins), (94, F_expr_parser_postfix), (95, F_expr_parser_isLetter), (98, F_expr_parser_atom), (132, F_expr_parser_list)]
def annSin : List (Nat × Shape) := [(3, ⟨[(0, .agg [.int .i64, .int .i64, .list T_api_Expr]), (1, .one (.int .i64))], []⟩),
 (4, ⟨[(0, .agg [.int .i64, .int .i64, .list T_api_Expr])], []⟩),
 (5, ⟨[(0, .agg [.int .i64, .int .i64, .list T_api_Expr])], []⟩),
 (6, ⟨[(0, .agg [.int .i64, .int .i64, .list T_api_Expr]), (1, .agg [.int .i64, .int .i64, .list T_api_Expr]), (2, .agg [.int .i64, .int .i64, .list T_api_Expr])], []⟩),
 (7, ⟨[(0, .agg [.int .i64, .int .i64, .list T_api_Expr])], []⟩),
 (11, ⟨[(0, .agg [.int .i64, .int .i64, .list T_api_Expr]), (1, .one (.int .i64))], []⟩),
 (12, ⟨[(0, .agg [.int .i64, .int .i64, .list T_api_Expr]), (1, .one (.int .i64))], []⟩),
 (13, ⟨[], []⟩),
 (14, ⟨[(0, .agg [.int .i64, .int .i64, .list T_api_Expr])], []⟩),
 (15, ⟨[(0, .agg [.int .i64, .int .i64, .list T_api_Expr])], []⟩),
 (16, ⟨[(0, .agg [.int .i64, .int .i64, .list T_api_Expr])], []⟩),
 (17, ⟨[(0, .one (.str)), (1, .one (.int .i64))], []⟩),
 (18, ⟨[(0, .agg [.int .i64, .int .i64, .list T_api_Expr]), (1, .agg [.int .i64, .int .i64, .list T_api_Expr])], []⟩),
 (19, ⟨[(0, .agg [.int .i64, .int .i64, .list T_api_Expr]), (1, .agg [.int .i64, .int .i64, .list T_api_Expr])], []⟩),
 (20, ⟨[(0, .agg [.int .i64, .int .i64, .list T_api_Expr]), (1, .agg [.int .i64, .int .i64, .list T_api_Expr])], []⟩),
 (21, ⟨[(0, .agg [.int .i64, .int .i64, .list T_api_Expr])], []⟩),
 (22, ⟨[(0, .agg [.int .i64, .int .i64, .list T_api_Expr])], []⟩),
 (23, ⟨[(0, .agg [.int .i64, .int .i64, .list T_api_Expr])], []⟩),
 (24, ⟨[(0, .agg [.int .i64, .int .i64, .list T_api_Expr])], []⟩),
 (25, ⟨[(0, .agg [.int .i64, .int .i64, .list T_api_Expr])], []⟩),
 (26, ⟨[(0, .agg [.int .i64, .int .i64, .list T_api_Expr])], []⟩),
 (27, ⟨[(0, .agg [.int .i64, .int .i64, .list T_api_Expr])], []⟩),
 (28, ⟨[(0, .agg [.int .i64, .int .i64, .list T_api_Expr])], []⟩),
 (29, ⟨[(0, .agg [.int .i64, .int .i64, .list T_api_Expr]), (1, .one (.int .i64))], []⟩),
 (30, ⟨[(0, .agg [.int .i64, .int .i64, .list T_api_Expr])], []⟩),
 (34, ⟨[(0, .agg [.int .i64, .int .i64, .list T_api_Expr])], []⟩),
 (35, ⟨[(0, .agg [.int .i64, .int .i64, .list T_api_Expr]), (1, .one (.int .i64))], []⟩),
 (36, ⟨[(0, .one (.int .i64))], []⟩),
 (37, ⟨[(0, .agg [.int .i64, .int .i64, .list T_api_Expr])], []⟩),
 (38, ⟨[(0, .agg [.int .i64, .int .i64, .list T_api_Expr]), (1, .one (.int .i64))], []⟩),
 (39, ⟨[(0, .agg [.int .i64, .int .i64, .list T_api_Expr])], []⟩),
 (40, ⟨[(0, .one (.ptrC 0 0 0)), (1, .agg [.int .i64, .int .i64, .list T_api_Expr])], [.var 43 [.one (.und), .one (.whole T_uint8 1)], .arr T_uint8 false]⟩),
 (41, ⟨[(0, .one (.ptrC 0 0 0))], [.var 43 [.one (.und), .one (.whole T_uint8 1)], .arr T_uint8 false]⟩),
 (42, ⟨[(0, .agg [.int .i64, .int .i64, .list T_api_Expr]), (1, .one (.int .i64))], []⟩),
 (43, ⟨[(0, .one (.str)), (1, .one (.int .i64))], []⟩),
 (44, ⟨[(0, .one (.int .i64)), (1, .one (.int .i64))], []⟩),
 (45, ⟨[(0, .one (.list T_api_Expr)), (1, .one (.list T_api_Expr)), (2, .fn F_expr_Compare [] [])], []⟩),
 (46, ⟨[(0, .one (.bool))], []⟩),
 (47, ⟨[(0, .agg [.int .i64, .int .i64, .list T_api_Expr])], []⟩),
 (48, ⟨[(0, .agg [.int .i64, .int .i64, .list T_api_Expr])], []⟩),
 (49, ⟨[(0, .agg [.int .i64, .int .i64, .list T_api_Expr])], []⟩),
 (50, ⟨[(0, .agg [.int .i64, .int .i64, .list T_api_Expr])], []⟩),
 (51, ⟨[(0, .agg [.int .i64, .int .i64, .list T_api_Expr]), (1, .one (.int .i64))], []⟩),
 (56, ⟨[(0, .agg [.int .i64, .int .i64, .list T_api_Expr]), (1, .one (.int .i64)), (2, .one (.ptrC 0 0 0))], [.var 3 [.one (.int .i64)]]⟩),
 (57, ⟨[(0, .one (.ptrC 0 0 0)), (1, .one (.int .u8))], [.var 43 [.one (.und), .one (.whole T_uint8 1)], .arr T_uint8 false]⟩),
 (58, ⟨[(0, .one (.ptrC 0 0 0)), (1, .one (.list T_api_Expr)), (2, .one (.str)), (3, .one (.int .i64))], [.var 43 [.one (.und), .one (.whole T_uint8 1)], .arr T_uint8 false]⟩),
 (59, ⟨[(0, .one (.int .i64))], []⟩),
 (61, ⟨[(0, .one (.ptrC 0 0 0))], [.var 68 [.one (.str), .one (.int .i64), .one (.int .i64)]]⟩),
 (62, ⟨[(0, .one (.ptrC 0 0 0))], [.var 68 [.one (.str), .one (.int .i64), .one (.int .i64)]]⟩),
 (64, ⟨[(0, .one (.int .i64))], []⟩),
 (65, ⟨[(0, .one (.list T_api_Expr)), (1, .fn F_expr_HasUnit [] [])], []⟩),
 (68, ⟨[(0, .one (.ptrC 0 0 0)), (1, .one (.str))], [.var 43 [.one (.und), .one (.whole T_uint8 1)], .arr T_uint8 false]⟩),
 (69, ⟨[(0, .one (.int .i64))], []⟩),
 (70, ⟨[(0, .one (.ptrC 0 0 0)), (1, .one (.int .i64)), (2, .one (.int .u8)), (3, .fn F_expr_parser_and [.ptrC 0 0 0] [])], [.var 68 [.one (.str), .one (.int .i64), .one (.int .i64)]]⟩),
 (71, ⟨[(0, .one (.ptrC 0 0 0))], [.var 68 [.one (.str), .one (.int .i64), .one (.int .i64)]]⟩),
 (72, ⟨[(0, .one (.list T_api_Expr)), (1, .fn F_expr_HasUnit [] [])], []⟩),
 (79, ⟨[(0, .one (.int .i64)), (1, .one (.list T_api_Expr))], []⟩),
 (80, ⟨[(0, .one (.ptrC 0 0 0))], [.var 68 [.one (.str), .one (.int .i64), .one (.int .i64)]]⟩),
 (89, ⟨[(0, .one (.ptrC 0 0 0))], [.var 68 [.one (.str), .one (.int .i64), .one (.int .i64)]]⟩),
 (90, ⟨[(0, .one (.ptrC 0 0 0))], [.var 68 [.one (.str), .one (.int .i64), .one (.int .i64)]]⟩),
 (94, ⟨[(0, .one (.ptrC 0 0 0))], [.var 68 [.one (.str), .one (.int .i64), .one (.int .i64)]]⟩),
 (95, ⟨[(0, .one (.ptrC 0 0 0)), (1, .one (.int .u8))], [.var 68 [.one (.str), .one (.int .i64), .one (.int .i64)]]⟩),
 (98, ⟨[(0, .one (.ptrC 0 0 0))], [.var 68 [.one (.str), .one (.int .i64), .one (.int .i64)]]⟩),
 (132, ⟨[(0, .one (.ptrC 0 0 0)), (1, .one (.int .i64)), (2, .one (.int .u8)), (3, .fn F_expr_parser_cat [.ptrC 0 0 0] [])], [.var 68 [.one (.str), .one (.int .i64), .one (.int .i64)]]⟩)]
def annSout : List (Nat × Shape) := [(3, ⟨[(0, .one (.bool))], []⟩),
 (4, ⟨[(0, .one (.bool))], []⟩),
 (5, ⟨[(0, .one (.bool))], []⟩),
 (6, ⟨[(0, .one (.bool))], []⟩),
 (7, ⟨[(0, .one (.bool))], []⟩),
 (11, ⟨[(0, .one (.int .i64))], []⟩),
 (12, ⟨[(0, .one (.int .i64))], []⟩),
 (13, ⟨[(0, .one (.bool))], []⟩),
 (14, ⟨[(0, .one (.str))], []⟩),
 (15, ⟨[(0, .one (.bool))], []⟩),
 (16, ⟨[(0, .one (.str))], []⟩),
 (17, ⟨[(0, .agg [.int .i64, .int .i64, .list T_api_Expr]), (1, .one (.int .i64)), (2, .one (.int .i64))], []⟩),
 (18, ⟨[(0, .one (.bool))], []⟩),
 (19, ⟨[(0, .one (.int .i64))], []⟩),
 (20, ⟨[(0, .one (.int .i64))], []⟩),
 (21, ⟨[(0, .one (.int .i64))], []⟩),
 (22, ⟨[(0, .one (.int .i64))], []⟩),
 (23, ⟨[(0, .one (.int .i64))], []⟩),
 (24, ⟨[(0, .one (.bool))], []⟩),
 (25, ⟨[(0, .one (.bool))], []⟩),
 (26, ⟨[(0, .one (.int .i64))], []⟩),
 (27, ⟨[(0, .one (.int .i64))], []⟩),
 (28, ⟨[(0, .one (.int .i64))], []⟩),
 (29, ⟨[(0, .one (.bool))], []⟩),
 (30, ⟨[(0, .one (.bool))], []⟩),
 (34, ⟨[(0, .one (.bool))], []⟩),
 (35, ⟨[(0, .one (.bool))], []⟩),
 (36, ⟨[(0, .one (.bool))], []⟩),
 (37, ⟨[(0, .one (.bool))], []⟩),
 (38, ⟨[(0, .one (.bool))], []⟩),
 (39, ⟨[(0, .one (.bool))], []⟩),
 (40, ⟨[], [.var 43 [.one (.und), .one (.whole T_uint8 2)], .dead, .arr T_uint8 false]⟩),
 (41, ⟨[(0, .one (.str))], [.var 43 [.one (.und), .one (.und)], .dead]⟩),
 (42, ⟨[(0, .one (.str))], []⟩),
 (43, ⟨[(0, .agg [.int .i64, .int .i64, .list T_api_Expr]), (1, .one (.int .i64)), (2, .one (.bool))], []⟩),
 (44, ⟨[(0, .one (.int .i64))], []⟩),
 (45, ⟨[(0, .one (.int .i64))], []⟩),
 (46, ⟨[(0, .one (.int .i64))], []⟩),
 (47, ⟨[(0, .one (.int .i64))], []⟩),
 (48, ⟨[(0, .one (.int .i64))], []⟩),
 (49, ⟨[(0, .one (.int .i64))], []⟩),
 (50, ⟨[(0, .one (.bool))], []⟩),
 (51, ⟨[(0, .one (.int .i64)), (1, .one (.int .i64))], []⟩),
 (56, ⟨[(0, .one (.bool))], [.var 3 [.one (.int .i64)]]⟩),
 (57, ⟨[(0, .one (.und))], [.var 43 [.one (.und), .one (.whole T_uint8 2)], .dead, .arr T_uint8 false]⟩),
 (58, ⟨[], [.var 43 [.one (.und), .one (.whole T_uint8 2)], .dead, .arr T_uint8 false]⟩),
 (59, ⟨[(0, .one (.int .i64))], []⟩),
 (61, ⟨[(0, .agg [.int .i64, .int .i64, .list T_api_Expr])], [.var 68 [.one (.str), .one (.int .i64), .one (.int .i64)]]⟩),
 (62, ⟨[(0, .one (.int .u8))], [.var 68 [.one (.str), .one (.int .i64), .one (.int .i64)]]⟩),
 (64, ⟨[(0, .one (.bool))], []⟩),
 (65, ⟨[(0, .one (.bool))], []⟩),
 (68, ⟨[(0, .one (.int .i64)), (1, .one (.und))], [.var 43 [.one (.und), .one (.whole T_uint8 2)], .dead, .arr T_uint8 false]⟩),
 (69, ⟨[(0, .one (.int .i64))], []⟩),
 (70, ⟨[(0, .agg [.int .i64, .int .i64, .list T_api_Expr])], [.var 68 [.one (.str), .one (.int .i64), .one (.int .i64)]]⟩),
 (71, ⟨[(0, .agg [.int .i64, .int .i64, .list T_api_Expr])], [.var 68 [.one (.str), .one (.int .i64), .one (.int .i64)]]⟩),
 (72, ⟨[(0, .one (.int .i64))], []⟩),
 (79, ⟨[(0, .agg [.int .i64, .int .i64, .list T_api_Expr])], []⟩),
 (80, ⟨[(0, .agg [.int .i64, .int .i64, .list T_api_Expr])], [.var 68 [.one (.str), .one (.int .i64), .one (.int .i64)]]⟩),
 (89, ⟨[(0, .agg [.int .i64, .int .i64, .list T_api_Expr])], [.var 68 [.one (.str), .one (.int .i64), .one (.int .i64)]]⟩),
 (90, ⟨[(0, .one (.bool))], [.var 68 [.one (.str), .one (.int .i64), .one (.int .i64)]]⟩),
 (94, ⟨[(0, .agg [.int .i64, .int .i64, .list T_api_Expr])], [.var 68 [.one (.str), .one (.int .i64), .one (.int .i64)]]⟩),
 (95, ⟨[(0, .one (.bool))], [.var 68 [.one (.str), .one (.int .i64), .one (.int .i64)]]⟩),
 (98, ⟨[(0, .agg [.int .i64, .int .i64, .list T_api_Expr])], [.var 68 [.one (.str), .one (.int .i64), .one (.int .i64)]]⟩),
 (132, ⟨[(0, .agg [.int .i64, .int .i64, .list T_api_Expr])], [.var 68 [.one (.str), .one (.int .i64), .one (.int .i64)]]⟩)]
def annLive : List (Nat × List (Nat × List Nat)) := [(3, [(0, [1, 2]), (1, [4])]),
 (4, [(0, [1]), (1, [1, 3]), (2, [1, 3, 8]), (3, [2]), (4, [2])]),
 (5, [(0, [1]), (1, [1, 9]), (2, [2]), (3, [1, 3]), (4, [1, 3, 4, 6]), (5, [1, 4, 6, 21]), (6, [2]), (7, [2])]),
 (6, [(0, [3, 4, 5]), (1, [3, 4, 5, 7]), (2, [3, 4, 5, 7, 29]), (3, [6]), (4, [43]), (5, [6]), (6, [6])]),
 (7, [(0, [1]), (1, [1, 5]), (2, [2]), (3, [2])]),
 (11, [(0, [1, 2]), (1, [1, 2, 10]), (2, [4]), (3, [1, 2, 13]), (4, [4]), (5, [17]), (6, [4]), (7, [4])]),
 (12, [(0, [1, 2]), (1, [1, 2, 5]), (2, [4]), (3, [1, 2, 9]), (4, [4]), (5, [13]), (6, [4]), (7, [4])]),
 (13, [(0, []), (1, [1, 2, 3]), (2, [0])]),
 (14, [(0, [1]), (1, [1, 6]), (2, [2]), (3, [1, 3]), (4, [3]), (5, [2])]),
 (15, [(0, [1]), (1, [2])]),
 (16, [(0, [1]), (1, [1, 3, 4]), (2, [1, 3, 4, 9]), (3, [1, 3, 4, 5]), (4, [1, 3, 4, 9, 10]), (5, [2]), (6, [1, 3, 4, 9, 12]), (7, [2]), (8, [1, 3, 4, 9, 14]), (9, [2]), (10, [1, 3, 4, 9, 22]), (11, [2]), (12, [1, 3, 4, 9, 30]), (13, [2]), (14, [1, 3, 4, 9, 38]), (15, [1, 3, 4, 5]), (16, [1, 3, 4, 40]), (17, [1, 3, 4, 5]), (18, [3, 4, 5, 43, 44, 45]), (19, [3, 4, 5, 43, 44, 45, 46]), (20, [3, 4, 5, 6, 7, 43, 44, 45]), (21, [3, 4, 5, 7, 43, 44, 45, 51]), (22, [3, 4, 5, 7, 43, 44, 45]), (23, [3, 4, 5, 43, 44, 45]), (24, [3, 4, 5, 43, 44, 45]), (25, [2])]),
 (17, [(0, [0, 1, 4]), (1, [0, 1, 4, 15]), (2, [4, 5, 6]), (3, [0, 1, 4, 19]), (4, [4, 5, 6]), (5, [4, 7, 8, 9]), (6, [4, 7, 8, 29]), (7, [4, 5, 6]), (8, [4, 7, 34]), (9, [4, 5, 6]), (10, [4, 5, 6])]),
 (18, [(0, [2, 3]), (1, [4])]),
 (19, [(0, [2, 3]), (1, [2, 3, 9]), (2, [4]), (3, [2, 3, 19]), (4, [4]), (5, [4])]),
 (20, [(0, [2, 3]), (1, [2, 3, 7]), (2, [4]), (3, [2, 3, 19]), (4, [4]), (5, [2, 3, 5]), (6, [2, 3, 5, 42]), (7, [2, 3, 5]), (8, [2, 3, 5, 6]), (9, [2, 3, 5, 6, 57]), (10, [4]), (11, [2, 3, 65]), (12, [4]), (13, [4])]),
 (21, [(0, [1]), (1, [1, 5]), (2, [2]), (3, [2])]),
 (22, [(0, [1]), (1, [1, 5]), (2, [2]), (3, [2])]),
 (23, [(0, [1]), (1, [1, 5]), (2, [2]), (3, [2])]),
 (24, [(0, [1]), (1, [2])]),
 (25, [(0, [1]), (1, [2])]),
 (26, [(0, [1]), (1, [3]), (2, [2])]),
 (27, [(0, [1]), (1, [4]), (2, [2])]),
 (28, [(0, [1]), (1, [1, 3]), (2, [1, 3, 7, 8, 9]), (3, [1, 3, 7, 8, 9, 10]), (4, [1, 3, 5, 7, 8, 9]), (5, [1, 3, 7, 8, 9]), (6, [1, 3, 7, 8, 9]), (7, [3, 20]), (8, [3]), (9, [2])]),
 (29, [(0, [1, 2]), (1, [1, 2, 10]), (2, [4]), (3, [1, 12, 13, 14]), (4, [1, 12, 13, 14, 15]), (5, [1, 6, 12, 13, 14]), (6, [1, 12, 13, 14, 20]), (7, [4]), (8, [1, 12, 13, 14]), (9, [4])]),
 (30, [(0, [1]), (1, [1, 3, 4]), (2, [1, 3, 4, 9, 10, 11]), (3, [1, 3, 4, 9, 10, 11, 12]), (4, [1, 3, 4, 6, 9, 10, 11]), (5, [1, 3, 4, 7, 9, 10, 11]), (6, [1, 3, 4, 9, 10, 11]), (7, [1, 3, 4, 9, 10, 11]), (8, [3, 4, 27]), (9, [3, 4, 27, 28]), (10, [3, 4, 27, 28]), (11, [2]), (12, [3, 4, 27, 31]), (13, [2]), (14, [3, 4, 27, 34]), (15, [3, 4, 27, 34]), (16, [2]), (17, [4, 38]), (18, [2]), (19, [2])]),
 (34, [(0, [1]), (1, [1, 3]), (2, [2])]),
 (35, [(0, [1, 2]), (1, [1, 2, 9]), (2, [4]), (3, [1, 2, 27]), (4, [4]), (5, [1, 2, 29]), (6, [4]), (7, [1, 2, 29, 30]), (8, [1, 2, 29, 30]), (9, [4]), (10, [1, 2, 29, 37]), (11, [1, 2, 29, 37]), (12, [1, 2, 29, 37]), (13, [1, 2, 44]), (14, [4]), (15, [1, 2, 29, 45]), (16, [1, 2, 45]), (17, [1, 2, 51]), (18, [4]), (19, [1, 53, 54, 55]), (20, [1, 53, 54, 55, 56]), (21, [1, 6, 53, 54, 55]), (22, [1, 53, 54, 55, 62]), (23, [4]), (24, [1, 53, 54, 55]), (25, [4])]),
 (36, [(0, [0]), (1, [2])]),
 (37, [(0, [1]), (1, [3, 4]), (2, [2])]),
 (38, [(0, [1, 2]), (1, [1, 2, 5]), (2, [1, 2, 5, 6]), (3, [1, 2, 5, 6, 20]), (4, [1, 2, 5, 6]), (5, [1, 2, 5, 6, 20, 26]), (6, [1, 2, 5, 6, 20, 26]), (7, [1, 2, 5, 6, 20, 26]), (8, [1, 2, 5, 6]), (9, [1, 2, 5, 6, 20, 32]), (10, [1, 2, 5, 6, 32]), (11, [1, 2, 5, 6]), (12, [1, 2, 5, 6, 39]), (13, [1, 2, 5, 6]), (14, [1, 2, 5, 6]), (15, [1, 2, 5, 6, 7]), (16, [1, 2, 5, 6, 7, 63]), (17, [1, 2, 5, 6, 7]), (18, [1, 2, 5, 6, 7]), (19, [4])]),
 (39, [(0, [1]), (1, [2])]),
 (40, [(0, [0, 3]), (1, [0, 3, 5]), (2, [0, 3, 5, 6]), (3, []), (4, [0, 3, 5, 10]), (5, []), (6, [0, 3, 5, 14]), (7, []), (8, [0, 3, 5, 22]), (9, []), (10, [0, 3, 5, 28]), (11, []), (12, [0, 3, 5, 34]), (13, []), (14, [0, 3, 5, 40]), (15, [0, 3]), (16, []), (17, [0, 3, 48]), (18, [0]), (19, [])]),
 (41, [(0, [0]), (1, [2])]),
 (42, [(0, [1, 2]), (1, [2, 9]), (2, [4]), (3, [4])]),
 (43, [(0, [0, 1, 4, 5, 6]), (1, [0, 1, 4, 5, 6]), (2, [0, 4, 5, 6, 7]), (3, [0, 4, 5, 6, 7]), (4, [0, 4, 5, 6, 7]), (5, [4, 5, 6, 7, 18]), (6, [4, 5, 6]), (7, [4, 5, 6])]),
 (44, [(0, [0, 1]), (1, [0, 1, 5]), (2, [0, 1, 5, 6]), (3, [0, 1, 6, 11]), (4, [12]), (5, [4]), (6, [4]), (7, [0, 1, 13]), (8, [4]), (9, [0, 1, 16]), (10, [4]), (11, [19]), (12, [4]), (13, [4])]),
 (45, [(0, [0, 1, 2]), (1, [0, 1, 2, 11, 12, 13]), (2, [0, 1, 2, 11, 12, 13, 14]), (3, [0, 1, 2, 7, 8, 11, 12, 13]), (4, [0, 1, 2, 7, 8, 11, 12, 13, 21]), (5, [6]), (6, [0, 1, 2, 8, 9, 11, 12, 13]), (7, [0, 1, 2, 10, 11, 12, 13]), (8, [0, 1, 2, 10, 11, 12, 13, 31]), (9, [6]), (10, [0, 1, 2, 11, 12, 13]), (11, [38]), (12, [6]), (13, [6])]),
 (46, [(0, [0]), (1, [3]), (2, [2]), (3, [2])]),
 (47, [(0, [1]), (1, [1, 3]), (2, [3, 7, 8, 9]), (3, [3, 7, 8, 9, 10]), (4, [3, 5, 7, 8, 9]), (5, [3, 7, 8, 9]), (6, [3, 7, 8, 9]), (7, [2])]),
 (48, [(0, [1]), (1, [1, 3]), (2, [3, 7, 8, 9]), (3, [3, 7, 8, 9, 10]), (4, [3, 5, 7, 8, 9]), (5, [3, 7, 8, 9]), (6, [3, 7, 8, 9]), (7, [2])]),
 (49, [(0, [1]), (1, [1, 3]), (2, [1, 3, 7, 8, 9]), (3, [1, 3, 7, 8, 9, 10]), (4, [1, 3, 5, 7, 8, 9]), (5, [1, 3, 7, 8, 9]), (6, [1, 3, 7, 8, 9]), (7, [3, 20]), (8, [3]), (9, [2])]),
 (50, [(0, [1]), (1, [1, 6]), (2, [1, 6, 7]), (3, [1, 6, 7]), (4, [2]), (5, [1, 6, 10]), (6, [2]), (7, [1, 6, 15]), (8, [1, 6, 15]), (9, [19, 20, 21]), (10, [19, 20, 21, 22]), (11, [4, 19, 20, 21]), (12, [19, 20, 21, 27]), (13, [2]), (14, [19, 20, 21]), (15, [2]), (16, [1, 29]), (17, [2]), (18, [2])]),
 (51, [(0, [1, 2]), (1, [1, 2, 6, 7]), (2, [1, 2, 6, 7, 8]), (3, [1, 2, 6, 7, 8, 20]), (4, [1, 2, 6, 7, 8]), (5, [1, 2, 6, 7, 8, 9, 10]), (6, [1, 2, 6, 7, 8]), (7, [4, 5])]),
 (56, [(0, [1, 2, 3]), (1, [1, 2, 3, 16]), (2, [6]), (3, [1, 2, 3]), (4, [1, 2, 23, 24, 25]), (5, [1, 2, 23, 24, 25, 26]), (6, [1, 2, 8, 23, 24, 25]), (7, [1, 2, 23, 24, 25, 34]), (8, [6]), (9, [1, 2, 23, 24, 25]), (10, [6])]),
 (57, [(0, [0, 1]), (1, [0, 1]), (2, []), (3, [4])]),
 (58, [(0, [0, 2, 3, 10, 11, 12]), (1, [0, 2, 3, 10, 11, 12, 13]), (2, [0, 2, 3, 8, 9, 10, 11, 12]), (3, [0, 2, 3, 9, 10, 11, 12, 18]), (4, [0, 2, 3, 9, 10, 11, 12]), (5, [0, 2, 3, 9, 10, 11, 12, 26]), (6, [0, 2, 3, 10, 11, 12]), (7, [0, 2, 3, 9, 10, 11, 12]), (8, [0, 2, 3, 10, 11, 12]), (9, [0, 2, 3, 10, 11, 12]), (10, [0, 2, 3, 10, 11, 12])]),
 (59, [(0, [0]), (1, [3]), (2, [3, 4]), (3, [2]), (4, [3, 6]), (5, [2]), (6, [3, 8]), (7, [2]), (8, [3, 10]), (9, [2]), (10, [12]), (11, [2]), (12, [2])]),
 (61, [(0, [0, 2]), (1, [2])]),
 (62, [(0, [0]), (1, [0, 24]), (2, [0]), (3, [0, 41]), (4, [2]), (5, [2])]),
 (64, [(0, [0]), (1, [2])]),
 (65, [(0, [0, 1]), (1, [4])]),
 (68, [(0, [0, 1]), (1, [0, 1]), (2, [1]), (3, [4, 5])]),
 (69, [(0, [0]), (1, [3]), (2, [3, 4]), (3, [2]), (4, [3, 6]), (5, [2]), (6, [3, 8]), (7, [2]), (8, [3, 10]), (9, [2]), (10, [12]), (11, [2]), (12, [2])]),
 (70, [(0, [0, 1, 2, 3, 8]), (1, [0, 1, 2, 3, 8, 9]), (2, [0, 1, 2, 3, 8, 9, 16]), (3, [0, 1, 2, 3, 8, 9]), (4, [0, 1, 2, 3, 8, 9]), (5, [8])]),
 (71, [(0, [0, 2]), (1, [2])]),
 (72, [(0, [0, 1]), (1, [0, 1, 7, 8]), (2, [0, 1, 7, 8, 9]), (3, [0, 1, 5, 7, 8]), (4, [0, 1, 5, 7, 8, 16]), (5, [4]), (6, [0, 1, 7, 8]), (7, [4])]),
 (79, [(0, [0, 1, 4]), (1, [0, 1, 4, 7]), (2, [4]), (3, [4])]),
 (80, [(0, [0, 2]), (1, [0, 2, 3]), (2, [0, 2, 3, 8]), (3, [0, 2, 3]), (4, [2])]),
 (89, [(0, [0, 2]), (1, [0, 2, 5]), (2, [2]), (3, [0, 2]), (4, [2])]),
 (90, [(0, [0]), (1, [0, 3]), (2, [2])]),
 (94, [(0, [0, 2]), (1, [0, 2, 3]), (2, [0, 2, 3, 8]), (3, [0, 2, 3]), (4, [0, 2, 3]), (5, [2])]),
 (95, [(0, [0, 1]), (1, [4])]),
 (98, [(0, [0, 2]), (1, [0, 2, 3]), (2, [0, 2, 3, 4]), (3, [0, 2, 3]), (4, [0, 2, 3, 4, 9]), (5, [0, 2, 3]), (6, [0, 2, 3, 4, 13]), (7, [0, 2, 3]), (8, [0, 2, 3, 4, 17]), (9, [0, 2, 3]), (10, [0, 2, 3, 26]), (11, [0, 2, 3]), (12, [0, 2, 3]), (13, [0, 2, 3, 40]), (14, [0, 2, 3]), (15, [2, 3]), (16, [2])])]
def annJoin : List (Nat × List (Nat × List Nat)) := [(3, []),
 (4, [(8, [1, 3])]),
 (5, [(9, [1]), (21, [1, 4, 6])]),
 (6, [(29, [3, 4, 5, 7]), (43, [])]),
 (7, [(5, [1])]),
 (11, [(10, [1, 2]), (13, [1, 2]), (17, [])]),
 (12, [(5, []), (9, []), (13, [])]),
 (13, []),
 (14, [(6, [1])]),
 (15, []),
 (16, [(10, [1, 3, 4, 5]), (12, [1, 3, 4, 5]), (14, [1, 3, 4, 5]), (22, [1, 3, 4, 5]), (30, [1, 3, 4, 5]), (38, [1, 3, 4, 5]), (40, [1, 3, 4, 5]), (46, [3, 4, 5, 43, 44, 45]), (51, [3, 4, 5, 7, 43, 44, 45])]),
 (17, [(15, [0, 1, 4]), (19, [0, 1, 4]), (29, [4, 7]), (34, [4, 7])]),
 (18, []),
 (19, [(9, [2, 3]), (19, [2, 3])]),
 (20, [(7, [2, 3]), (19, [2, 3]), (42, [2, 3, 5]), (57, [2, 3, 5]), (65, [2, 3])]),
 (21, [(5, [1])]),
 (22, [(5, [1])]),
 (23, [(5, [1])]),
 (24, []),
 (25, []),
 (26, []),
 (27, []),
 (28, [(10, [1, 3, 7, 8, 9]), (20, [3])]),
 (29, [(10, [1, 2]), (15, [1, 12, 13, 14]), (20, [1, 12, 13, 14])]),
 (30, [(12, [1, 3, 4, 9, 10, 11]), (28, [3, 4, 27, 28]), (31, []), (34, [3, 4, 27, 34]), (38, [])]),
 (34, []),
 (35, [(9, [1, 2]), (27, [1, 2]), (30, [1, 2, 29, 30]), (37, [1, 2, 29, 37]), (44, [1, 2]), (45, [1, 2, 45]), (51, [1, 2]), (56, [1, 53, 54, 55]), (62, [1, 53, 54, 55])]),
 (36, []),
 (37, []),
 (38, [(26, [1, 2, 5, 6, 20, 26]), (32, [1, 2, 5, 6, 32]), (39, [1, 2, 5, 6]), (63, [1, 2, 5, 7])]),
 (39, []),
 (40, [(6, []), (10, []), (14, []), (22, []), (28, []), (34, []), (40, []), (48, [])]),
 (41, []),
 (42, [(9, [2])]),
 (43, [(18, [4, 5, 6])]),
 (44, [(11, [0, 1, 6]), (12, []), (13, [0, 1]), (16, [0, 1]), (19, [])]),
 (45, [(14, [0, 1, 2, 11, 12, 13]), (21, [0, 1, 2, 7, 8, 11, 12, 13]), (31, [0, 1, 2, 11, 12, 13]), (38, [])]),
 (46, [(3, [])]),
 (47, [(10, [3, 7, 8, 9])]),
 (48, [(10, [3, 7, 8, 9])]),
 (49, [(10, [1, 3, 7, 8, 9]), (20, [3])]),
 (50, [(7, [1, 6, 7]), (10, []), (15, [1, 6, 15]), (22, [19, 20, 21]), (27, [19, 20, 21]), (29, [])]),
 (51, [(20, [1, 2, 6, 7, 8])]),
 (56, [(16, [1, 2, 3]), (26, [1, 2, 23, 24, 25]), (34, [1, 2, 23, 24, 25])]),
 (57, []),
 (58, [(13, [0, 2, 3, 10, 11, 12]), (18, [0, 2, 3, 9, 10, 11, 12]), (26, [0, 2, 3, 9, 10, 11, 12])]),
 (59, [(4, []), (6, []), (8, []), (10, []), (12, [])]),
 (61, []),
 (62, [(24, [0]), (41, [0])]),
 (64, []),
 (65, []),
 (68, []),
 (69, [(4, []), (6, []), (8, []), (10, []), (12, [])]),
 (70, [(16, [0, 1, 2, 3, 8, 9])]),
 (71, []),
 (72, [(9, [0, 1, 7, 8]), (16, [0, 1, 7, 8])]),
 (79, [(7, [0, 1, 4])]),
 (80, [(8, [0, 2, 3])]),
 (89, [(5, [0, 2])]),
 (90, []),
 (94, [(8, [0, 2, 3])]),
 (95, []),
 (98, [(9, [0, 2, 3]), (13, [0, 2, 3]), (17, [0, 2, 3]), (26, [0, 2, 3]), (40, [0, 2, 3])])]
def annBlk : List (Nat × List (Nat × List Nat)) := [(3, []),
 (4, []),
 (5, []),
 (6, []),
 (7, []),
 (11, []),
 (12, [(0, [])]),
 (13, []),
 (14, []),
 (15, []),
 (16, [(0, [1, 3, 4, 5]), (1, [3]), (2, [3, 4, 5, 43, 44, 45])]),
 (17, []),
 (18, []),
 (19, []),
 (20, [(0, [2, 3]), (1, [2, 3]), (2, [2, 3, 5])]),
 (21, []),
 (22, []),
 (23, []),
 (24, []),
 (25, []),
 (26, []),
 (27, []),
 (28, [(0, [1, 3]), (1, [1, 3, 7, 8, 9])]),
 (29, [(0, []), (1, [1, 12, 13, 14])]),
 (30, [(0, [1, 3, 4]), (1, [1, 3, 4, 9, 10, 11]), (2, [])]),
 (34, []),
 (35, [(0, [1, 2]), (1, []), (2, [1, 53, 54, 55])]),
 (36, []),
 (37, []),
 (38, [(0, [1, 2, 5, 6]), (1, [6]), (2, [1, 2, 5, 6, 7])]),
 (39, []),
 (40, [(0, [])]),
 (41, []),
 (42, []),
 (43, []),
 (44, []),
 (45, [(0, [0, 1]), (1, [0, 1, 2, 11, 12, 13])]),
 (46, []),
 (47, [(0, [3]), (1, [3, 7, 8, 9])]),
 (48, [(0, [3]), (1, [3, 7, 8, 9])]),
 (49, [(0, [1, 3]), (1, [1, 3, 7, 8, 9])]),
 (50, [(0, []), (1, []), (2, [19, 20, 21])]),
 (51, [(0, [6, 7]), (1, [1, 2, 6, 7, 8])]),
 (56, [(0, []), (1, [1, 2, 23, 24, 25])]),
 (57, []),
 (58, [(0, []), (1, [0, 2, 3, 10, 11, 12])]),
 (59, [(0, [])]),
 (61, []),
 (62, [(0, [0]), (1, [0])]),
 (64, []),
 (65, []),
 (68, []),
 (69, [(0, [])]),
 (70, [(0, [1, 8, 9]), (1, [0, 1, 2, 3, 8, 9])]),
 (71, []),
 (72, [(0, []), (1, [0, 1, 7, 8])]),
 (79, []),
 (80, [(0, [2, 3]), (1, [0, 2, 3])]),
 (89, []),
 (90, []),
 (94, [(0, [2, 3]), (1, [0, 2, 3])]),
 (95, []),
 (98, [(0, [0, 2, 3])])]
def annPur : List (Nat × List (Nat × List Nat)) := [(94, [(1, [3]), (2, [3]), (3, [3]), (4, [3])]),
 (98, [(1, [3]), (2, [3]), (3, [3]), (4, [3]), (5, [3]), (6, [3]), (7, [3]), (8, [3]), (9, [3]), (10, [3]), (11, [3]), (12, [3]), (13, [3]), (14, [3]), (15, [3])])]
def annOutp : List (Nat × List Nat) := [(17, [0]),
 (89, [0])]
def annCk : List (Nat × List (Nat × List (Nat × Nat))) := [(3, [(1, [(2, 11), (5, 12), (8, 13)])]),
 (4, [(1, [(1, 14)]), (2, [(1, 15)]), (3, [(3, 13)]), (4, [(2, 16), (5, 13)])]),
 (5, [(1, [(1, 15)]), (2, [(0, 13)]), (3, [(1, 14)]), (4, [(1, 17)]), (6, [(3, 13)]), (7, [(5, 18), (8, 13)])]),
 (6, [(1, [(2, 19)]), (2, [(3, 20), (8, 19), (16, 19)]), (4, [(5, 19), (11, 19)]), (6, [(0, 13)])]),
 (7, [(1, [(1, 15)]), (2, [(1, 21), (5, 22), (10, 23), (15, 24), (20, 25), (24, 13)]), (3, [(1, 21), (3, 26), (7, 22), (9, 27), (14, 23), (16, 28), (21, 24), (23, 29), (29, 25), (31, 30), (35, 13)])]),
 (11, [(3, [(1, 34)]), (5, [(2, 35)])]),
 (12, [(1, [(1, 36)]), (3, [(1, 37)]), (5, [(2, 38)])]),
 (13, [(1, [(0, 17)]), (2, [(19, 14)])]),
 (14, [(1, [(1, 39)]), (4, [(1, 40)]), (5, [(0, 41)])]),
 (15, [(1, [(1, 12)])]),
 (16, [(11, [(4, 42)]), (13, [(4, 42)]), (23, [(3, 42)])]),
 (17, [(5, [(2, 43)]), (8, [(1, 34)])]),
 (18, [(1, [(2, 20)])]),
 (19, [(2, [(4, 44)]), (4, [(4, 44)]), (5, [(4, 45)])]),
 (20, [(2, [(5, 46)]), (4, [(5, 46)]), (8, [(10, 20)]), (13, [(7, 46)])]),
 (21, [(1, [(1, 39)]), (3, [(1, 47)])]),
 (22, [(1, [(1, 39)]), (3, [(1, 48)])]),
 (23, [(1, [(1, 39)]), (3, [(1, 49)])]),
 (24, [(1, [(1, 39), (4, 49)])]),
 (25, [(1, [(1, 39), (4, 50)])]),
 (26, [(1, [(1, 51)])]),
 (27, [(1, [(1, 51)])]),
 (28, [(5, [(2, 28)])]),
 (29, [(6, [(2, 29)])]),
 (30, [(5, [(1, 30)])]),
 (34, [(2, [(1, 56)])]),
 (35, [(22, [(2, 35)])]),
 (37, [(1, [(1, 51)])]),
 (38, [(18, [(6, 38)])]),
 (39, [(1, [(1, 11)])]),
 (40, [(3, [(1, 57)]), (5, [(1, 57)]), (7, [(5, 57)]), (9, [(3, 58)]), (11, [(3, 58)]), (13, [(3, 58)]), (15, [(1, 57)]), (16, [(3, 58)]), (18, [(3, 58)]), (19, [(1, 57)])]),
 (42, [(1, [(2, 59)]), (2, [(1, 16)]), (3, [(1, 16)])]),
 (43, [(3, [(0, 61)]), (4, [(0, 62)])]),
 (44, [(1, [(1, 64)]), (2, [(1, 64)])]),
 (45, [(7, [(3, 19)])]),
 (47, [(5, [(2, 47)])]),
 (48, [(5, [(2, 48)])]),
 (49, [(5, [(2, 49)])]),
 (50, [(6, [(2, 65)]), (12, [(1, 50)]), (17, [(9, 50)])]),
 (51, [(5, [(6, 51)])]),
 (56, [(7, [(4, 56)])]),
 (58, [(4, [(2, 68)]), (5, [(2, 69)]), (6, [(2, 40)]), (7, [(1, 57)]), (8, [(2, 40)]), (9, [(1, 57)])]),
 (61, [(1, [(3, 70)])]),
 (65, [(1, [(2, 72)])]),
 (70, [(1, [(1, 71)]), (2, [(1, 62)]), (4, [(2, 71)]), (5, [(2, 79)])]),
 (71, [(1, [(3, 132)])]),
 (72, [(4, [(5, 50)])]),
 (80, [(1, [(1, 89)]), (2, [(1, 90)]), (3, [(2, 89)]), (4, [(1, 79)])]),
 (89, [(1, [(1, 62)]), (2, [(1, 94)]), (4, [(1, 89)])]),
 (90, [(1, [(1, 62)]), (2, [(17, 95)])]),
 (94, [(1, [(1, 98)]), (2, [(1, 62)])]),
 (98, [(2, [(1, 62)]), (8, [(2, 95)]), (12, [(1, 61)]), (13, [(1, 62)])]),
 (132, [(1, [(1, 80)]), (2, [(1, 62)]), (4, [(2, 80)]), (5, [(2, 79)])])]
def annShp : List (Nat × List (Nat × (Shape × List (Out × Shape)))) := [(16, [(623, ((⟨[(1, .one (.ptrC 0 0 0)), (3, .one (.str)), (4, .one (.str)), (9, .one (.int .i64)), (38, .one (.bool))], [.var 24 [.one (.int .i64), .one (.int .i64), .one (.list T_api_Expr)]]⟩, [(.norm, ⟨[(1, .one (.ptrC 0 0 0)), (3, .one (.str)), (4, .one (.str)), (5, .one (.int .i64))], [.var 24 [.one (.int .i64), .one (.int .i64), .one (.list T_api_Expr)]]⟩)]) : Shape × List (Out × Shape))),
  (831, ((⟨[(3, .one (.str)), (4, .one (.str)), (5, .one (.int .i64)), (7, .one (.ptrC 0 0 0)), (43, .one (.list T_api_Expr)), (44, .one (.int .i64)), (45, .one (.int .i64)), (51, .one (.bool))], [.var 24 [.one (.int .i64), .one (.int .i64), .one (.list T_api_Expr)]]⟩, [(.norm, ⟨[(3, .one (.str)), (4, .one (.str)), (5, .one (.int .i64)), (7, .one (.ptrC 0 0 0)), (43, .one (.list T_api_Expr)), (44, .one (.int .i64)), (45, .one (.int .i64))], [.var 24 [.one (.int .i64), .one (.int .i64), .one (.list T_api_Expr)]]⟩)]) : Shape × List (Out × Shape))),
  (305, ((⟨[(3, .one (.str)), (4, .one (.str)), (5, .one (.int .i64)), (43, .one (.list T_api_Expr)), (44, .one (.int .i64)), (45, .one (.int .i64))], []⟩, [(.exit 1, ⟨[(3, .one (.str)), (4, .one (.str)), (5, .one (.int .i64)), (43, .one (.list T_api_Expr)), (44, .one (.int .i64)), (45, .one (.int .i64)), (46, .one (.bool))], []⟩)]) : Shape × List (Out × Shape)))]),
 (20, [(97, ((⟨[(2, .one (.ptrC 0 0 0)), (3, .one (.ptrC 1 0 0)), (5, .one (.int .i64))], [.var 24 [.one (.int .i64), .one (.int .i64), .one (.list T_api_Expr)], .var 24 [.one (.int .i64), .one (.int .i64), .one (.list T_api_Expr)]]⟩, [(.exit 1, ⟨[(2, .one (.ptrC 0 0 0)), (3, .one (.ptrC 1 0 0)), (5, .one (.int .i64)), (42, .one (.bool))], [.var 24 [.one (.int .i64), .one (.int .i64), .one (.list T_api_Expr)], .var 24 [.one (.int .i64), .one (.int .i64), .one (.list T_api_Expr)]]⟩), (.ret, ⟨[(4, .one (.int .i64))], []⟩)]) : Shape × List (Out × Shape)))]),
 (28, [(49, ((⟨[(1, .one (.ptrC 0 0 0)), (3, .one (.int .i64)), (7, .one (.list T_api_Expr)), (8, .one (.int .i64)), (9, .one (.int .i64))], [.var 24 [.one (.int .i64), .one (.int .i64), .one (.list T_api_Expr)]]⟩, [(.exit 0, ⟨[(1, .one (.ptrC 0 0 0)), (3, .one (.int .i64)), (7, .one (.list T_api_Expr)), (8, .one (.int .i64)), (9, .one (.int .i64)), (10, .one (.bool))], [.var 24 [.one (.int .i64), .one (.int .i64), .one (.list T_api_Expr)]]⟩)]) : Shape × List (Out × Shape)))]),
 (29, [(65, ((⟨[(1, .one (.int .i64)), (12, .one (.list T_api_Expr)), (13, .one (.int .i64)), (14, .one (.int .i64))], []⟩, [(.ret, ⟨[(4, .one (.bool))], []⟩), (.exit 0, ⟨[(1, .one (.int .i64)), (12, .one (.list T_api_Expr)), (13, .one (.int .i64)), (14, .one (.int .i64)), (15, .one (.bool))], []⟩)]) : Shape × List (Out × Shape)))]),
 (30, [(49, ((⟨[(1, .one (.ptrC 0 0 0)), (3, .one (.bool)), (4, .one (.bool)), (9, .one (.list T_api_Expr)), (10, .one (.int .i64)), (11, .one (.int .i64))], [.var 24 [.one (.int .i64), .one (.int .i64), .one (.list T_api_Expr)]]⟩, [(.exit 0, ⟨[(1, .one (.ptrC 0 0 0)), (3, .one (.bool)), (4, .one (.bool)), (9, .one (.list T_api_Expr)), (10, .one (.int .i64)), (11, .one (.int .i64)), (12, .one (.bool))], [.var 24 [.one (.int .i64), .one (.int .i64), .one (.list T_api_Expr)]]⟩)]) : Shape × List (Out × Shape)))]),
 (35, [(321, ((⟨[(1, .one (.int .i64)), (53, .one (.list T_api_Expr)), (54, .one (.int .i64)), (55, .one (.int .i64))], []⟩, [(.ret, ⟨[(4, .one (.bool))], []⟩), (.exit 1, ⟨[(1, .one (.int .i64)), (53, .one (.list T_api_Expr)), (54, .one (.int .i64)), (55, .one (.int .i64)), (56, .one (.bool))], []⟩)]) : Shape × List (Out × Shape)))]),
 (38, [(639, ((⟨[(1, .one (.int .i64)), (2, .one (.ptrC 0 0 0)), (5, .one (.int .i64)), (6, .one (.bool)), (39, .one (.bool))], [.var 24 [.one (.int .i64), .one (.int .i64), .one (.list T_api_Expr)]]⟩, [(.norm, ⟨[(1, .one (.int .i64)), (2, .one (.ptrC 0 0 0)), (5, .one (.int .i64)), (6, .one (.bool))], [.var 24 [.one (.int .i64), .one (.int .i64), .one (.list T_api_Expr)]]⟩)]) : Shape × List (Out × Shape))),
  (257, ((⟨[(1, .one (.int .i64)), (2, .one (.ptrC 0 0 0)), (5, .one (.int .i64)), (6, .one (.bool)), (7, .one (.int .i64))], [.var 24 [.one (.int .i64), .one (.int .i64), .one (.list T_api_Expr)]]⟩, [(.exit 1, ⟨[(1, .one (.int .i64)), (2, .one (.ptrC 0 0 0)), (5, .one (.int .i64)), (6, .one (.bool)), (7, .one (.int .i64)), (63, .one (.bool))], [.var 24 [.one (.int .i64), .one (.int .i64), .one (.list T_api_Expr)]]⟩)]) : Shape × List (Out × Shape)))]),
 (40, [(463, ((⟨[(0, .one (.ptrC 0 0 0)), (3, .one (.ptrC 2 0 0)), (5, .one (.int .i64)), (28, .one (.bool))], [.var 43 [.one (.und), .one (.whole T_uint8 3)], .dead, .var 24 [.one (.int .i64), .one (.int .i64), .one (.list T_api_Expr)], .arr T_uint8 false]⟩, [(.norm, ⟨[], [.var 43 [.one (.und), .one (.whole T_uint8 2)], .dead, .arr T_uint8 false]⟩)]) : Shape × List (Out × Shape))),
  (367, ((⟨[(0, .one (.ptrC 0 0 0)), (3, .one (.ptrC 2 0 0)), (5, .one (.int .i64)), (22, .one (.bool))], [.var 43 [.one (.und), .one (.whole T_uint8 3)], .dead, .var 24 [.one (.int .i64), .one (.int .i64), .one (.list T_api_Expr)], .arr T_uint8 false]⟩, [(.norm, ⟨[], [.var 43 [.one (.und), .one (.whole T_uint8 2)], .dead, .arr T_uint8 false]⟩)]) : Shape × List (Out × Shape))),
  (239, ((⟨[(0, .one (.ptrC 0 0 0)), (3, .one (.ptrC 2 0 0)), (5, .one (.int .i64)), (14, .one (.bool))], [.var 43 [.one (.und), .one (.whole T_uint8 3)], .dead, .var 24 [.one (.int .i64), .one (.int .i64), .one (.list T_api_Expr)], .arr T_uint8 false]⟩, [(.norm, ⟨[], [.var 43 [.one (.und), .one (.whole T_uint8 2)], .dead, .arr T_uint8 false]⟩)]) : Shape × List (Out × Shape))),
  (175, ((⟨[(0, .one (.ptrC 0 0 0)), (3, .one (.ptrC 2 0 0)), (5, .one (.int .i64)), (10, .one (.bool))], [.var 43 [.one (.und), .one (.whole T_uint8 3)], .dead, .var 24 [.one (.int .i64), .one (.int .i64), .one (.list T_api_Expr)], .arr T_uint8 false]⟩, [(.norm, ⟨[], [.var 43 [.one (.und), .one (.whole T_uint8 2)], .dead, .arr T_uint8 false]⟩)]) : Shape × List (Out × Shape))),
  (111, ((⟨[(0, .one (.ptrC 0 0 0)), (3, .one (.ptrC 2 0 0)), (5, .one (.int .i64)), (6, .one (.bool))], [.var 43 [.one (.und), .one (.whole T_uint8 3)], .dead, .var 24 [.one (.int .i64), .one (.int .i64), .one (.list T_api_Expr)], .arr T_uint8 false]⟩, [(.norm, ⟨[], [.var 43 [.one (.und), .one (.whole T_uint8 2)], .dead, .arr T_uint8 false]⟩)]) : Shape × List (Out × Shape)))]),
 (45, [(33, ((⟨[(0, .one (.list T_api_Expr)), (1, .one (.list T_api_Expr)), (2, .fn F_expr_Compare [] []), (11, .one (.list T_api_Expr)), (12, .one (.int .i64)), (13, .one (.int .i64))], []⟩, [(.ret, ⟨[(6, .one (.int .i64))], []⟩), (.exit 0, ⟨[(0, .one (.list T_api_Expr)), (1, .one (.list T_api_Expr)), (2, .fn F_expr_Compare [] []), (11, .one (.list T_api_Expr)), (12, .one (.int .i64)), (13, .one (.int .i64)), (14, .one (.bool))], []⟩)]) : Shape × List (Out × Shape)))]),
 (47, [(49, ((⟨[(3, .one (.int .i64)), (7, .one (.list T_api_Expr)), (8, .one (.int .i64)), (9, .one (.int .i64))], []⟩, [(.exit 0, ⟨[(3, .one (.int .i64)), (7, .one (.list T_api_Expr)), (8, .one (.int .i64)), (9, .one (.int .i64)), (10, .one (.bool))], []⟩)]) : Shape × List (Out × Shape)))]),
 (48, [(49, ((⟨[(3, .one (.int .i64)), (7, .one (.list T_api_Expr)), (8, .one (.int .i64)), (9, .one (.int .i64))], []⟩, [(.exit 0, ⟨[(3, .one (.int .i64)), (7, .one (.list T_api_Expr)), (8, .one (.int .i64)), (9, .one (.int .i64)), (10, .one (.bool))], []⟩)]) : Shape × List (Out × Shape)))]),
 (49, [(49, ((⟨[(1, .one (.ptrC 0 0 0)), (3, .one (.int .i64)), (7, .one (.list T_api_Expr)), (8, .one (.int .i64)), (9, .one (.int .i64))], [.var 24 [.one (.int .i64), .one (.int .i64), .one (.list T_api_Expr)]]⟩, [(.exit 0, ⟨[(1, .one (.ptrC 0 0 0)), (3, .one (.int .i64)), (7, .one (.list T_api_Expr)), (8, .one (.int .i64)), (9, .one (.int .i64)), (10, .one (.bool))], [.var 24 [.one (.int .i64), .one (.int .i64), .one (.list T_api_Expr)]]⟩)]) : Shape × List (Out × Shape)))]),
 (50, [(161, ((⟨[(19, .one (.list T_api_Expr)), (20, .one (.int .i64)), (21, .one (.int .i64))], []⟩, [(.ret, ⟨[(2, .one (.bool))], []⟩), (.exit 1, ⟨[(19, .one (.list T_api_Expr)), (20, .one (.int .i64)), (21, .one (.int .i64)), (22, .one (.bool))], []⟩)]) : Shape × List (Out × Shape)))]),
 (51, [(49, ((⟨[(1, .one (.int .i64)), (2, .one (.ptrC 0 0 0)), (6, .one (.int .i64)), (7, .one (.int .i64)), (8, .one (.int .i64))], [.var 24 [.one (.int .i64), .one (.int .i64), .one (.list T_api_Expr)]]⟩, [(.exit 0, ⟨[(1, .one (.int .i64)), (2, .one (.ptrC 0 0 0)), (6, .one (.int .i64)), (7, .one (.int .i64)), (8, .one (.int .i64)), (20, .one (.bool))], [.var 24 [.one (.int .i64), .one (.int .i64), .one (.list T_api_Expr)]]⟩)]) : Shape × List (Out × Shape)))]),
 (56, [(81, ((⟨[(1, .one (.int .i64)), (2, .one (.ptrC 0 0 0)), (23, .one (.list T_api_Expr)), (24, .one (.int .i64)), (25, .one (.int .i64))], [.var 3 [.one (.int .i64)]]⟩, [(.ret, ⟨[(6, .one (.bool))], [.var 3 [.one (.int .i64)]]⟩), (.exit 0, ⟨[(1, .one (.int .i64)), (2, .one (.ptrC 0 0 0)), (23, .one (.list T_api_Expr)), (24, .one (.int .i64)), (25, .one (.int .i64)), (26, .one (.bool))], [.var 3 [.one (.int .i64)]]⟩)]) : Shape × List (Out × Shape)))]),
 (58, [(303, ((⟨[(0, .one (.ptrC 0 0 0)), (2, .one (.str)), (3, .one (.int .i64)), (9, .one (.ptrC 2 0 0)), (10, .one (.list T_api_Expr)), (11, .one (.int .i64)), (12, .one (.int .i64)), (18, .one (.bool))], [.var 43 [.one (.und), .one (.whole T_uint8 3)], .dead, .var 24 [.one (.int .i64), .one (.int .i64), .one (.list T_api_Expr)], .arr T_uint8 false]⟩, [(.norm, ⟨[(0, .one (.ptrC 0 0 0)), (2, .one (.str)), (3, .one (.int .i64)), (9, .one (.ptrC 2 0 0)), (10, .one (.list T_api_Expr)), (11, .one (.int .i64)), (12, .one (.int .i64))], [.var 43 [.one (.und), .one (.whole T_uint8 3)], .dead, .var 24 [.one (.int .i64), .one (.int .i64), .one (.list T_api_Expr)], .arr T_uint8 false]⟩)]) : Shape × List (Out × Shape))),
  (17, ((⟨[(0, .one (.ptrC 0 0 0)), (2, .one (.str)), (3, .one (.int .i64)), (10, .one (.list T_api_Expr)), (11, .one (.int .i64)), (12, .one (.int .i64))], [.var 43 [.one (.und), .one (.whole T_uint8 2)], .dead, .arr T_uint8 false]⟩, [(.exit 0, ⟨[(0, .one (.ptrC 0 0 0)), (2, .one (.str)), (3, .one (.int .i64)), (10, .one (.list T_api_Expr)), (11, .one (.int .i64)), (12, .one (.int .i64)), (13, .one (.bool))], [.var 43 [.one (.und), .one (.whole T_uint8 2)], .dead, .arr T_uint8 false]⟩)]) : Shape × List (Out × Shape)))]),
 (62, [(17, ((⟨[(0, .one (.ptrC 0 0 0))], [.var 68 [.one (.str), .one (.int .i64), .one (.int .i64)]]⟩, [(.exit 0, ⟨[(0, .one (.ptrC 0 0 0)), (24, .one (.bool))], [.var 68 [.one (.str), .one (.int .i64), .one (.int .i64)]]⟩)]) : Shape × List (Out × Shape)))]),
 (70, [(33, ((⟨[(0, .one (.ptrC 0 0 0)), (1, .one (.int .i64)), (2, .one (.int .u8)), (3, .fn F_expr_parser_and [.ptrC 0 0 0] []), (8, .one (.ptrC 1 0 0)), (9, .one (.whole T_api_Expr 2))], [.var 68 [.one (.str), .one (.int .i64), .one (.int .i64)], .var 24 [.one (.int .i64), .one (.int .i64), .one (.whole T_api_Expr 3)], .arr T_api_Expr false, .arr T_api_Expr false]⟩, [(.exit 0, ⟨[(0, .one (.ptrC 0 0 0)), (1, .one (.int .i64)), (2, .one (.int .u8)), (3, .fn F_expr_parser_and [.ptrC 0 0 0] []), (8, .one (.ptrC 1 0 0)), (9, .one (.whole T_api_Expr 2)), (16, .one (.bool))], [.var 68 [.one (.str), .one (.int .i64), .one (.int .i64)], .var 24 [.one (.int .i64), .one (.int .i64), .one (.whole T_api_Expr 3)], .arr T_api_Expr false, .arr T_api_Expr false]⟩)]) : Shape × List (Out × Shape)))]),
 (72, [(33, ((⟨[(0, .one (.list T_api_Expr)), (1, .fn F_expr_HasUnit [] []), (7, .one (.int .i64)), (8, .one (.int .i64))], []⟩, [(.ret, ⟨[(4, .one (.int .i64))], []⟩), (.exit 0, ⟨[(0, .one (.list T_api_Expr)), (1, .fn F_expr_HasUnit [] []), (7, .one (.int .i64)), (8, .one (.int .i64)), (9, .one (.bool))], []⟩)]) : Shape × List (Out × Shape)))]),
 (80, [(33, ((⟨[(0, .one (.ptrC 0 0 0)), (2, .one (.ptrC 1 0 0)), (3, .one (.whole T_api_Expr 2))], [.var 68 [.one (.str), .one (.int .i64), .one (.int .i64)], .var 24 [.one (.int .i64), .one (.int .i64), .one (.whole T_api_Expr 3)], .arr T_api_Expr false, .arr T_api_Expr false]⟩, [(.exit 0, ⟨[(0, .one (.ptrC 0 0 0)), (2, .one (.ptrC 1 0 0)), (3, .one (.whole T_api_Expr 2)), (8, .one (.bool))], [.var 68 [.one (.str), .one (.int .i64), .one (.int .i64)], .var 24 [.one (.int .i64), .one (.int .i64), .one (.whole T_api_Expr 3)], .arr T_api_Expr false, .arr T_api_Expr false]⟩)]) : Shape × List (Out × Shape)))]),
 (94, [(33, ((⟨[(0, .one (.ptrC 0 0 0)), (2, .one (.ptrC 1 0 0)), (3, .one (.ptrC 2 0 0))], [.var 68 [.one (.str), .one (.int .i64), .one (.int .i64)], .var 24 [.one (.int .i64), .one (.int .i64), .one (.whole T_api_Expr 3)], .var 24 [.one (.int .i64), .one (.int .i64), .one (.list T_api_Expr)], .arr T_api_Expr false]⟩, [(.exit 0, ⟨[(0, .one (.ptrC 0 0 0)), (2, .one (.ptrC 1 0 0)), (3, .one (.ptrC 2 0 0)), (8, .one (.bool))], [.var 68 [.one (.str), .one (.int .i64), .one (.int .i64)], .var 24 [.one (.int .i64), .one (.int .i64), .one (.whole T_api_Expr 3)], .var 24 [.one (.int .i64), .one (.int .i64), .one (.list T_api_Expr)], .arr T_api_Expr false]⟩)]) : Shape × List (Out × Shape)))]),
 (98, [(223, ((⟨[(0, .one (.ptrC 0 0 0)), (2, .one (.ptrC 1 0 0)), (3, .one (.ptrC 2 0 0)), (4, .one (.int .u8)), (13, .one (.bool))], [.var 68 [.one (.str), .one (.int .i64), .one (.int .i64)], .var 24 [.one (.int .i64), .one (.int .i64), .one (.whole T_api_Expr 3)], .var 24 [.one (.int .i64), .one (.int .i64), .one (.list T_api_Expr)], .arr T_api_Expr false]⟩, [(.norm, ⟨[(0, .one (.ptrC 0 0 0)), (2, .one (.ptrC 1 0 0)), (3, .one (.ptrC 2 0 0))], [.var 68 [.one (.str), .one (.int .i64), .one (.int .i64)], .var 24 [.one (.int .i64), .one (.int .i64), .one (.whole T_api_Expr 3)], .var 24 [.one (.int .i64), .one (.int .i64), .one (.list T_api_Expr)], .arr T_api_Expr false]⟩)]) : Shape × List (Out × Shape))),
  (159, ((⟨[(0, .one (.ptrC 0 0 0)), (2, .one (.ptrC 1 0 0)), (3, .one (.ptrC 2 0 0)), (4, .one (.int .u8)), (9, .one (.bool))], [.var 68 [.one (.str), .one (.int .i64), .one (.int .i64)], .var 24 [.one (.int .i64), .one (.int .i64), .one (.whole T_api_Expr 3)], .var 24 [.one (.int .i64), .one (.int .i64), .one (.list T_api_Expr)], .arr T_api_Expr false]⟩, [(.norm, ⟨[(0, .one (.ptrC 0 0 0)), (2, .one (.ptrC 1 0 0)), (3, .one (.ptrC 2 0 0))], [.var 68 [.one (.str), .one (.int .i64), .one (.int .i64)], .var 24 [.one (.int .i64), .one (.int .i64), .one (.whole T_api_Expr 3)], .var 24 [.one (.int .i64), .one (.int .i64), .one (.list T_api_Expr)], .arr T_api_Expr false]⟩)]) : Shape × List (Out × Shape)))]),
 (132, [(33, ((⟨[(0, .one (.ptrC 0 0 0)), (1, .one (.int .i64)), (2, .one (.int .u8)), (3, .fn F_expr_parser_cat [.ptrC 0 0 0] []), (8, .one (.ptrC 1 0 0)), (9, .one (.whole T_api_Expr 2))], [.var 68 [.one (.str), .one (.int .i64), .one (.int .i64)], .var 24 [.one (.int .i64), .one (.int .i64), .one (.whole T_api_Expr 3)], .arr T_api_Expr false, .arr T_api_Expr false]⟩, [(.exit 0, ⟨[(0, .one (.ptrC 0 0 0)), (1, .one (.int .i64)), (2, .one (.int .u8)), (3, .fn F_expr_parser_cat [.ptrC 0 0 0] []), (8, .one (.ptrC 1 0 0)), (9, .one (.whole T_api_Expr 2)), (16, .one (.bool))], [.var 68 [.one (.str), .one (.int .i64), .one (.int .i64)], .var 24 [.one (.int .i64), .one (.int .i64), .one (.whole T_api_Expr 3)], .arr T_api_Expr false, .arr T_api_Expr false]⟩)]) : Shape × List (Out × Shape)))])]
def annF (k : Nat) : FuncId := (lookupN annFid k).getD 0
def ann : Ann where
  fid := annF
  sin := fun k => (lookupN annSin k).getD ⟨[], []⟩
  sout := fun k => (lookupN annSout k).getD ⟨[], []⟩
  live := fun k r => (lookupN ((lookupN annLive (annF k)).getD []) r).getD []
  join := fun k r => (lookupN ((lookupN annJoin (annF k)).getD []) r).getD []
  blk := fun k r => (lookupN ((lookupN annBlk (annF k)).getD []) r).getD []
  pur := fun k r => (lookupN ((lookupN annPur k).getD []) r).getD []
  outp := fun k => (lookupN annOutp k).getD []
  nst := fun _ _ => []
  ck := fun k r i => (lookupN ((lookupN ((lookupN annCk k).getD []) r).getD []) i).getD 0
  shp := fun k x => lookupN ((lookupN annShp k).getD []) x
  nstNow := []
  ckNow := fun _ => 0
  ext := fun f => bif Nat.beq f 67 then some 43 else none
  idle := fun f => Nat.beq f 60
  mv := fun k => (lookupN ([(40, [1]), (41, [1]), (57, [1]), (58, [1]), (68, [1])] : List (Nat × List Nat)) k).getD []
noncomputable abbrev CC : CallF := Call Try.prog ann
end Go.AM

set_option maxRecDepth 100000
set_option linter.unusedVariables false
namespace Go.AM
open Go.Proofs Go.RowKit
theorem sz_le (args : Array Value) (n : Nat) : n ≤ (args ++ Array.replicate (n - args.size) undef).size := by simp; omega
def opsOf : Code → Array Oper
  | .region _ ops _ => ops
  | _ => #[]
def ridOf : Code → Nat
  | .region id _ _ => id
  | _ => 0
section
variable {P : Program} {ops : Array Oper} {Q : Exit → Act → List Frame → World → Prop} {a : Act} {cs : List Frame} {w : World} {i : Nat} {rest : List Nat} {o : Oper}
theorem opsS_rec (ho : ops[i]? = some o) (hg : o.guard = none) (he : (execOp a.eval o).run P w = .ok .recover w) (hr : recoverD cs = none) (h : wpOpsS P ops Q rest (a.put o.dst .nilIface) cs w) : wpOpsS P ops Q (i :: rest) a cs w := by
  simp only [wpOpsS, ho, Region.wanted, hg, if_true, he, hr]
  exact h
theorem opsS_val {v : Value} (ho : ops[i]? = some o) (hg : o.guard = none) (he : (execOp a.eval o).run P w = .ok (.value v) w) (h : wpOpsS P ops Q rest (a.put o.dst v) cs w) : wpOpsS P ops Q (i :: rest) a cs w := by
  simp only [wpOpsS, ho, Region.wanted, hg, if_true, he, Oper.upon_value]
  exact h
end
theorem neq_nil (w : World) : (binOp .neq 20 .nilIface .nilIface).run Try.prog w = .ok (.bool false) w := by
  have hd : Try.prog.underlying 20 = some (.interface #[]) := by kernel_rfl
  have h0 : ∀ k : Nat, (Op.equalIn (k + 1) 20 .nilIface .nilIface).run Try.prog w = .ok true w := fun k => by simp [Op.equalIn, run_underlying hd]
  simp only [binOp]
  simp [Op.equal, Op.maxDepth, h0 9999]
theorem idle60 (args : Array Value) (w : World) : CallsD Try.prog 60 args .returning w fun e u' w' => (∃ v, e = .returned v) ∧ u' = .returning ∧ w' = w := by
  refine callsD_of_wpS (c := (bodyOf Try.prog 60)) Try.func60 (by kernel_rfl) fun c₀ cs hu => ?_
  rw [show Try.f60.ntmps = 20 by kernel_rfl]
  have hsz := sz_le args 20
  generalize args ++ Array.replicate (20 - args.size) undef = tm at hsz
  have hb : bodyOf Try.prog 60 = .seq (.region (ridOf (codeAt [0] (bodyOf Try.prog 60))) (opsOf (codeAt [0] (bodyOf Try.prog 60))) false) (.seq (.region (ridOf (codeAt [1, 0] (bodyOf Try.prog 60))) (opsOf (codeAt [1, 0] (bodyOf Try.prog 60))) false) (.cond (.tmp 8) (codeAt [1, 1, 0] (bodyOf Try.prog 60)) .skip)) := by kernel_rfl
  have hr : recoverD (c₀ :: cs) = none := by simp [recoverD, hu]
  have o0 : (opsOf (codeAt [0] (bodyOf Try.prog 60))).map (fun o => (o.dst, o.op, o.guard)) = #[(some 6, .call ⟨.builtin .recover, #[], #[]⟩, none), (some 3, .assign (.tmp 6), none)] := by kernel_rfl
  have o1 : (opsOf (codeAt [1, 0] (bodyOf Try.prog 60))).map (fun o => (o.dst, o.op, o.guard)) = #[(some 7, .move (.tmp 3), none), (some 8, .binOp .neq 20 (.tmp 7) (.const .nilIface) 20, none)] := by kernel_rfl
  rw [hb]
  generalize opsOf (codeAt [0] (bodyOf Try.prog 60)) = ops0 at o0 ⊢
  generalize opsOf (codeAt [1, 0] (bodyOf Try.prog 60)) = ops1 at o1 ⊢
  generalize codeAt [1, 1, 0] (bodyOf Try.prog 60) = c2
  have get : ∀ (ops : Array Oper) (l : Array (Option Nat × Op × Option (Nat × Bool))), ops.map (fun o => (o.dst, o.op, o.guard)) = l → ops.size = l.size ∧ ∀ (i : Nat) d p g, l[i]? = some (d, p, g) → ∃ o, ops[i]? = some o ∧ o.dst = d ∧ o.op = p ∧ o.guard = g := by
    intro ops l h
    subst h
    refine ⟨by simp, fun i d p g h => ?_⟩
    rw [Array.getElem?_map] at h
    cases ho : ops[i]? with
    | none => rw [ho] at h; cases h
    | some o => rw [ho] at h; simp at h; exact ⟨o, rfl, h⟩
  obtain ⟨s0, g0⟩ := get _ _ o0
  obtain ⟨s1, g1⟩ := get _ _ o1
  obtain ⟨x0, a0, b0, c0, d0⟩ := g0 0 _ _ _ rfl
  obtain ⟨x1, a1, b1, c1, d1⟩ := g0 1 _ _ _ rfl
  obtain ⟨y0, e0, f0, p0, q0⟩ := g1 0 _ _ _ rfl
  obtain ⟨y1, e1, f1, p1, q1⟩ := g1 1 _ _ _ rfl
  refine wpS_seq (wpS_region ?_)
  rw [s0]
  change wpOpsS _ _ _ [0, 1] _ _ _
  refine opsS_rec a0 d0 (by simp [execOp, c0, resolve, invoke, builtin]) hr ?_
  refine opsS_val (v := .nilIface) a1 d1 ?_ ?_
  · simp [execOp, c1, Act.eval, Act.put, b0, show 6 < tm.size by omega]
  rw [b0, b1]
  change Exit.thenS _ _ .normal _ _ _
  simp only [Exit.thenS]
  refine wpS_seq (wpS_region ?_)
  rw [s1]
  change wpOpsS _ _ _ [0, 1] _ _ _
  refine opsS_val (v := .nilIface) e0 q0 ?_ ?_
  · simp [execOp, p0, Act.eval, Act.put, show 3 < tm.size by omega]
  rw [f0]
  refine opsS_val (v := .bool false) e1 q1 ?_ ?_
  · simp [execOp, p1, Act.eval, Act.put, show 7 < tm.size by omega]
    simp [eqGuard, neq_nil]
  rw [f1]
  change Exit.thenS _ _ .normal _ _ _
  simp only [Exit.thenS]
  refine wpS_cond (t := false) (by simp [Act.eval, Act.put, show 8 < tm.size by omega]) ?_
  simp only [Bool.false_eq_true, if_false]
  refine wpS_of_wp (wp_skip ?_)
  refine ⟨rfl, .returning, by rw [← hu], .tuple #[], ?_, ⟨_, rfl⟩, rfl, rfl⟩
  simp [results, show Try.f60.results = #[] by kernel_rfl]
end Go.AM

set_option maxRecDepth 100000
set_option linter.unusedVariables false
namespace Go.AM
open Go.Proofs Go.RowKit
theorem setCell_heap {w : World} {b : Nat} {C : Array Value} {T : TypeId} (h : w.heap[b]? = some (.cells C T (0, 0))) : w.shape? b = some (T, C.size) ∧ w.frozen? ⟨b, 0, none⟩ = false ∧ w.cell? ⟨b, 0, none⟩ = C[0]? := by
  refine ⟨by simp [World.shape?, h], by simp [World.frozen?, h], cell?_cells h⟩
set_option maxHeartbeats 1000000 in
theorem copy_used (b : Nat) (w : World) (h0 : w.cell? ⟨b, 0, none⟩ = some (.pointer (some ⟨b, 0, none⟩))) :
    Calls Try.prog 67 #[.pointer (some ⟨b, 0, none⟩)] w fun e w' => e = .returned (.tuple #[]) ∧ w' = w := by
  obtain ⟨j, hj⟩ := Option.isSome_iff_exists.1 (show (Try.prog.info? 43).isSome = true by kernel_rfl)
  have hu : Try.prog.underlying 40 = some (.pointer 43) := by kernel_rfl
  go_enter Try.func67, Try.ntmps67
  go_wp2
  rw [Lib.run_neq_ptr_same w _ hu hj]
  go_wp2
  go_end0
  exact ⟨rfl, rfl⟩
set_option maxHeartbeats 1000000 in
theorem copy_fresh (b n : Nat) (w : World) (hn : 0 < n) (h0 : w.cell? ⟨b, 0, none⟩ = some (.pointer none)) (hsh : w.shape? b = some (43, n)) (hfz : w.frozen? ⟨b, 0, none⟩ = false) (hl : liesAt Try.prog Try.prog.depth 43 (n / Try.prog.cellsOf 43) 0 43 1 = true) :
    Calls Try.prog 67 #[.pointer (some ⟨b, 0, none⟩)] w fun e w' => e = .returned (.tuple #[]) ∧ w' = w.setCell ⟨b, 0, none⟩ (.pointer (some ⟨b, 0, none⟩)) := by
  obtain ⟨j, hj⟩ := Option.isSome_iff_exists.1 (show (Try.prog.info? 43).isSome = true by kernel_rfl)
  have hjs : j.size ≠ 0 := by
    have h2 : (Try.prog.info? 43).map (·.size) = some 2 := by kernel_rfl
    rw [hj] at h2
    simp at h2
    omega
  have hu : Try.prog.underlying 40 = some (.pointer 43) := by kernel_rfl
  have hu2 : Try.prog.underlying 79 = some .unsafePointer := by kernel_rfl
  go_enter Try.func67, Try.ntmps67
  go_wp2
  rw [Lib.run_to_unsafe w ⟨b, 0, none⟩ hu hu2 hj hjs hsh hn]
  simp only [Result.andThen]
  rw [Oper.upon_value]
  go_wp2
  rw [run_callFunc_extern Try.func78 (by kernel_rfl) (by kernel_rfl) (by kernel_rfl) (e := Extern.AbiNoEscape.same) (by kernel_rfl)]
  rw [Lib.run_noEscape]
  simp only [Result.andThen]
  rw [Oper.upon_value]
  go_wp2
  rw [Lib.run_from_unsafe w ⟨b, 0, none⟩ hu2 hu hj hsh hl]
  simp only [Result.andThen]
  rw [Oper.upon_value]
  go_wp2
  go_end0
  exact ⟨rfl, rfl⟩
theorem fine (hP : NoCount Try.prog) : Fine Try.prog ann where
  count := hP
  ext := by
    intro f T h b C w hh hs hc
    have hf : f = 67 ∧ T = 43 := by
      have h1 : ann.ext f = bif Nat.beq f 67 then some 43 else none := by kernel_rfl
      rw [h1] at h
      cases hb : Nat.beq f 67 with
      | true => rw [hb] at h; rw [Nat.beq_eq] at hb; exact ⟨hb, (Option.some.inj h).symm⟩
      | false => rw [hb] at h; cases h
    obtain ⟨rfl, rfl⟩ := hf
    obtain ⟨h1, h2, h3⟩ := setCell_heap hh
    refine ⟨MuLone.run_callFunc_enter Try.func67 (hP _ _ Try.func67) (by kernel_rfl : Try.f67.body = some (bodyOf Try.prog 67)) _ _, ?_⟩
    have hc2 : Try.prog.cellsOf 43 = 2 := by kernel_rfl
    rcases hc with hc | hc
    · refine (copy_fresh b C.size w (by omega) (h3.trans hc) h1 h2 (by rw [hs, hc2]; kernel_rfl)).mono ?_
      rintro e w' ⟨rfl, rfl⟩
      exact ⟨rfl, .inr rfl⟩
    · refine (copy_used b w (h3.trans hc)).mono ?_
      rintro e w' ⟨rfl, rfl⟩
      exact ⟨rfl, .inl rfl⟩
  idle := by
    intro f h
    have hf : f = 60 := by
      have h1 : ann.idle f = Nat.beq f 60 := by kernel_rfl
      rw [h1, Nat.beq_eq] at h
      exact h
    subst hf
    exact ⟨MuLone.run_callFunc_enter Try.func60 (hP _ _ Try.func60) (by kernel_rfl : Try.f60.body = some (bodyOf Try.prog 60)), idle60⟩
end Go.AM

set_option maxRecDepth 100000
namespace Go.AM
open Go.Proofs
/-- Expressions. -/
inductive Ex where
  | node (op letter : Int) (kids : List Ex)
namespace Ex
def op : Ex → Int | .node o _ _ => o
def letter : Ex → Int | .node _ l _ => l
def kids : Ex → List Ex | .node _ _ ks => ks
theorem ind {p : Ex → Prop} (h : ∀ o l ks, (∀ k ∈ ks, p k) → p (.node o l ks)) : ∀ e, p e
  | .node o l ks => h o l ks fun k hk => ind h k
termination_by e => SizeOf.sizeOf e
decreasing_by
  have := List.sizeOf_lt_of_mem hk
  simp
  omega
mutual
def enc : Ex → V
  | .node o l ks => .agg [.int .i64 o, .int .i64 l, .list T_api_Expr (encs ks)]
def encs : List Ex → List V
  | [] => []
  | k :: ks => enc k :: encs ks
end
theorem encs_map : ∀ ks, encs ks = ks.map enc
  | [] => by simp only [encs, List.map_nil]
  | k :: ks => by simp only [encs, List.map_cons, encs_map ks]
theorem enc_eq (e : Ex) : e.enc = .agg [.int .i64 e.op, .int .i64 e.letter, .list T_api_Expr (e.kids.map enc)] := by
  cases e; simp only [enc, op, letter, kids, encs_map]
mutual
def size : Ex → Nat
  | .node _ _ ks => 1 + sizes ks
def sizes : List Ex → Nat
  | [] => 0
  | k :: ks => size k + sizes ks
end
mutual
def depth : Ex → Nat
  | .node _ _ ks => 1 + depths ks
def depths : List Ex → Nat
  | [] => 0
  | k :: ks => max (depth k) (depths ks)
end
theorem size_pos : ∀ e : Ex, 0 < e.size
  | .node _ _ ks => by simp only [size]; omega
theorem depth_pos : ∀ e : Ex, 0 < e.depth
  | .node _ _ ks => by simp only [depth]; omega
theorem depth_le_size : ∀ e : Ex, e.depth ≤ e.size := ind fun o l ks ih => by
  have : ∀ ks : List Ex, (∀ k ∈ ks, k.depth ≤ k.size) → depths ks ≤ sizes ks := by
    intro ks
    induction ks with
    | nil => intro _; simp only [depths, sizes]; omega
    | cons k ks ih =>
      intro h
      have h1 := h k (by simp)
      have h2 := ih fun k hk => h k (by simp [hk])
      simp only [depths, sizes]; omega
  have := this ks ih
  simp only [depth, size]; omega
/-- What is well typed. -/
inductive Ok : Ex → Prop
  | node {o l : Int} {ks : List Ex} : (-9223372036854775808 ≤ o ∧ o ≤ 9223372036854775807) → (-9223372036854775808 ≤ l ∧ l ≤ 9223372036854775807) → ks.length ≤ maxLen → (∀ k ∈ ks, Ok k) → Ok (.node o l ks)
theorem Ok.kid {o l : Int} {ks : List Ex} (h : Ok (.node o l ks)) : ∀ k ∈ ks, Ok k := by cases h; assumption
theorem Ok.len {o l : Int} {ks : List Ex} (h : Ok (.node o l ks)) : ks.length ≤ maxLen := by cases h; assumption
end Ex
open Ex
/-- The leaves of an expression handed on. -/
abbrev exA (e : Ex) (l : List V) : List V := .int .i64 e.op :: .int .i64 e.letter :: .list T_api_Expr (e.kids.map enc) :: l
theorem wt_ex : ∀ (n : Nat) (x : V), SizeOf.sizeOf x < n → WTv Try.prog T_api_Expr x → ∃ e : Ex, x = e.enc ∧ e.Ok
  | 0, x, h, _ => by omega
  | n + 1, x, h, hw => by
    obtain ⟨xs, rfl, hl, hx⟩ := hw.agg_inv (by kernel_rfl)
    have e1 : etys Try.prog T_api_Expr = [T_int, T_int, T_l_api_Expr] := by kernel_rfl
    rw [e1] at hl hx
    match xs, hl, hx, h with
    | [a, b, c], _, hx, h =>
      obtain ⟨o, rfl, ho⟩ := (hx 0 T_int a rfl rfl).int_inv (k := .i64) (by kernel_rfl)
      obtain ⟨l, rfl, hl⟩ := (hx 1 T_int b rfl rfl).int_inv (k := .i64) (by kernel_rfl)
      obtain ⟨es, rfl, he, hes⟩ := (hx 2 T_l_api_Expr c rfl rfl).list_inv (e := T_api_Expr) (by kernel_rfl)
      have : ∃ ks : List Ex, es = ks.map enc ∧ ∀ k ∈ ks, k.Ok := map_of_forallP fun y hy => wt_ex n y (by
        have := List.sizeOf_lt_of_mem hy
        simp at h
        omega) (hes y hy)
      obtain ⟨ks, rfl, hks⟩ := this
      refine ⟨.node o l ks, by rw [enc_eq]; rfl, .node ?_ ?_ (by simpa using he) hks⟩
      · exact ho
      · exact hl
end Go.AM

set_option maxRecDepth 100000
namespace Go.AM
open Go.Proofs
noncomputable abbrev B_expr_Validate : Code := bodyOf Try.prog (ann.fid 11)
noncomputable def LT_expr_Validate (C : CallF) : LTab := fun β n ds k =>
  none
noncomputable def f_expr_Validate (C : CallF) (e_0 e_1 : Int) (e_2 : List V) (letters : Int) : Option (List V) :=
  bif decide ((letters : Int) < 1) then
   some [.int .i64 1]
  else
   bif decide ((letters : Int) > 6) then
    some [.int .i64 1]
   else
    (C F_expr_withinLimits [.int .i64 e_0, .int .i64 e_1, .list T_api_Expr e_2]).bind fun r1 =>
    bif !((V.nth r1 0).toBool) then
     some [.int .i64 3]
    else
     (C F_expr_wellFormed [.int .i64 e_0, .int .i64 e_1, .list T_api_Expr e_2, .int .i64 letters]).bind fun r2 =>
     bif !((V.nth r2 0).toBool) then
      some [.int .i64 4]
     else
      some [.int .i64 0]
theorem f_expr_Validate_eq (C : CallF) (e_0 e_1 : Int) (e_2 : List V) (letters : Int) : bodyT Try.prog ann C (LT_expr_Validate C) 11 [.int .i64 e_0, .int .i64 e_1, .list T_api_Expr e_2, .int .i64 letters] = f_expr_Validate C e_0 e_1 e_2 letters := by kernel_rfl
theorem f_expr_Validate_of {e_0 e_1 : Int} {e_2 : List V} {letters : Int} {r : Option (List V)} (h : f_expr_Validate CC e_0 e_1 e_2 letters = r) : CC F_expr_Validate [.int .i64 e_0, .int .i64 e_1, .list T_api_Expr e_2, .int .i64 letters] = r :=
  func_of (key := 11) (L := LT_expr_Validate CC) (bs := []) (by kernel_rfl) tells_nil ((f_expr_Validate_eq CC e_0 e_1 e_2 letters).trans h)
end Go.AM

set_option maxRecDepth 100000
namespace Go.AM
open Go.Proofs
noncomputable abbrev B_expr_withinLimits : Code := bodyOf Try.prog (ann.fid 34)
noncomputable def LT_expr_withinLimits (C : CallF) : LTab := fun β n ds k =>
  none
noncomputable def f_expr_withinLimits (C : CallF) (e_0 e_1 : Int) (e_2 : List V) : Option (List V) :=
  (C F_expr_fits [.int .i64 e_0, .int .i64 e_1, .list T_api_Expr e_2, .int .i64 40, .int .i64 400]).bind fun r1 =>
  some [.bool ((V.nth r1 0).toBool)]
theorem f_expr_withinLimits_eq (C : CallF) (e_0 e_1 : Int) (e_2 : List V) : bodyT Try.prog ann C (LT_expr_withinLimits C) 34 [.int .i64 e_0, .int .i64 e_1, .list T_api_Expr e_2] = f_expr_withinLimits C e_0 e_1 e_2 := by kernel_rfl
theorem f_expr_withinLimits_of {e_0 e_1 : Int} {e_2 : List V} {r : Option (List V)} (h : f_expr_withinLimits CC e_0 e_1 e_2 = r) : CC F_expr_withinLimits [.int .i64 e_0, .int .i64 e_1, .list T_api_Expr e_2] = r :=
  func_of (key := 34) (L := LT_expr_withinLimits CC) (bs := []) (by kernel_rfl) tells_nil ((f_expr_withinLimits_eq CC e_0 e_1 e_2).trans h)
end Go.AM

set_option maxRecDepth 100000
namespace Go.AM
open Go.Proofs
noncomputable abbrev B_expr_fits : Code := bodyOf Try.prog (ann.fid 56)
noncomputable def s_expr_fits_1 (C : CallF) (depth : Int) (t23 : List V) (t24 t25 lefts : Int) {β : Type} (kn : (Int × Int) → Option β) (kr : ((Bool × Int) ⊕ (Int × Bool × Int)) → Option β) : Option β :=
  bif decide ((t25 : Int) < t24) then
   (idx t23 t25).bind fun x1 =>
   (C F_expr_fits [.int .i64 ((x1.cell 0).toInt), .int .i64 ((x1.cell 1).toInt), .list T_api_Expr ((x1.cell 2).toList), .int .i64 (IntKind.wrap .i64 (depth - 1)), .int .i64 lefts]).bind fun r2 =>
   bif !((V.nth r2 0).toBool) then
    kr (.inl (false, (V.nth (r2.drop 1) 0).toInt))
   else
    kn (IntKind.wrap .i64 (t25 + 1), (V.nth (r2.drop 1) 0).toInt)
  else
   kr (.inr (t25, decide ((t25 : Int) < t24), lefts))
noncomputable def s_expr_fits_1L (C : CallF) (depth : Int) (t23 : List V) (t24 : Int) : (Int × Int) → Option ((Int × Int) ⊕ ((Bool × Int) ⊕ (Int × Bool × Int))) := un fun t25 lefts => s_expr_fits_1 C depth t23 t24 t25 lefts (fun y => some (.inl y)) (fun r => some (.inr r))
def w_expr_fits_1 (depth : Int) (t23 : List V) (t24 : Int) (β : Type) (k : Nat → List V → Option β) : ((Bool × Int) ⊕ (Int × Bool × Int)) → Option β := (way2 (un fun (v0 : Bool) (v1 : Int) => k 0 [.bool v0, .int .i64 v1]) (un fun (v3 : Int) => un fun (v4 : Bool) (v5 : Int) => k 1 [.int .i64 depth, .list T_api_Expr t23, .int .i64 t24, .int .i64 v3, .bool v4, .int .i64 v5]))
noncomputable def l_expr_fits_1 (C : CallF) (β : Type) (ds : List V) (k : Nat → List V → Option β) : Option β :=
  (Loop (s_expr_fits_1L C ((V.nth ds 0).toInt) ((V.nth (ds.drop 1) 0).toList) ((V.nth ((ds.drop 1).drop 1) 0).toInt)) ((V.nth (((ds.drop 1).drop 1).drop 1) 0).toInt, (V.nth (ds.drop 4) 0).toInt)).bind (w_expr_fits_1 ((V.nth ds 0).toInt) ((V.nth (ds.drop 1) 0).toList) ((V.nth ((ds.drop 1).drop 1) 0).toInt) β k)
noncomputable def LT_expr_fits (C : CallF) : LTab := fun β n ds k =>
  bif Nat.beq n 81 then l_expr_fits_1 C β ds k else
  none
theorem t_expr_fits_1 (C : CallF) : Tells Try.prog ann C (LT_expr_fits C) 56 (ntmpsOf Try.prog (ann.fid 56)) (ann.sin 56).blks.length (.loop (codeAt [1, 1, 1, 0, 1, 0, 0] B_expr_fits)) :=
  tells_loop2 (I := Int × (List V) × Int) (X := Int × Int) (R := (Bool × Int) ⊕ (Int × Bool × Int)) (S := (⟨[(1, .one (.int .i64)), (2, .one (.ptrC 0 0 0)), (23, .one (.list T_api_Expr)), (24, .one (.int .i64)), (25, .one (.int .i64))], [.var 3 [.one (.int .i64)]]⟩, [(.ret, ⟨[(6, .one (.bool))], [.var 3 [.one (.int .i64)]]⟩), (.exit 0, ⟨[(1, .one (.int .i64)), (2, .one (.ptrC 0 0 0)), (23, .one (.list T_api_Expr)), (24, .one (.int .i64)), (25, .one (.int .i64)), (26, .one (.bool))], [.var 3 [.one (.int .i64)]]⟩)])) (by kernel_rfl) (ltok_of (bs := []) (by kernel_rfl) tells_nil)
    (un fun (depth : Int) => un fun (t23 : List V) (t24 : Int) => (un fun (t25 : Int) (lefts : Int) => [.int .i64 depth, .list T_api_Expr t23, .int .i64 t24, .int .i64 t25, .int .i64 lefts] : (Int × Int) → List V)) (un fun (depth : Int) => un fun (t23 : List V) (t24 : Int) => w_expr_fits_1 depth t23 t24)
    (fun ds => ((V.nth ds 0).toInt, (V.nth (ds.drop 1) 0).toList, (V.nth ((ds.drop 1).drop 1) 0).toInt)) (fun ds => ((V.nth (((ds.drop 1).drop 1).drop 1) 0).toInt, (V.nth (ds.drop 4) 0).toInt)) (fun e => bif Nat.beq e.1 0 then (.inl ((V.nth e.2 0).toBool, (V.nth (e.2.drop 1) 0).toInt)) else (.inr ((V.nth (((e.2.drop 1).drop 1).drop 1) 0).toInt, (V.nth ((((e.2.drop 1).drop 1).drop 1).drop 1) 0).toBool, (V.nth (e.2.drop 5) 0).toInt)))
    (un fun (depth : Int) => un fun (t23 : List V) (t24 : Int) => (un fun (t25 : Int) (lefts : Int) => fun β kn kr => s_expr_fits_1 C depth t23 t24 t25 lefts kn kr : (Int × Int) → (β : Type) → ((Int × Int) → Option β) → (((Bool × Int) ⊕ (Int × Bool × Int)) → Option β) → Option β))
    (l_expr_fits_1 C) (fun ds => by kernel_rfl) (fun i x => by kernel_rfl) (fun i r => by rcases r with r | r <;> kernel_rfl)
    (fun i x β k => by kernel_rfl) (fun β ds k => by kernel_rfl) (fun β ds k => by kernel_rfl) (fun i β k r => by rcases r with r | r <;> kernel_rfl)
noncomputable def f_expr_fits (C : CallF) (e_0 e_1 : Int) (e_2 : List V) (depth lefts : Int) : Option (List V) :=
  bif (depth : Int) == 0 then
   some [.bool false, .int .i64 lefts]
  else
   bif (lefts : Int) == 0 then
    some [.bool false, .int .i64 lefts]
   else
    (Loop (s_expr_fits_1L C depth e_2 (e_2.length : Int)) (0, IntKind.wrap .i64 (lefts - 1))).bind (way2 (un fun (t_3 : Bool) (b_4 : Int) =>
      some [.bool t_3, .int .i64 b_4]) (un fun (t_5 : Int) => un fun (t_6 : Bool) (lefts_7 : Int) =>
      some [.bool true, .int .i64 lefts_7]))
theorem f_expr_fits_eq (C : CallF) (e_0 e_1 : Int) (e_2 : List V) (depth lefts : Int) : bodyT Try.prog ann C (LT_expr_fits C) 56 [.int .i64 e_0, .int .i64 e_1, .list T_api_Expr e_2, .int .i64 depth, .int .i64 lefts] = f_expr_fits C e_0 e_1 e_2 depth lefts := by kernel_rfl
theorem f_expr_fits_of {e_0 e_1 : Int} {e_2 : List V} {depth lefts : Int} {r : Option (List V)} (h : f_expr_fits CC e_0 e_1 e_2 depth lefts = r) : CC F_expr_fits [.int .i64 e_0, .int .i64 e_1, .list T_api_Expr e_2, .int .i64 depth, .int .i64 lefts] = r :=
  func_of (key := 56) (L := LT_expr_fits CC) (bs := [.loop (codeAt [1, 1, 1, 0, 1, 0, 0] B_expr_fits)]) (by kernel_rfl) (tells_cons (t_expr_fits_1 CC) tells_nil) ((f_expr_fits_eq CC e_0 e_1 e_2 depth lefts).trans h)
end Go.AM

set_option maxRecDepth 100000
namespace Go.AM
open Go.Proofs
noncomputable abbrev B_expr_wellFormed : Code := bodyOf Try.prog (ann.fid 35)
noncomputable def s_expr_wellFormed_1 (C : CallF) (letters : Int) (t53 : List V) (t54 t55 : Int) {β : Type} (kn : Int → Option β) (kr : ((Bool) ⊕ (Int × Bool)) → Option β) : Option β :=
  bif decide ((t55 : Int) < t54) then
   (idx t53 t55).bind fun x1 =>
   (C F_expr_wellFormed [.int .i64 ((x1.cell 0).toInt), .int .i64 ((x1.cell 1).toInt), .list T_api_Expr ((x1.cell 2).toList), .int .i64 letters]).bind fun r2 =>
   bif !((V.nth r2 0).toBool) then
    kr (.inl false)
   else
    kn (IntKind.wrap .i64 (t55 + 1))
  else
   kr (.inr (t55, decide ((t55 : Int) < t54)))
noncomputable def s_expr_wellFormed_1L (C : CallF) (letters : Int) (t53 : List V) (t54 : Int) : (Int) → Option ((Int) ⊕ ((Bool) ⊕ (Int × Bool))) := fun t55 => s_expr_wellFormed_1 C letters t53 t54 t55 (fun y => some (.inl y)) (fun r => some (.inr r))
def w_expr_wellFormed_1 (letters : Int) (t53 : List V) (t54 : Int) (β : Type) (k : Nat → List V → Option β) : ((Bool) ⊕ (Int × Bool)) → Option β := (way2 (fun (v0 : Bool) => k 0 [.bool v0]) (un fun (v3 : Int) (v4 : Bool) => k 1 [.int .i64 letters, .list T_api_Expr t53, .int .i64 t54, .int .i64 v3, .bool v4]))
noncomputable def l_expr_wellFormed_1 (C : CallF) (β : Type) (ds : List V) (k : Nat → List V → Option β) : Option β :=
  (Loop (s_expr_wellFormed_1L C ((V.nth ds 0).toInt) ((V.nth (ds.drop 1) 0).toList) ((V.nth ((ds.drop 1).drop 1) 0).toInt)) ((V.nth (((ds.drop 1).drop 1).drop 1) 0).toInt)).bind (w_expr_wellFormed_1 ((V.nth ds 0).toInt) ((V.nth (ds.drop 1) 0).toList) ((V.nth ((ds.drop 1).drop 1) 0).toInt) β k)
noncomputable def LT_expr_wellFormed (C : CallF) : LTab := fun β n ds k =>
  bif Nat.beq n 321 then l_expr_wellFormed_1 C β ds k else
  none
theorem t_expr_wellFormed_1 (C : CallF) : Tells Try.prog ann C (LT_expr_wellFormed C) 35 (ntmpsOf Try.prog (ann.fid 35)) (ann.sin 35).blks.length (.loop (codeAt [1, 1, 1, 1, 0, 1, 0, 0] B_expr_wellFormed)) :=
  tells_loop2 (I := Int × (List V) × Int) (X := Int) (R := (Bool) ⊕ (Int × Bool)) (S := (⟨[(1, .one (.int .i64)), (53, .one (.list T_api_Expr)), (54, .one (.int .i64)), (55, .one (.int .i64))], []⟩, [(.ret, ⟨[(4, .one (.bool))], []⟩), (.exit 1, ⟨[(1, .one (.int .i64)), (53, .one (.list T_api_Expr)), (54, .one (.int .i64)), (55, .one (.int .i64)), (56, .one (.bool))], []⟩)])) (by kernel_rfl) (ltok_of (bs := []) (by kernel_rfl) tells_nil)
    (un fun (letters : Int) => un fun (t53 : List V) (t54 : Int) => (fun (t55 : Int) => [.int .i64 letters, .list T_api_Expr t53, .int .i64 t54, .int .i64 t55] : (Int) → List V)) (un fun (letters : Int) => un fun (t53 : List V) (t54 : Int) => w_expr_wellFormed_1 letters t53 t54)
    (fun ds => ((V.nth ds 0).toInt, (V.nth (ds.drop 1) 0).toList, (V.nth ((ds.drop 1).drop 1) 0).toInt)) (fun ds => ((V.nth (((ds.drop 1).drop 1).drop 1) 0).toInt)) (fun e => bif Nat.beq e.1 0 then (.inl ((V.nth e.2 0).toBool)) else (.inr ((V.nth (((e.2.drop 1).drop 1).drop 1) 0).toInt, (V.nth ((((e.2.drop 1).drop 1).drop 1).drop 1) 0).toBool)))
    (un fun (letters : Int) => un fun (t53 : List V) (t54 : Int) => (fun (t55 : Int) => fun β kn kr => s_expr_wellFormed_1 C letters t53 t54 t55 kn kr : (Int) → (β : Type) → ((Int) → Option β) → (((Bool) ⊕ (Int × Bool)) → Option β) → Option β))
    (l_expr_wellFormed_1 C) (fun ds => by kernel_rfl) (fun i x => by kernel_rfl) (fun i r => by rcases r with r | r <;> kernel_rfl)
    (fun i x β k => by kernel_rfl) (fun β ds k => by kernel_rfl) (fun β ds k => by kernel_rfl) (fun i β k r => by rcases r with r | r <;> kernel_rfl)
noncomputable def f_expr_wellFormed (C : CallF) (e_0 e_1 : Int) (e_2 : List V) (letters : Int) : Option (List V) :=
  bif (e_0 : Int) == 3 then
   bif ((e_2.length : Int) : Int) == 0 then
    bif decide ((e_1 : Int) ≥ 0) then
     some [.bool (decide ((e_1 : Int) < letters))]
    else
     some [.bool false]
   else
    some [.bool false]
  else
   bif (e_1 : Int) != 0 then
    some [.bool false]
   else
    bif (e_0 : Int) == 1 then
     bif (e_0 : Int) == 1 then
      some [.bool (((e_2.length : Int) : Int) == 0)]
     else
      bif (e_0 : Int) == 4 then
       bif (e_0 : Int) == 4 then
        bif decide (((e_2.length : Int) : Int) < 2) then
         some [.bool false]
        else
         (Loop (s_expr_wellFormed_1L C letters e_2 (e_2.length : Int)) 0).bind (way2 (fun (t_3 : Bool) =>
           some [.bool t_3]) (un fun (t_4 : Int) (t_5 : Bool) =>
           some [.bool true]))
       else
        bif (e_0 : Int) == 7 then
         bif (e_0 : Int) == 7 then
          bif ((e_2.length : Int) : Int) != 1 then
           some [.bool false]
          else
           (Loop (s_expr_wellFormed_1L C letters e_2 (e_2.length : Int)) 0).bind (way2 (fun (t_6 : Bool) =>
             some [.bool t_6]) (un fun (t_7 : Int) (t_8 : Bool) =>
             some [.bool true]))
         else
          some [.bool false]
        else
         bif (e_0 : Int) == 8 then
          bif ((e_2.length : Int) : Int) != 1 then
           some [.bool false]
          else
           (Loop (s_expr_wellFormed_1L C letters e_2 (e_2.length : Int)) 0).bind (way2 (fun (t_9 : Bool) =>
             some [.bool t_9]) (un fun (t_10 : Int) (t_11 : Bool) =>
             some [.bool true]))
         else
          some [.bool false]
      else
       bif (e_0 : Int) == 5 then
        bif (e_0 : Int) == 5 then
         bif decide (((e_2.length : Int) : Int) < 2) then
          some [.bool false]
         else
          (Loop (s_expr_wellFormed_1L C letters e_2 (e_2.length : Int)) 0).bind (way2 (fun (t_12 : Bool) =>
            some [.bool t_12]) (un fun (t_13 : Int) (t_14 : Bool) =>
            some [.bool true]))
        else
         bif (e_0 : Int) == 7 then
          bif (e_0 : Int) == 7 then
           bif ((e_2.length : Int) : Int) != 1 then
            some [.bool false]
           else
            (Loop (s_expr_wellFormed_1L C letters e_2 (e_2.length : Int)) 0).bind (way2 (fun (t_15 : Bool) =>
              some [.bool t_15]) (un fun (t_16 : Int) (t_17 : Bool) =>
              some [.bool true]))
          else
           some [.bool false]
         else
          bif (e_0 : Int) == 8 then
           bif ((e_2.length : Int) : Int) != 1 then
            some [.bool false]
           else
            (Loop (s_expr_wellFormed_1L C letters e_2 (e_2.length : Int)) 0).bind (way2 (fun (t_18 : Bool) =>
              some [.bool t_18]) (un fun (t_19 : Int) (t_20 : Bool) =>
              some [.bool true]))
          else
           some [.bool false]
       else
        bif (e_0 : Int) == 6 then
         bif decide (((e_2.length : Int) : Int) < 2) then
          some [.bool false]
         else
          (Loop (s_expr_wellFormed_1L C letters e_2 (e_2.length : Int)) 0).bind (way2 (fun (t_21 : Bool) =>
            some [.bool t_21]) (un fun (t_22 : Int) (t_23 : Bool) =>
            some [.bool true]))
        else
         bif (e_0 : Int) == 7 then
          bif (e_0 : Int) == 7 then
           bif ((e_2.length : Int) : Int) != 1 then
            some [.bool false]
           else
            (Loop (s_expr_wellFormed_1L C letters e_2 (e_2.length : Int)) 0).bind (way2 (fun (t_24 : Bool) =>
              some [.bool t_24]) (un fun (t_25 : Int) (t_26 : Bool) =>
              some [.bool true]))
          else
           some [.bool false]
         else
          bif (e_0 : Int) == 8 then
           bif ((e_2.length : Int) : Int) != 1 then
            some [.bool false]
           else
            (Loop (s_expr_wellFormed_1L C letters e_2 (e_2.length : Int)) 0).bind (way2 (fun (t_27 : Bool) =>
              some [.bool t_27]) (un fun (t_28 : Int) (t_29 : Bool) =>
              some [.bool true]))
          else
           some [.bool false]
    else
     bif (e_0 : Int) == 2 then
      some [.bool (((e_2.length : Int) : Int) == 0)]
     else
      bif (e_0 : Int) == 4 then
       bif (e_0 : Int) == 4 then
        bif decide (((e_2.length : Int) : Int) < 2) then
         some [.bool false]
        else
         (Loop (s_expr_wellFormed_1L C letters e_2 (e_2.length : Int)) 0).bind (way2 (fun (t_30 : Bool) =>
           some [.bool t_30]) (un fun (t_31 : Int) (t_32 : Bool) =>
           some [.bool true]))
       else
        bif (e_0 : Int) == 7 then
         bif (e_0 : Int) == 7 then
          bif ((e_2.length : Int) : Int) != 1 then
           some [.bool false]
          else
           (Loop (s_expr_wellFormed_1L C letters e_2 (e_2.length : Int)) 0).bind (way2 (fun (t_33 : Bool) =>
             some [.bool t_33]) (un fun (t_34 : Int) (t_35 : Bool) =>
             some [.bool true]))
         else
          some [.bool false]
        else
         bif (e_0 : Int) == 8 then
          bif ((e_2.length : Int) : Int) != 1 then
           some [.bool false]
          else
           (Loop (s_expr_wellFormed_1L C letters e_2 (e_2.length : Int)) 0).bind (way2 (fun (t_36 : Bool) =>
             some [.bool t_36]) (un fun (t_37 : Int) (t_38 : Bool) =>
             some [.bool true]))
         else
          some [.bool false]
      else
       bif (e_0 : Int) == 5 then
        bif (e_0 : Int) == 5 then
         bif decide (((e_2.length : Int) : Int) < 2) then
          some [.bool false]
         else
          (Loop (s_expr_wellFormed_1L C letters e_2 (e_2.length : Int)) 0).bind (way2 (fun (t_39 : Bool) =>
            some [.bool t_39]) (un fun (t_40 : Int) (t_41 : Bool) =>
            some [.bool true]))
        else
         bif (e_0 : Int) == 7 then
          bif (e_0 : Int) == 7 then
           bif ((e_2.length : Int) : Int) != 1 then
            some [.bool false]
           else
            (Loop (s_expr_wellFormed_1L C letters e_2 (e_2.length : Int)) 0).bind (way2 (fun (t_42 : Bool) =>
              some [.bool t_42]) (un fun (t_43 : Int) (t_44 : Bool) =>
              some [.bool true]))
          else
           some [.bool false]
         else
          bif (e_0 : Int) == 8 then
           bif ((e_2.length : Int) : Int) != 1 then
            some [.bool false]
           else
            (Loop (s_expr_wellFormed_1L C letters e_2 (e_2.length : Int)) 0).bind (way2 (fun (t_45 : Bool) =>
              some [.bool t_45]) (un fun (t_46 : Int) (t_47 : Bool) =>
              some [.bool true]))
          else
           some [.bool false]
       else
        bif (e_0 : Int) == 6 then
         bif decide (((e_2.length : Int) : Int) < 2) then
          some [.bool false]
         else
          (Loop (s_expr_wellFormed_1L C letters e_2 (e_2.length : Int)) 0).bind (way2 (fun (t_48 : Bool) =>
            some [.bool t_48]) (un fun (t_49 : Int) (t_50 : Bool) =>
            some [.bool true]))
        else
         bif (e_0 : Int) == 7 then
          bif (e_0 : Int) == 7 then
           bif ((e_2.length : Int) : Int) != 1 then
            some [.bool false]
           else
            (Loop (s_expr_wellFormed_1L C letters e_2 (e_2.length : Int)) 0).bind (way2 (fun (t_51 : Bool) =>
              some [.bool t_51]) (un fun (t_52 : Int) (t_53 : Bool) =>
              some [.bool true]))
          else
           some [.bool false]
         else
          bif (e_0 : Int) == 8 then
           bif ((e_2.length : Int) : Int) != 1 then
            some [.bool false]
           else
            (Loop (s_expr_wellFormed_1L C letters e_2 (e_2.length : Int)) 0).bind (way2 (fun (t_54 : Bool) =>
              some [.bool t_54]) (un fun (t_55 : Int) (t_56 : Bool) =>
              some [.bool true]))
          else
           some [.bool false]
theorem f_expr_wellFormed_eq (C : CallF) (e_0 e_1 : Int) (e_2 : List V) (letters : Int) : bodyT Try.prog ann C (LT_expr_wellFormed C) 35 [.int .i64 e_0, .int .i64 e_1, .list T_api_Expr e_2, .int .i64 letters] = f_expr_wellFormed C e_0 e_1 e_2 letters := by kernel_rfl
theorem f_expr_wellFormed_of {e_0 e_1 : Int} {e_2 : List V} {letters : Int} {r : Option (List V)} (h : f_expr_wellFormed CC e_0 e_1 e_2 letters = r) : CC F_expr_wellFormed [.int .i64 e_0, .int .i64 e_1, .list T_api_Expr e_2, .int .i64 letters] = r :=
  func_of (key := 35) (L := LT_expr_wellFormed CC) (bs := [.loop (codeAt [1, 1, 1, 1, 0, 1, 0, 0] B_expr_wellFormed)]) (by kernel_rfl) (tells_cons (t_expr_wellFormed_1 CC) tells_nil) ((f_expr_wellFormed_eq CC e_0 e_1 e_2 letters).trans h)
end Go.AM

set_option maxRecDepth 100000
namespace Go.AM
open Go.Proofs
noncomputable abbrev B_semigroupref04_Validate : Code := bodyOf Try.prog (ann.fid 12)
noncomputable def LT_semigroupref04_Validate (C : CallF) : LTab := fun β n ds k =>
  none
noncomputable def f_semigroupref04_Validate (C : CallF) (e_0 e_1 : Int) (e_2 : List V) (letters : Int) : Option (List V) :=
  (C F_semigroupref01_MayLetters [.int .i64 letters]).bind fun r1 =>
  bif !((V.nth r1 0).toBool) then
   some [.int .i64 1]
  else
   (C F_semigroupref04_Within [.int .i64 e_0, .int .i64 e_1, .list T_api_Expr e_2]).bind fun r2 =>
   bif !((V.nth r2 0).toBool) then
    some [.int .i64 3]
   else
    (C F_semigroupref04_shaped [.int .i64 e_0, .int .i64 e_1, .list T_api_Expr e_2, .int .i64 letters]).bind fun r3 =>
    bif !((V.nth r3 0).toBool) then
     some [.int .i64 4]
    else
     some [.int .i64 0]
theorem f_semigroupref04_Validate_eq (C : CallF) (e_0 e_1 : Int) (e_2 : List V) (letters : Int) : bodyT Try.prog ann C (LT_semigroupref04_Validate C) 12 [.int .i64 e_0, .int .i64 e_1, .list T_api_Expr e_2, .int .i64 letters] = f_semigroupref04_Validate C e_0 e_1 e_2 letters := by kernel_rfl
theorem f_semigroupref04_Validate_of {e_0 e_1 : Int} {e_2 : List V} {letters : Int} {r : Option (List V)} (h : f_semigroupref04_Validate CC e_0 e_1 e_2 letters = r) : CC F_semigroupref04_Validate [.int .i64 e_0, .int .i64 e_1, .list T_api_Expr e_2, .int .i64 letters] = r :=
  func_of (key := 12) (L := LT_semigroupref04_Validate CC) (bs := []) (by kernel_rfl) tells_nil ((f_semigroupref04_Validate_eq CC e_0 e_1 e_2 letters).trans h)
end Go.AM

set_option maxRecDepth 100000
namespace Go.AM
open Go.Proofs
noncomputable abbrev B_semigroupref04_Within : Code := bodyOf Try.prog (ann.fid 37)
noncomputable def LT_semigroupref04_Within (C : CallF) : LTab := fun β n ds k =>
  none
noncomputable def f_semigroupref04_Within (C : CallF) (e_0 e_1 : Int) (e_2 : List V) : Option (List V) :=
  (C F_semigroupref04_measure [.int .i64 e_0, .int .i64 e_1, .list T_api_Expr e_2, .int .i64 400]).bind fun r1 =>
  bif decide ((((V.nth r1 0).toInt) : Int) ≤ 400) then
   some [.bool (decide ((((V.nth (r1.drop 1) 0).toInt) : Int) ≤ 40))]
  else
   some [.bool false]
theorem f_semigroupref04_Within_eq (C : CallF) (e_0 e_1 : Int) (e_2 : List V) : bodyT Try.prog ann C (LT_semigroupref04_Within C) 37 [.int .i64 e_0, .int .i64 e_1, .list T_api_Expr e_2] = f_semigroupref04_Within C e_0 e_1 e_2 := by kernel_rfl
theorem f_semigroupref04_Within_of {e_0 e_1 : Int} {e_2 : List V} {r : Option (List V)} (h : f_semigroupref04_Within CC e_0 e_1 e_2 = r) : CC F_semigroupref04_Within [.int .i64 e_0, .int .i64 e_1, .list T_api_Expr e_2] = r :=
  func_of (key := 37) (L := LT_semigroupref04_Within CC) (bs := []) (by kernel_rfl) tells_nil ((f_semigroupref04_Within_eq CC e_0 e_1 e_2).trans h)
end Go.AM

set_option maxRecDepth 100000
namespace Go.AM
open Go.Proofs
noncomputable abbrev B_semigroupref04_measure : Code := bodyOf Try.prog (ann.fid 51)
noncomputable def s_semigroupref04_measure_1 (C : CallF) (most es_0 es_1 : Int) (es_2 : List V) (n deep i : Int) {β : Type} (kn : (Int × Int × Int) → Option β) (kr : (Int × Int × Int × Bool) → Option β) : Option β :=
  bif decide ((i : Int) < (es_2.length : Int)) then
   bif decide ((n : Int) ≤ most) then
    (idx es_2 i).bind fun x1 =>
    (C F_semigroupref04_measure [.int .i64 ((x1.cell 0).toInt), .int .i64 ((x1.cell 1).toInt), .list T_api_Expr ((x1.cell 2).toList), .int .i64 most]).bind fun r2 =>
    kn (if (IntKind.wrap .i64 (most + 1)) < (IntKind.wrap .i64 (n + ((V.nth r2 0).toInt))) then (IntKind.wrap .i64 (most + 1)) else (IntKind.wrap .i64 (n + ((V.nth r2 0).toInt))), if ((V.nth (r2.drop 1) 0).toInt) > deep then ((V.nth (r2.drop 1) 0).toInt) else deep, IntKind.wrap .i64 (i + 1))
   else
    kr (n, deep, i, decide ((n : Int) ≤ most))
  else
   kr (n, deep, i, false)
noncomputable def s_semigroupref04_measure_1L (C : CallF) (most es_0 es_1 : Int) (es_2 : List V) : (Int × Int × Int) → Option ((Int × Int × Int) ⊕ (Int × Int × Int × Bool)) := un fun n => un fun deep i => s_semigroupref04_measure_1 C most es_0 es_1 es_2 n deep i (fun y => some (.inl y)) (fun r => some (.inr r))
def w_semigroupref04_measure_1 (most es_0 es_1 : Int) (es_2 : List V) (β : Type) (k : Nat → List V → Option β) : (Int × Int × Int × Bool) → Option β := (un fun (v1 : Int) => un fun (v2 : Int) => un fun (v3 : Int) (v4 : Bool) => k 0 [.int .i64 most, .int .i64 v1, .int .i64 v2, .int .i64 v3, .bool v4, .int .i64 es_0, .int .i64 es_1, .list T_api_Expr es_2])
noncomputable def l_semigroupref04_measure_1 (C : CallF) (β : Type) (ds : List V) (k : Nat → List V → Option β) : Option β :=
  (Loop (s_semigroupref04_measure_1L C ((V.nth ds 0).toInt) ((V.nth (ds.drop 4) 0).toInt) ((V.nth ((ds.drop 4).drop 1) 0).toInt) ((V.nth (((ds.drop 4).drop 1).drop 1) 0).toList)) ((V.nth (ds.drop 1) 0).toInt, (V.nth ((ds.drop 1).drop 1) 0).toInt, (V.nth (((ds.drop 1).drop 1).drop 1) 0).toInt)).bind (w_semigroupref04_measure_1 ((V.nth ds 0).toInt) ((V.nth (ds.drop 4) 0).toInt) ((V.nth ((ds.drop 4).drop 1) 0).toInt) ((V.nth (((ds.drop 4).drop 1).drop 1) 0).toList) β k)
noncomputable def LT_semigroupref04_measure (C : CallF) : LTab := fun β n ds k =>
  bif Nat.beq n 49 then l_semigroupref04_measure_1 C β ds k else
  none
theorem t_semigroupref04_measure_1 (C : CallF) : Tells Try.prog ann C (LT_semigroupref04_measure C) 51 (ntmpsOf Try.prog (ann.fid 51)) (ann.sin 51).blks.length (.loop (codeAt [1, 1, 0, 1, 0, 0] B_semigroupref04_measure)) :=
  tells_loop2 (I := Int × Int × Int × (List V)) (X := Int × Int × Int) (R := Int × Int × Int × Bool) (S := (⟨[(1, .one (.int .i64)), (2, .one (.ptrC 0 0 0)), (6, .one (.int .i64)), (7, .one (.int .i64)), (8, .one (.int .i64))], [.var 24 [.one (.int .i64), .one (.int .i64), .one (.list T_api_Expr)]]⟩, [(.exit 0, ⟨[(1, .one (.int .i64)), (2, .one (.ptrC 0 0 0)), (6, .one (.int .i64)), (7, .one (.int .i64)), (8, .one (.int .i64)), (20, .one (.bool))], [.var 24 [.one (.int .i64), .one (.int .i64), .one (.list T_api_Expr)]]⟩)])) (by kernel_rfl) (ltok_of (bs := []) (by kernel_rfl) tells_nil)
    (un fun (most : Int) => un fun (es_0 : Int) => un fun (es_1 : Int) (es_2 : List V) => (un fun (n : Int) => un fun (deep : Int) (i : Int) => [.int .i64 most, .int .i64 n, .int .i64 deep, .int .i64 i, .int .i64 es_0, .int .i64 es_1, .list T_api_Expr es_2] : (Int × Int × Int) → List V)) (un fun (most : Int) => un fun (es_0 : Int) => un fun (es_1 : Int) (es_2 : List V) => w_semigroupref04_measure_1 most es_0 es_1 es_2)
    (fun ds => ((V.nth ds 0).toInt, (V.nth (ds.drop 4) 0).toInt, (V.nth ((ds.drop 4).drop 1) 0).toInt, (V.nth (((ds.drop 4).drop 1).drop 1) 0).toList)) (fun ds => ((V.nth (ds.drop 1) 0).toInt, (V.nth ((ds.drop 1).drop 1) 0).toInt, (V.nth (((ds.drop 1).drop 1).drop 1) 0).toInt)) (fun e => ((V.nth (e.2.drop 1) 0).toInt, (V.nth ((e.2.drop 1).drop 1) 0).toInt, (V.nth (((e.2.drop 1).drop 1).drop 1) 0).toInt, (V.nth ((((e.2.drop 1).drop 1).drop 1).drop 1) 0).toBool))
    (un fun (most : Int) => un fun (es_0 : Int) => un fun (es_1 : Int) (es_2 : List V) => (un fun (n : Int) => un fun (deep : Int) (i : Int) => fun β kn kr => s_semigroupref04_measure_1 C most es_0 es_1 es_2 n deep i kn kr : (Int × Int × Int) → (β : Type) → ((Int × Int × Int) → Option β) → ((Int × Int × Int × Bool) → Option β) → Option β))
    (l_semigroupref04_measure_1 C) (fun ds => by kernel_rfl) (fun i x => by kernel_rfl) (fun i r => by skip <;> kernel_rfl)
    (fun i x β k => by kernel_rfl) (fun β ds k => by kernel_rfl) (fun β ds k => by kernel_rfl) (fun i β k r => by skip <;> kernel_rfl)
noncomputable def f_semigroupref04_measure (C : CallF) (e_0 e_1 : Int) (e_2 : List V) (most : Int) : Option (List V) :=
  (Loop (s_semigroupref04_measure_1L C most e_0 e_1 e_2) (1, 0, 0)).bind (un fun (n_3 : Int) => un fun (deep_4 : Int) => un fun (i_5 : Int) (t_6 : Bool) =>
    some [.int .i64 n_3, .int .i64 (IntKind.wrap .i64 (deep_4 + 1))])
theorem f_semigroupref04_measure_eq (C : CallF) (e_0 e_1 : Int) (e_2 : List V) (most : Int) : bodyT Try.prog ann C (LT_semigroupref04_measure C) 51 [.int .i64 e_0, .int .i64 e_1, .list T_api_Expr e_2, .int .i64 most] = f_semigroupref04_measure C e_0 e_1 e_2 most := by kernel_rfl
theorem f_semigroupref04_measure_of {e_0 e_1 : Int} {e_2 : List V} {most : Int} {r : Option (List V)} (h : f_semigroupref04_measure CC e_0 e_1 e_2 most = r) : CC F_semigroupref04_measure [.int .i64 e_0, .int .i64 e_1, .list T_api_Expr e_2, .int .i64 most] = r :=
  func_of (key := 51) (L := LT_semigroupref04_measure CC) (bs := [.loop (codeAt [1, 1, 0, 1, 0, 0] B_semigroupref04_measure)]) (by kernel_rfl) (tells_cons (t_semigroupref04_measure_1 CC) tells_nil) ((f_semigroupref04_measure_eq CC e_0 e_1 e_2 most).trans h)
end Go.AM

set_option maxRecDepth 100000
namespace Go.AM
open Go.Proofs
noncomputable abbrev B_semigroupref04_shaped : Code := bodyOf Try.prog (ann.fid 38)
noncomputable def s_semigroupref04_shaped_1 (C : CallF) (letters k' : Int) (ok t39 : Bool) (es_0 es_1 : Int) (es_2 : List V) {β : Type} (kr : (Bool) → Option β) : Option β :=
  bif t39 then
   bif ok then
    bif decide ((es_1 : Int) ≥ 0) then
     kr (decide ((es_1 : Int) < letters))
    else
     kr false
   else
    kr false
  else
   bif ok then
    kr ((es_1 : Int) == 0)
   else
    kr false
def w_semigroupref04_shaped_1 (letters k' : Int) (ok t39 : Bool) (es_0 es_1 : Int) (es_2 : List V) (β : Type) (k : Nat → List V → Option β) : (Bool) → Option β := (fun (v2 : Bool) => k 0 [.int .i64 letters, .int .i64 k', .bool v2, .int .i64 es_0, .int .i64 es_1, .list T_api_Expr es_2])
noncomputable def l_semigroupref04_shaped_1 (C : CallF) (β : Type) (ds : List V) (k : Nat → List V → Option β) : Option β :=
  s_semigroupref04_shaped_1 C ((V.nth ds 0).toInt) ((V.nth (ds.drop 1) 0).toInt) ((V.nth ((ds.drop 1).drop 1) 0).toBool) ((V.nth (((ds.drop 1).drop 1).drop 1) 0).toBool) ((V.nth (ds.drop 4) 0).toInt) ((V.nth ((ds.drop 4).drop 1) 0).toInt) ((V.nth (((ds.drop 4).drop 1).drop 1) 0).toList) (w_semigroupref04_shaped_1 ((V.nth ds 0).toInt) ((V.nth (ds.drop 1) 0).toInt) ((V.nth ((ds.drop 1).drop 1) 0).toBool) ((V.nth (((ds.drop 1).drop 1).drop 1) 0).toBool) ((V.nth (ds.drop 4) 0).toInt) ((V.nth ((ds.drop 4).drop 1) 0).toInt) ((V.nth (((ds.drop 4).drop 1).drop 1) 0).toList) β k)
noncomputable def s_semigroupref04_shaped_2 (C : CallF) (letters k' es_0 es_1 : Int) (es_2 : List V) (ok : Bool) (i : Int) {β : Type} (kn : (Bool × Int) → Option β) (kr : (Bool × Int × Bool) → Option β) : Option β :=
  bif decide ((i : Int) < k') then
   bif ok then
    (idx es_2 i).bind fun x2 =>
    (C F_semigroupref04_shaped [.int .i64 ((x2.cell 0).toInt), .int .i64 ((x2.cell 1).toInt), .list T_api_Expr ((x2.cell 2).toList), .int .i64 letters]).bind fun r3 =>
    kn ((V.nth r3 0).toBool, IntKind.wrap .i64 (i + 1))
   else
    kr (ok, i, ok)
  else
   kr (ok, i, false)
noncomputable def s_semigroupref04_shaped_2L (C : CallF) (letters k' es_0 es_1 : Int) (es_2 : List V) : (Bool × Int) → Option ((Bool × Int) ⊕ (Bool × Int × Bool)) := un fun ok i => s_semigroupref04_shaped_2 C letters k' es_0 es_1 es_2 ok i (fun y => some (.inl y)) (fun r => some (.inr r))
def w_semigroupref04_shaped_2 (letters k' es_0 es_1 : Int) (es_2 : List V) (β : Type) (k : Nat → List V → Option β) : (Bool × Int × Bool) → Option β := (un fun (v2 : Bool) => un fun (v3 : Int) (v4 : Bool) => k 0 [.int .i64 letters, .int .i64 k', .bool v2, .int .i64 v3, .bool v4, .int .i64 es_0, .int .i64 es_1, .list T_api_Expr es_2])
noncomputable def l_semigroupref04_shaped_2 (C : CallF) (β : Type) (ds : List V) (k : Nat → List V → Option β) : Option β :=
  (Loop (s_semigroupref04_shaped_2L C ((V.nth ds 0).toInt) ((V.nth (ds.drop 1) 0).toInt) ((V.nth (ds.drop 4) 0).toInt) ((V.nth ((ds.drop 4).drop 1) 0).toInt) ((V.nth (((ds.drop 4).drop 1).drop 1) 0).toList)) ((V.nth ((ds.drop 1).drop 1) 0).toBool, (V.nth (((ds.drop 1).drop 1).drop 1) 0).toInt)).bind (w_semigroupref04_shaped_2 ((V.nth ds 0).toInt) ((V.nth (ds.drop 1) 0).toInt) ((V.nth (ds.drop 4) 0).toInt) ((V.nth ((ds.drop 4).drop 1) 0).toInt) ((V.nth (((ds.drop 4).drop 1).drop 1) 0).toList) β k)
noncomputable def LT_semigroupref04_shaped (C : CallF) : LTab := fun β n ds k =>
  bif Nat.beq n 639 then l_semigroupref04_shaped_1 C β ds k else
  bif Nat.beq n 257 then l_semigroupref04_shaped_2 C β ds k else
  none
theorem t_semigroupref04_shaped_1 (C : CallF) : Tells Try.prog ann C (LT_semigroupref04_shaped C) 38 (ntmpsOf Try.prog (ann.fid 38)) (ann.sin 38).blks.length (.cond 39 (codeAt [1, 1, 1, 1, 0, 1, 0] B_semigroupref04_shaped) (codeAt [1, 1, 1, 1, 0, 1, 1] B_semigroupref04_shaped)) :=
  tells_cond2 (I := Int × Int × Bool × Bool × Int × Int × (List V)) (R := Bool) (S := (⟨[(1, .one (.int .i64)), (2, .one (.ptrC 0 0 0)), (5, .one (.int .i64)), (6, .one (.bool)), (39, .one (.bool))], [.var 24 [.one (.int .i64), .one (.int .i64), .one (.list T_api_Expr)]]⟩, [(.norm, ⟨[(1, .one (.int .i64)), (2, .one (.ptrC 0 0 0)), (5, .one (.int .i64)), (6, .one (.bool))], [.var 24 [.one (.int .i64), .one (.int .i64), .one (.list T_api_Expr)]]⟩)])) (by kernel_rfl) (ltok_of (bs := []) (by kernel_rfl) tells_nil) (ltok_of (bs := []) (by kernel_rfl) tells_nil)
    (un fun (letters : Int) => un fun (k' : Int) => un fun (ok : Bool) => un fun (t39 : Bool) => un fun (es_0 : Int) => un fun (es_1 : Int) (es_2 : List V) => [.int .i64 letters, .int .i64 k', .bool ok, .bool t39, .int .i64 es_0, .int .i64 es_1, .list T_api_Expr es_2]) (un fun (letters : Int) => un fun (k' : Int) => un fun (ok : Bool) => un fun (t39 : Bool) => un fun (es_0 : Int) => un fun (es_1 : Int) (es_2 : List V) => w_semigroupref04_shaped_1 letters k' ok t39 es_0 es_1 es_2)
    (fun ds => ((V.nth ds 0).toInt, (V.nth (ds.drop 1) 0).toInt, (V.nth ((ds.drop 1).drop 1) 0).toBool, (V.nth (((ds.drop 1).drop 1).drop 1) 0).toBool, (V.nth (ds.drop 4) 0).toInt, (V.nth ((ds.drop 4).drop 1) 0).toInt, (V.nth (((ds.drop 4).drop 1).drop 1) 0).toList)) (un fun (letters : Int) => un fun (k' : Int) => un fun (ok : Bool) => un fun (t39 : Bool) => un fun (es_0 : Int) => un fun (es_1 : Int) (es_2 : List V) => fun β kr => s_semigroupref04_shaped_1 C letters k' ok t39 es_0 es_1 es_2 kr)
    (l_semigroupref04_shaped_1 C) (fun ds => by kernel_rfl)
    (fun i β k => by kernel_rfl) (fun β ds k => by kernel_rfl) (fun β ds k => by kernel_rfl) (fun i β k r => by skip <;> kernel_rfl)
theorem t_semigroupref04_shaped_2 (C : CallF) : Tells Try.prog ann C (LT_semigroupref04_shaped C) 38 (ntmpsOf Try.prog (ann.fid 38)) (ann.sin 38).blks.length (.loop (codeAt [1, 1, 1, 1, 1, 0, 1, 0, 0] B_semigroupref04_shaped)) :=
  tells_loop2 (I := Int × Int × Int × Int × (List V)) (X := Bool × Int) (R := Bool × Int × Bool) (S := (⟨[(1, .one (.int .i64)), (2, .one (.ptrC 0 0 0)), (5, .one (.int .i64)), (6, .one (.bool)), (7, .one (.int .i64))], [.var 24 [.one (.int .i64), .one (.int .i64), .one (.list T_api_Expr)]]⟩, [(.exit 1, ⟨[(1, .one (.int .i64)), (2, .one (.ptrC 0 0 0)), (5, .one (.int .i64)), (6, .one (.bool)), (7, .one (.int .i64)), (63, .one (.bool))], [.var 24 [.one (.int .i64), .one (.int .i64), .one (.list T_api_Expr)]]⟩)])) (by kernel_rfl) (ltok_of (bs := []) (by kernel_rfl) tells_nil)
    (un fun (letters : Int) => un fun (k' : Int) => un fun (es_0 : Int) => un fun (es_1 : Int) (es_2 : List V) => (un fun (ok : Bool) (i : Int) => [.int .i64 letters, .int .i64 k', .bool ok, .int .i64 i, .int .i64 es_0, .int .i64 es_1, .list T_api_Expr es_2] : (Bool × Int) → List V)) (un fun (letters : Int) => un fun (k' : Int) => un fun (es_0 : Int) => un fun (es_1 : Int) (es_2 : List V) => w_semigroupref04_shaped_2 letters k' es_0 es_1 es_2)
    (fun ds => ((V.nth ds 0).toInt, (V.nth (ds.drop 1) 0).toInt, (V.nth (ds.drop 4) 0).toInt, (V.nth ((ds.drop 4).drop 1) 0).toInt, (V.nth (((ds.drop 4).drop 1).drop 1) 0).toList)) (fun ds => ((V.nth ((ds.drop 1).drop 1) 0).toBool, (V.nth (((ds.drop 1).drop 1).drop 1) 0).toInt)) (fun e => ((V.nth ((e.2.drop 1).drop 1) 0).toBool, (V.nth (((e.2.drop 1).drop 1).drop 1) 0).toInt, (V.nth ((((e.2.drop 1).drop 1).drop 1).drop 1) 0).toBool))
    (un fun (letters : Int) => un fun (k' : Int) => un fun (es_0 : Int) => un fun (es_1 : Int) (es_2 : List V) => (un fun (ok : Bool) (i : Int) => fun β kn kr => s_semigroupref04_shaped_2 C letters k' es_0 es_1 es_2 ok i kn kr : (Bool × Int) → (β : Type) → ((Bool × Int) → Option β) → ((Bool × Int × Bool) → Option β) → Option β))
    (l_semigroupref04_shaped_2 C) (fun ds => by kernel_rfl) (fun i x => by kernel_rfl) (fun i r => by skip <;> kernel_rfl)
    (fun i x β k => by kernel_rfl) (fun β ds k => by kernel_rfl) (fun β ds k => by kernel_rfl) (fun i β k r => by skip <;> kernel_rfl)
noncomputable def f_semigroupref04_shaped (C : CallF) (e_0 e_1 : Int) (e_2 : List V) (letters : Int) : Option (List V) :=
  bif decide ((e_0 : Int) ≥ 1) then
   bif (e_0 : Int) == 1 then
    bif (e_0 : Int) == 1 then
     s_semigroupref04_shaped_1 C letters (e_2.length : Int) (((e_2.length : Int) : Int) == 0) ((e_0 : Int) == 3) e_0 e_1 e_2 (fun (ok_1 : Bool) =>
       (Loop (s_semigroupref04_shaped_2L C letters (e_2.length : Int) e_0 e_1 e_2) (ok_1, 0)).bind (un fun (ok_4 : Bool) => un fun (i_5 : Int) (t_6 : Bool) =>
         some [.bool ok_4]))
    else
     bif (e_0 : Int) == 7 then
      bif (e_0 : Int) == 7 then
       s_semigroupref04_shaped_1 C letters (e_2.length : Int) (((e_2.length : Int) : Int) == 1) ((e_0 : Int) == 3) e_0 e_1 e_2 (fun (ok_7 : Bool) =>
         (Loop (s_semigroupref04_shaped_2L C letters (e_2.length : Int) e_0 e_1 e_2) (ok_7, 0)).bind (un fun (ok_8 : Bool) => un fun (i_9 : Int) (t_10 : Bool) =>
           some [.bool ok_8]))
      else
       bif decide ((e_0 : Int) ≤ 8) then
        s_semigroupref04_shaped_1 C letters (e_2.length : Int) (decide (((e_2.length : Int) : Int) ≥ 2)) ((e_0 : Int) == 3) e_0 e_1 e_2 (fun (ok_11 : Bool) =>
          (Loop (s_semigroupref04_shaped_2L C letters (e_2.length : Int) e_0 e_1 e_2) (ok_11, 0)).bind (un fun (ok_12 : Bool) => un fun (i_13 : Int) (t_14 : Bool) =>
            some [.bool ok_12]))
       else
        s_semigroupref04_shaped_1 C letters (e_2.length : Int) false ((e_0 : Int) == 3) e_0 e_1 e_2 (fun (ok_15 : Bool) =>
          (Loop (s_semigroupref04_shaped_2L C letters (e_2.length : Int) e_0 e_1 e_2) (ok_15, 0)).bind (un fun (ok_16 : Bool) => un fun (i_17 : Int) (t_18 : Bool) =>
            some [.bool ok_16]))
     else
      bif (e_0 : Int) == 8 then
       s_semigroupref04_shaped_1 C letters (e_2.length : Int) (((e_2.length : Int) : Int) == 1) ((e_0 : Int) == 3) e_0 e_1 e_2 (fun (ok_19 : Bool) =>
         (Loop (s_semigroupref04_shaped_2L C letters (e_2.length : Int) e_0 e_1 e_2) (ok_19, 0)).bind (un fun (ok_20 : Bool) => un fun (i_21 : Int) (t_22 : Bool) =>
           some [.bool ok_20]))
      else
       bif decide ((e_0 : Int) ≤ 8) then
        s_semigroupref04_shaped_1 C letters (e_2.length : Int) (decide (((e_2.length : Int) : Int) ≥ 2)) ((e_0 : Int) == 3) e_0 e_1 e_2 (fun (ok_23 : Bool) =>
          (Loop (s_semigroupref04_shaped_2L C letters (e_2.length : Int) e_0 e_1 e_2) (ok_23, 0)).bind (un fun (ok_24 : Bool) => un fun (i_25 : Int) (t_26 : Bool) =>
            some [.bool ok_24]))
       else
        s_semigroupref04_shaped_1 C letters (e_2.length : Int) false ((e_0 : Int) == 3) e_0 e_1 e_2 (fun (ok_27 : Bool) =>
          (Loop (s_semigroupref04_shaped_2L C letters (e_2.length : Int) e_0 e_1 e_2) (ok_27, 0)).bind (un fun (ok_28 : Bool) => un fun (i_29 : Int) (t_30 : Bool) =>
            some [.bool ok_28]))
   else
    bif (e_0 : Int) == 2 then
     bif (e_0 : Int) == 2 then
      s_semigroupref04_shaped_1 C letters (e_2.length : Int) (((e_2.length : Int) : Int) == 0) ((e_0 : Int) == 3) e_0 e_1 e_2 (fun (ok_31 : Bool) =>
        (Loop (s_semigroupref04_shaped_2L C letters (e_2.length : Int) e_0 e_1 e_2) (ok_31, 0)).bind (un fun (ok_32 : Bool) => un fun (i_33 : Int) (t_34 : Bool) =>
          some [.bool ok_32]))
     else
      bif (e_0 : Int) == 7 then
       bif (e_0 : Int) == 7 then
        s_semigroupref04_shaped_1 C letters (e_2.length : Int) (((e_2.length : Int) : Int) == 1) ((e_0 : Int) == 3) e_0 e_1 e_2 (fun (ok_35 : Bool) =>
          (Loop (s_semigroupref04_shaped_2L C letters (e_2.length : Int) e_0 e_1 e_2) (ok_35, 0)).bind (un fun (ok_36 : Bool) => un fun (i_37 : Int) (t_38 : Bool) =>
            some [.bool ok_36]))
       else
        bif decide ((e_0 : Int) ≤ 8) then
         s_semigroupref04_shaped_1 C letters (e_2.length : Int) (decide (((e_2.length : Int) : Int) ≥ 2)) ((e_0 : Int) == 3) e_0 e_1 e_2 (fun (ok_39 : Bool) =>
           (Loop (s_semigroupref04_shaped_2L C letters (e_2.length : Int) e_0 e_1 e_2) (ok_39, 0)).bind (un fun (ok_40 : Bool) => un fun (i_41 : Int) (t_42 : Bool) =>
             some [.bool ok_40]))
        else
         s_semigroupref04_shaped_1 C letters (e_2.length : Int) false ((e_0 : Int) == 3) e_0 e_1 e_2 (fun (ok_43 : Bool) =>
           (Loop (s_semigroupref04_shaped_2L C letters (e_2.length : Int) e_0 e_1 e_2) (ok_43, 0)).bind (un fun (ok_44 : Bool) => un fun (i_45 : Int) (t_46 : Bool) =>
             some [.bool ok_44]))
      else
       bif (e_0 : Int) == 8 then
        s_semigroupref04_shaped_1 C letters (e_2.length : Int) (((e_2.length : Int) : Int) == 1) ((e_0 : Int) == 3) e_0 e_1 e_2 (fun (ok_47 : Bool) =>
          (Loop (s_semigroupref04_shaped_2L C letters (e_2.length : Int) e_0 e_1 e_2) (ok_47, 0)).bind (un fun (ok_48 : Bool) => un fun (i_49 : Int) (t_50 : Bool) =>
            some [.bool ok_48]))
       else
        bif decide ((e_0 : Int) ≤ 8) then
         s_semigroupref04_shaped_1 C letters (e_2.length : Int) (decide (((e_2.length : Int) : Int) ≥ 2)) ((e_0 : Int) == 3) e_0 e_1 e_2 (fun (ok_51 : Bool) =>
           (Loop (s_semigroupref04_shaped_2L C letters (e_2.length : Int) e_0 e_1 e_2) (ok_51, 0)).bind (un fun (ok_52 : Bool) => un fun (i_53 : Int) (t_54 : Bool) =>
             some [.bool ok_52]))
        else
         s_semigroupref04_shaped_1 C letters (e_2.length : Int) false ((e_0 : Int) == 3) e_0 e_1 e_2 (fun (ok_55 : Bool) =>
           (Loop (s_semigroupref04_shaped_2L C letters (e_2.length : Int) e_0 e_1 e_2) (ok_55, 0)).bind (un fun (ok_56 : Bool) => un fun (i_57 : Int) (t_58 : Bool) =>
             some [.bool ok_56]))
    else
     bif (e_0 : Int) == 3 then
      s_semigroupref04_shaped_1 C letters (e_2.length : Int) (((e_2.length : Int) : Int) == 0) ((e_0 : Int) == 3) e_0 e_1 e_2 (fun (ok_59 : Bool) =>
        (Loop (s_semigroupref04_shaped_2L C letters (e_2.length : Int) e_0 e_1 e_2) (ok_59, 0)).bind (un fun (ok_60 : Bool) => un fun (i_61 : Int) (t_62 : Bool) =>
          some [.bool ok_60]))
     else
      bif (e_0 : Int) == 7 then
       bif (e_0 : Int) == 7 then
        s_semigroupref04_shaped_1 C letters (e_2.length : Int) (((e_2.length : Int) : Int) == 1) ((e_0 : Int) == 3) e_0 e_1 e_2 (fun (ok_63 : Bool) =>
          (Loop (s_semigroupref04_shaped_2L C letters (e_2.length : Int) e_0 e_1 e_2) (ok_63, 0)).bind (un fun (ok_64 : Bool) => un fun (i_65 : Int) (t_66 : Bool) =>
            some [.bool ok_64]))
       else
        bif decide ((e_0 : Int) ≤ 8) then
         s_semigroupref04_shaped_1 C letters (e_2.length : Int) (decide (((e_2.length : Int) : Int) ≥ 2)) ((e_0 : Int) == 3) e_0 e_1 e_2 (fun (ok_67 : Bool) =>
           (Loop (s_semigroupref04_shaped_2L C letters (e_2.length : Int) e_0 e_1 e_2) (ok_67, 0)).bind (un fun (ok_68 : Bool) => un fun (i_69 : Int) (t_70 : Bool) =>
             some [.bool ok_68]))
        else
         s_semigroupref04_shaped_1 C letters (e_2.length : Int) false ((e_0 : Int) == 3) e_0 e_1 e_2 (fun (ok_71 : Bool) =>
           (Loop (s_semigroupref04_shaped_2L C letters (e_2.length : Int) e_0 e_1 e_2) (ok_71, 0)).bind (un fun (ok_72 : Bool) => un fun (i_73 : Int) (t_74 : Bool) =>
             some [.bool ok_72]))
      else
       bif (e_0 : Int) == 8 then
        s_semigroupref04_shaped_1 C letters (e_2.length : Int) (((e_2.length : Int) : Int) == 1) ((e_0 : Int) == 3) e_0 e_1 e_2 (fun (ok_75 : Bool) =>
          (Loop (s_semigroupref04_shaped_2L C letters (e_2.length : Int) e_0 e_1 e_2) (ok_75, 0)).bind (un fun (ok_76 : Bool) => un fun (i_77 : Int) (t_78 : Bool) =>
            some [.bool ok_76]))
       else
        bif decide ((e_0 : Int) ≤ 8) then
         s_semigroupref04_shaped_1 C letters (e_2.length : Int) (decide (((e_2.length : Int) : Int) ≥ 2)) ((e_0 : Int) == 3) e_0 e_1 e_2 (fun (ok_79 : Bool) =>
           (Loop (s_semigroupref04_shaped_2L C letters (e_2.length : Int) e_0 e_1 e_2) (ok_79, 0)).bind (un fun (ok_80 : Bool) => un fun (i_81 : Int) (t_82 : Bool) =>
             some [.bool ok_80]))
        else
         s_semigroupref04_shaped_1 C letters (e_2.length : Int) false ((e_0 : Int) == 3) e_0 e_1 e_2 (fun (ok_83 : Bool) =>
           (Loop (s_semigroupref04_shaped_2L C letters (e_2.length : Int) e_0 e_1 e_2) (ok_83, 0)).bind (un fun (ok_84 : Bool) => un fun (i_85 : Int) (t_86 : Bool) =>
             some [.bool ok_84]))
  else
   bif (e_0 : Int) == 1 then
    bif (e_0 : Int) == 1 then
     s_semigroupref04_shaped_1 C letters (e_2.length : Int) (((e_2.length : Int) : Int) == 0) ((e_0 : Int) == 3) e_0 e_1 e_2 (fun (ok_87 : Bool) =>
       (Loop (s_semigroupref04_shaped_2L C letters (e_2.length : Int) e_0 e_1 e_2) (ok_87, 0)).bind (un fun (ok_88 : Bool) => un fun (i_89 : Int) (t_90 : Bool) =>
         some [.bool ok_88]))
    else
     bif (e_0 : Int) == 7 then
      bif (e_0 : Int) == 7 then
       s_semigroupref04_shaped_1 C letters (e_2.length : Int) (((e_2.length : Int) : Int) == 1) ((e_0 : Int) == 3) e_0 e_1 e_2 (fun (ok_91 : Bool) =>
         (Loop (s_semigroupref04_shaped_2L C letters (e_2.length : Int) e_0 e_1 e_2) (ok_91, 0)).bind (un fun (ok_92 : Bool) => un fun (i_93 : Int) (t_94 : Bool) =>
           some [.bool ok_92]))
      else
       s_semigroupref04_shaped_1 C letters (e_2.length : Int) false ((e_0 : Int) == 3) e_0 e_1 e_2 (fun (ok_95 : Bool) =>
         (Loop (s_semigroupref04_shaped_2L C letters (e_2.length : Int) e_0 e_1 e_2) (ok_95, 0)).bind (un fun (ok_96 : Bool) => un fun (i_97 : Int) (t_98 : Bool) =>
           some [.bool ok_96]))
     else
      bif (e_0 : Int) == 8 then
       s_semigroupref04_shaped_1 C letters (e_2.length : Int) (((e_2.length : Int) : Int) == 1) ((e_0 : Int) == 3) e_0 e_1 e_2 (fun (ok_99 : Bool) =>
         (Loop (s_semigroupref04_shaped_2L C letters (e_2.length : Int) e_0 e_1 e_2) (ok_99, 0)).bind (un fun (ok_100 : Bool) => un fun (i_101 : Int) (t_102 : Bool) =>
           some [.bool ok_100]))
      else
       s_semigroupref04_shaped_1 C letters (e_2.length : Int) false ((e_0 : Int) == 3) e_0 e_1 e_2 (fun (ok_103 : Bool) =>
         (Loop (s_semigroupref04_shaped_2L C letters (e_2.length : Int) e_0 e_1 e_2) (ok_103, 0)).bind (un fun (ok_104 : Bool) => un fun (i_105 : Int) (t_106 : Bool) =>
           some [.bool ok_104]))
   else
    bif (e_0 : Int) == 2 then
     bif (e_0 : Int) == 2 then
      s_semigroupref04_shaped_1 C letters (e_2.length : Int) (((e_2.length : Int) : Int) == 0) ((e_0 : Int) == 3) e_0 e_1 e_2 (fun (ok_107 : Bool) =>
        (Loop (s_semigroupref04_shaped_2L C letters (e_2.length : Int) e_0 e_1 e_2) (ok_107, 0)).bind (un fun (ok_108 : Bool) => un fun (i_109 : Int) (t_110 : Bool) =>
          some [.bool ok_108]))
     else
      bif (e_0 : Int) == 7 then
       bif (e_0 : Int) == 7 then
        s_semigroupref04_shaped_1 C letters (e_2.length : Int) (((e_2.length : Int) : Int) == 1) ((e_0 : Int) == 3) e_0 e_1 e_2 (fun (ok_111 : Bool) =>
          (Loop (s_semigroupref04_shaped_2L C letters (e_2.length : Int) e_0 e_1 e_2) (ok_111, 0)).bind (un fun (ok_112 : Bool) => un fun (i_113 : Int) (t_114 : Bool) =>
            some [.bool ok_112]))
       else
        s_semigroupref04_shaped_1 C letters (e_2.length : Int) false ((e_0 : Int) == 3) e_0 e_1 e_2 (fun (ok_115 : Bool) =>
          (Loop (s_semigroupref04_shaped_2L C letters (e_2.length : Int) e_0 e_1 e_2) (ok_115, 0)).bind (un fun (ok_116 : Bool) => un fun (i_117 : Int) (t_118 : Bool) =>
            some [.bool ok_116]))
      else
       bif (e_0 : Int) == 8 then
        s_semigroupref04_shaped_1 C letters (e_2.length : Int) (((e_2.length : Int) : Int) == 1) ((e_0 : Int) == 3) e_0 e_1 e_2 (fun (ok_119 : Bool) =>
          (Loop (s_semigroupref04_shaped_2L C letters (e_2.length : Int) e_0 e_1 e_2) (ok_119, 0)).bind (un fun (ok_120 : Bool) => un fun (i_121 : Int) (t_122 : Bool) =>
            some [.bool ok_120]))
       else
        s_semigroupref04_shaped_1 C letters (e_2.length : Int) false ((e_0 : Int) == 3) e_0 e_1 e_2 (fun (ok_123 : Bool) =>
          (Loop (s_semigroupref04_shaped_2L C letters (e_2.length : Int) e_0 e_1 e_2) (ok_123, 0)).bind (un fun (ok_124 : Bool) => un fun (i_125 : Int) (t_126 : Bool) =>
            some [.bool ok_124]))
    else
     bif (e_0 : Int) == 3 then
      s_semigroupref04_shaped_1 C letters (e_2.length : Int) (((e_2.length : Int) : Int) == 0) ((e_0 : Int) == 3) e_0 e_1 e_2 (fun (ok_127 : Bool) =>
        (Loop (s_semigroupref04_shaped_2L C letters (e_2.length : Int) e_0 e_1 e_2) (ok_127, 0)).bind (un fun (ok_128 : Bool) => un fun (i_129 : Int) (t_130 : Bool) =>
          some [.bool ok_128]))
     else
      bif (e_0 : Int) == 7 then
       bif (e_0 : Int) == 7 then
        s_semigroupref04_shaped_1 C letters (e_2.length : Int) (((e_2.length : Int) : Int) == 1) ((e_0 : Int) == 3) e_0 e_1 e_2 (fun (ok_131 : Bool) =>
          (Loop (s_semigroupref04_shaped_2L C letters (e_2.length : Int) e_0 e_1 e_2) (ok_131, 0)).bind (un fun (ok_132 : Bool) => un fun (i_133 : Int) (t_134 : Bool) =>
            some [.bool ok_132]))
       else
        s_semigroupref04_shaped_1 C letters (e_2.length : Int) false ((e_0 : Int) == 3) e_0 e_1 e_2 (fun (ok_135 : Bool) =>
          (Loop (s_semigroupref04_shaped_2L C letters (e_2.length : Int) e_0 e_1 e_2) (ok_135, 0)).bind (un fun (ok_136 : Bool) => un fun (i_137 : Int) (t_138 : Bool) =>
            some [.bool ok_136]))
      else
       bif (e_0 : Int) == 8 then
        s_semigroupref04_shaped_1 C letters (e_2.length : Int) (((e_2.length : Int) : Int) == 1) ((e_0 : Int) == 3) e_0 e_1 e_2 (fun (ok_139 : Bool) =>
          (Loop (s_semigroupref04_shaped_2L C letters (e_2.length : Int) e_0 e_1 e_2) (ok_139, 0)).bind (un fun (ok_140 : Bool) => un fun (i_141 : Int) (t_142 : Bool) =>
            some [.bool ok_140]))
       else
        s_semigroupref04_shaped_1 C letters (e_2.length : Int) false ((e_0 : Int) == 3) e_0 e_1 e_2 (fun (ok_143 : Bool) =>
          (Loop (s_semigroupref04_shaped_2L C letters (e_2.length : Int) e_0 e_1 e_2) (ok_143, 0)).bind (un fun (ok_144 : Bool) => un fun (i_145 : Int) (t_146 : Bool) =>
            some [.bool ok_144]))
theorem f_semigroupref04_shaped_eq (C : CallF) (e_0 e_1 : Int) (e_2 : List V) (letters : Int) : bodyT Try.prog ann C (LT_semigroupref04_shaped C) 38 [.int .i64 e_0, .int .i64 e_1, .list T_api_Expr e_2, .int .i64 letters] = f_semigroupref04_shaped C e_0 e_1 e_2 letters := by kernel_rfl
theorem f_semigroupref04_shaped_of {e_0 e_1 : Int} {e_2 : List V} {letters : Int} {r : Option (List V)} (h : f_semigroupref04_shaped CC e_0 e_1 e_2 letters = r) : CC F_semigroupref04_shaped [.int .i64 e_0, .int .i64 e_1, .list T_api_Expr e_2, .int .i64 letters] = r :=
  func_of (key := 38) (L := LT_semigroupref04_shaped CC) (bs := [.cond 39 (codeAt [1, 1, 1, 1, 0, 1, 0] B_semigroupref04_shaped) (codeAt [1, 1, 1, 1, 0, 1, 1] B_semigroupref04_shaped), .loop (codeAt [1, 1, 1, 1, 1, 0, 1, 0, 0] B_semigroupref04_shaped)]) (by kernel_rfl) (tells_cons (t_semigroupref04_shaped_1 CC) (tells_cons (t_semigroupref04_shaped_2 CC) tells_nil)) ((f_semigroupref04_shaped_eq CC e_0 e_1 e_2 letters).trans h)
end Go.AM

set_option maxRecDepth 100000
namespace Go.AM
open Go.Proofs
noncomputable abbrev B_semigroupref01_MayLetters : Code := bodyOf Try.prog (ann.fid 36)
noncomputable def LT_semigroupref01_MayLetters (C : CallF) : LTab := fun β n ds k =>
  none
noncomputable def f_semigroupref01_MayLetters (C : CallF) (letters : Int) : Option (List V) :=
  bif decide ((letters : Int) ≥ 1) then
   some [.bool (decide ((letters : Int) ≤ 6))]
  else
   some [.bool false]
theorem f_semigroupref01_MayLetters_eq (C : CallF) (letters : Int) : bodyT Try.prog ann C (LT_semigroupref01_MayLetters C) 36 [.int .i64 letters] = f_semigroupref01_MayLetters C letters := by kernel_rfl
theorem f_semigroupref01_MayLetters_of {letters : Int} {r : Option (List V)} (h : f_semigroupref01_MayLetters CC letters = r) : CC F_semigroupref01_MayLetters [.int .i64 letters] = r :=
  func_of (key := 36) (L := LT_semigroupref01_MayLetters CC) (bs := []) (by kernel_rfl) tells_nil ((f_semigroupref01_MayLetters_eq CC letters).trans h)
end Go.AM

set_option maxRecDepth 100000
set_option linter.unusedSimpArgs false
namespace Go.AM
open Go.Proofs Ex
theorem idx_kid (pre suf : List Ex) (k : Ex) : idx ((pre ++ k :: suf).map enc) (pre.length : Int) = some k.enc := by
  rw [idx_nat]; simp
theorem enc_0 (k : Ex) : (k.enc.cell 0).toInt = k.op := by rw [enc_eq]; simp
theorem enc_1 (k : Ex) : (k.enc.cell 1).toInt = k.letter := by rw [enc_eq]; simp
theorem enc_2 (k : Ex) : (k.enc.cell 2).toList = k.kids.map enc := by rw [enc_eq]; simp
theorem maxLen_le : maxLen ≤ 9223372036854775807 := by unfold maxLen; omega
/-! fits -/
theorem fits_loop {ks : List Ex} (hlen : ks.length ≤ maxLen) {d : Int} (hd : 0 ≤ d ∧ d ≤ 1000) (ih : ∀ k ∈ ks, ∀ d l : Int, 0 ≤ d → d ≤ 1000 → 0 ≤ l → l ≤ 1000 → ∃ l', CC F_expr_fits (exA k [.int .i64 d, .int .i64 l]) = some [.bool (decide ((k.depth : Int) ≤ d ∧ (k.size : Int) ≤ l)), .int .i64 l'] ∧ 0 ≤ l' ∧ l' ≤ l ∧ (((k.depth : Int) ≤ d ∧ (k.size : Int) ≤ l) → l' = l - k.size)) :
    ∀ (suf pre : List Ex) (l : Int), ks = pre ++ suf → 0 ≤ l → l ≤ 1000 → 1 ≤ d →
    (∃ l' : Int, Loop (s_expr_fits_1L CC d (ks.map enc) ((ks.map enc).length : Int)) (((pre.length : Nat) : Int), l) = some (.inl (false, l')) ∧ ¬ ((depths suf : Int) ≤ d - 1 ∧ (sizes suf : Int) ≤ l) ∧ 0 ≤ l' ∧ l' ≤ l) ∨
    (∃ i b, Loop (s_expr_fits_1L CC d (ks.map enc) ((ks.map enc).length : Int)) (((pre.length : Nat) : Int), l) = some (.inr (i, b, l - sizes suf)) ∧ ((depths suf : Int) ≤ d - 1 ∧ (sizes suf : Int) ≤ l)) := by
  intro suf
  induction suf with
  | nil =>
    intro pre l hks h0 h1 hd1
    subst hks
    refine .inr ⟨((pre.length : Nat) : Int), false, ?_, ?_⟩
    · have hz : l - ((sizes ([] : List Ex) : Nat) : Int) = l := by simp only [sizes]; omega
      rw [hz]
      refine Loop_end ?_
      simp only [s_expr_fits_1L, s_expr_fits_1, un, List.append_nil, List.length_map, bif_decide]
      rw [if_neg (by omega)]
      simp
    · simp only [depths, sizes]; omega
  | cons k suf ihs =>
    intro pre l hks h0 h1 hd1
    obtain ⟨l', e1, e2, e3, e4⟩ := ih k (by rw [hks]; simp) (d - 1) l (by omega) (by omega) h0 h1
    have hpl : pre.length < ks.length := by rw [hks]; simp
    have := maxLen_le
    have hix : idx (ks.map enc) (pre.length : Int) = some k.enc := by rw [hks]; exact idx_kid _ _ _
    by_cases hk : (k.depth : Int) ≤ d - 1 ∧ (k.size : Int) ≤ l
    · have hstep : s_expr_fits_1L CC d (ks.map enc) ((ks.map enc).length : Int) (((pre.length : Nat) : Int), l) = some (.inl ((((pre ++ [k]).length : Nat) : Int), l')) := by
        simp only [s_expr_fits_1L, s_expr_fits_1, un, List.length_map, bif_decide]
        rw [if_pos (by omega), hix]
        simp only [Option.bind_some, enc_0, enc_1, enc_2]
        rw [wrap64 (by omega) (by omega), e1]
        simp only [Option.bind_some, V.nth_zero, V.toBool_bool, decide_eq_true hk, Bool.not_true, cond_false, List.drop_succ_cons, List.drop_zero, V.toInt_int]
        rw [wrap64 (by omega) (by omega)]
        simp
      rw [Loop_norm hstep]
      have e5 := e4 hk
      rcases ihs (pre ++ [k]) l' (by rw [hks]; simp) e2 (by omega) hd1 with ⟨l2, q1, q2, q3, q4⟩ | ⟨i, b, q1, q2⟩
      · refine .inl ⟨l2, q1, ?_, q3, by omega⟩
        simp only [depths, sizes]; omega
      · refine .inr ⟨i, b, q1.trans ?_, ?_⟩
        · simp only [sizes]
          congr 4
          omega
        · simp only [depths, sizes]; omega
    · refine .inl ⟨l', Loop_end ?_, ?_, e2, e3⟩
      · simp only [s_expr_fits_1L, s_expr_fits_1, un, List.length_map, bif_decide]
        rw [if_pos (by omega), hix]
        simp only [Option.bind_some, enc_0, enc_1, enc_2]
        rw [wrap64 (by omega) (by omega), e1]
        simp only [Option.bind_some, V.nth_zero, V.toBool_bool, decide_eq_false hk, Bool.not_false, cond_true, List.drop_succ_cons, List.drop_zero, V.toInt_int]
      · simp only [depths, sizes]; omega
theorem fits_spec : ∀ e : Ex, e.Ok → ∀ d l : Int, 0 ≤ d → d ≤ 1000 → 0 ≤ l → l ≤ 1000 →
    ∃ l', CC F_expr_fits (exA e [.int .i64 d, .int .i64 l]) = some [.bool (decide ((e.depth : Int) ≤ d ∧ (e.size : Int) ≤ l)), .int .i64 l'] ∧ 0 ≤ l' ∧ l' ≤ l ∧ (((e.depth : Int) ≤ d ∧ (e.size : Int) ≤ l) → l' = l - e.size) :=
  ind fun o lt ks ih hok d l h1 h2 h3 h4 => by
    have ih' : ∀ k ∈ ks, _ := fun k hk => ih k hk (hok.kid k hk)
    have hs : ∀ e : Ex, e = .node o lt ks → e.size = 1 + sizes ks ∧ e.depth = 1 + depths ks := by rintro e rfl; constructor <;> simp only [size, depth]
    obtain ⟨s1, s2⟩ := hs _ rfl
    by_cases hd : d = 0
    · have hn : ¬ (((Ex.node o lt ks).depth : Int) ≤ d ∧ ((Ex.node o lt ks).size : Int) ≤ l) := by omega
      refine ⟨l, f_expr_fits_of ?_, h3, Int.le_refl _, fun h => absurd h hn⟩
      simp only [f_expr_fits, bif_beq, if_pos hd, decide_eq_false hn]
    · by_cases hl : l = 0
      · have hn : ¬ (((Ex.node o lt ks).depth : Int) ≤ d ∧ ((Ex.node o lt ks).size : Int) ≤ l) := by omega
        refine ⟨l, f_expr_fits_of ?_, h3, Int.le_refl _, fun h => absurd h hn⟩
        simp only [f_expr_fits, bif_beq, if_neg hd, if_pos hl, decide_eq_false hn]
      · rcases fits_loop hok.len ⟨h1, h2⟩ ih' ks [] (l - 1) rfl (by omega) (by omega) (by omega) with ⟨l', q1, q2, q3, q4⟩ | ⟨i, b, q1, q2⟩
        · have hn : ¬ (((Ex.node o lt ks).depth : Int) ≤ d ∧ ((Ex.node o lt ks).size : Int) ≤ l) := by omega
          refine ⟨l', f_expr_fits_of ?_, q3, by omega, fun h => absurd h hn⟩
          simp only [f_expr_fits, bif_beq, if_neg hd, if_neg hl, decide_eq_false hn, Ex.kids]
          rw [wrap64 (by omega) (by omega)]
          simp only [List.length_nil, Int.ofNat_zero, Int.natCast_zero] at q1
          erw [q1]
          rfl
        · have hn : (((Ex.node o lt ks).depth : Int) ≤ d ∧ ((Ex.node o lt ks).size : Int) ≤ l) := by omega
          refine ⟨l - 1 - sizes ks, f_expr_fits_of ?_, by omega, by omega, fun _ => by omega⟩
          simp only [f_expr_fits, bif_beq, if_neg hd, if_neg hl, decide_eq_true hn, Ex.kids]
          rw [wrap64 (by omega) (by omega)]
          simp only [List.length_nil, Int.ofNat_zero, Int.natCast_zero] at q1
          erw [q1]
          rfl
theorem withinLimits_spec (e : Ex) (h : e.Ok) : CC F_expr_withinLimits (exA e []) = some [.bool (decide (e.depth ≤ 40 ∧ e.size ≤ 400))] := by
  obtain ⟨l', e1, _⟩ := fits_spec e h 40 400 (by omega) (by omega) (by omega) (by omega)
  refine f_expr_withinLimits_of ?_
  simp only [f_expr_withinLimits]
  rw [e1]
  simp only [Option.bind_some, V.nth_zero, V.toBool_bool]
  congr 3
  rw [decide_eq_decide]
  omega
/-! measure -/
theorem measure_loop {ks : List Ex} (hlen : ks.length ≤ maxLen) {a b most : Int} (hm : 1 ≤ most ∧ most ≤ 1000) (ih : ∀ k ∈ ks, ∃ d, CC F_semigroupref04_measure (exA k [.int .i64 most]) = some [.int .i64 (min (k.size : Int) (most + 1)), .int .i64 d] ∧ ((k.size : Int) ≤ most → d = k.depth)) :
    ∀ (suf pre : List Ex) (n deep : Int), ks = pre ++ suf → 1 ≤ n → n ≤ most + 1 → 0 ≤ deep →
    ∃ deep' i b', Loop (s_semigroupref04_measure_1L CC most a b (ks.map enc)) (n, deep, ((pre.length : Nat) : Int)) = some (min (n + (sizes suf : Int)) (most + 1), deep', i, b') ∧ (n + (sizes suf : Int) ≤ most → deep' = max deep (depths suf)) := by
  intro suf
  induction suf with
  | nil =>
    intro pre n deep hks h0 h1 hdp
    subst hks
    refine ⟨deep, ((pre.length : Nat) : Int), false, ?_, fun _ => ?_⟩
    · have hz : min (n + ((sizes ([] : List Ex) : Nat) : Int)) (most + 1) = n := by simp only [sizes]; omega
      rw [hz]
      refine Loop_end ?_
      simp only [s_semigroupref04_measure_1L, s_semigroupref04_measure_1, un, List.append_nil, List.length_map, bif_decide]
      rw [if_neg (by omega)]
    · simp only [depths]; omega
  | cons k suf ihs =>
    intro pre n deep hks h0 h1 hdp
    have hpl : pre.length < ks.length := by rw [hks]; simp
    have := maxLen_le
    have hix : idx (ks.map enc) (pre.length : Int) = some k.enc := by rw [hks]; exact idx_kid _ _ _
    have hkp := size_pos k
    by_cases hn : n ≤ most
    · obtain ⟨d, e1, e2⟩ := ih k (by rw [hks]; simp)
      have hstep : ∃ dd, s_semigroupref04_measure_1L CC most a b (ks.map enc) (n, deep, ((pre.length : Nat) : Int)) = some (.inl (min (n + (k.size : Int)) (most + 1), dd, (((pre ++ [k]).length : Nat) : Int))) ∧ dd = max deep d := by
        refine ⟨max deep d, ?_, rfl⟩
        simp only [s_semigroupref04_measure_1L, s_semigroupref04_measure_1, un, List.length_map, bif_decide]
        rw [if_pos (by omega), if_pos hn, hix]
        simp only [Option.bind_some, enc_0, enc_1, enc_2]
        rw [e1]
        simp only [Option.bind_some, V.nth_zero, List.drop_succ_cons, List.drop_zero, V.toInt_int]
        rw [wrap64 (by omega) (by omega), wrap64 (by omega) (by omega), wrap64 (by omega) (by omega)]
        have r1 : (if most + 1 < n + min (k.size : Int) (most + 1) then most + 1 else n + min (k.size : Int) (most + 1)) = min (n + (k.size : Int)) (most + 1) := by split <;> omega
        have r2 : (if d > deep then d else deep) = max deep d := by split <;> omega
        rw [r1, r2]
        simp
      obtain ⟨dd, hs1, rfl⟩ := hstep
      rw [Loop_norm hs1]
      obtain ⟨deep', i, b', q1, q2⟩ := ihs (pre ++ [k]) (min (n + (k.size : Int)) (most + 1)) (max deep d) (by rw [hks]; simp) (by omega) (by omega) (by omega)
      refine ⟨deep', i, b', q1.trans ?_, fun h => ?_⟩
      · simp only [sizes]
        congr 2
        omega
      · simp only [sizes] at h
        rw [q2 (by omega), e2 (by omega)]
        simp only [depths]
        omega
    · refine ⟨deep, ((pre.length : Nat) : Int), false, ?_, fun h => ?_⟩
      · have hz : min (n + ((sizes (k :: suf) : Nat) : Int)) (most + 1) = n := by simp only [sizes]; omega
        rw [hz]
        refine Loop_end ?_
        simp only [s_semigroupref04_measure_1L, s_semigroupref04_measure_1, un, List.length_map, bif_decide]
        rw [if_pos (by omega), if_neg hn]
        simp [hn]
      · omega
theorem measure_spec : ∀ e : Ex, e.Ok → ∀ most : Int, 1 ≤ most → most ≤ 1000 → ∃ d, CC F_semigroupref04_measure (exA e [.int .i64 most]) = some [.int .i64 (min (e.size : Int) (most + 1)), .int .i64 d] ∧ ((e.size : Int) ≤ most → d = e.depth) :=
  ind fun o lt ks ih hok most h1 h2 => by
    obtain ⟨deep', i, b', q1, q2⟩ := measure_loop (a := o) (b := lt) hok.len ⟨h1, h2⟩ (fun k hk => ih k hk (hok.kid k hk) most h1 h2) ks [] 1 0 rfl (by omega) (by omega) (by omega)
    have s1 : (Ex.node o lt ks).size = 1 + sizes ks := by simp only [size]
    have s2 : (Ex.node o lt ks).depth = 1 + depths ks := by simp only [depth]
    have s3 := depth_le_size (.node o lt ks)
    refine ⟨IntKind.wrap .i64 (deep' + 1), f_semigroupref04_measure_of ?_, fun h => ?_⟩
    · simp only [f_semigroupref04_measure, Ex.kids, Ex.op, Ex.letter]
      simp only [List.length_nil, Int.ofNat_zero, Int.natCast_zero] at q1
      erw [q1]
      simp only [Option.bind_some, un]
      rw [show (1 : Int) + (sizes ks : Int) = ((Ex.node o lt ks).size : Int) by omega]
    · rw [q2 (by omega), wrap64 (by omega) (by omega)]
      omega
/-! wellFormed and shaped -/
def shapeOk (o l len letters : Int) : Bool :=
  if o = 3 then decide (len = 0 ∧ 0 ≤ l ∧ l < letters)
  else decide (l = 0) && (if o = 1 ∨ o = 2 then decide (len = 0) else if o = 7 ∨ o = 8 then decide (len = 1) else decide (4 ≤ o ∧ o ≤ 6 ∧ 2 ≤ len))
mutual
def Ex.wf (letters : Int) : Ex → Bool
  | .node o l ks => shapeOk o l ks.length letters && wfs letters ks
def Ex.wfs (letters : Int) : List Ex → Bool
  | [] => true
  | k :: ks => Ex.wf letters k && wfs letters ks
end
theorem wf_loop {ks : List Ex} (hlen : ks.length ≤ maxLen) {letters : Int} (ih : ∀ k ∈ ks, CC F_expr_wellFormed (exA k [.int .i64 letters]) = some [.bool (k.wf letters)]) :
    ∀ (suf pre : List Ex), ks = pre ++ suf →
    (Loop (s_expr_wellFormed_1L CC letters (ks.map enc) ((ks.map enc).length : Int)) ((pre.length : Nat) : Int) = some (.inl false) ∧ wfs letters suf = false) ∨
    (∃ i b, Loop (s_expr_wellFormed_1L CC letters (ks.map enc) ((ks.map enc).length : Int)) ((pre.length : Nat) : Int) = some (.inr (i, b)) ∧ wfs letters suf = true) := by
  intro suf
  induction suf with
  | nil =>
    intro pre hks
    subst hks
    refine .inr ⟨((pre.length : Nat) : Int), false, Loop_end ?_, by simp only [wfs]⟩
    simp only [s_expr_wellFormed_1L, s_expr_wellFormed_1, List.append_nil, List.length_map, bif_decide]
    rw [if_neg (by omega)]
    simp
  | cons k suf ihs =>
    intro pre hks
    have hpl : pre.length < ks.length := by rw [hks]; simp
    have := maxLen_le
    have hix : idx (ks.map enc) (pre.length : Int) = some k.enc := by rw [hks]; exact idx_kid _ _ _
    have e1 := ih k (by rw [hks]; simp)
    cases hw : k.wf letters with
    | true =>
      have hstep : s_expr_wellFormed_1L CC letters (ks.map enc) ((ks.map enc).length : Int) ((pre.length : Nat) : Int) = some (.inl (((pre ++ [k]).length : Nat) : Int)) := by
        simp only [s_expr_wellFormed_1L, s_expr_wellFormed_1, List.length_map, bif_decide]
        rw [if_pos (by omega), hix]
        simp only [Option.bind_some, enc_0, enc_1, enc_2]
        rw [e1, hw]
        simp only [Option.bind_some, V.nth_zero, V.toBool_bool, Bool.not_true, cond_false]
        rw [wrap64 (by omega) (by omega)]
        simp
      rw [Loop_norm hstep]
      simp only [wfs, hw, Bool.true_and]
      exact ihs (pre ++ [k]) (by rw [hks]; simp)
    | false =>
      refine .inl ⟨Loop_end ?_, by simp only [wfs, hw, Bool.false_and]⟩
      simp only [s_expr_wellFormed_1L, s_expr_wellFormed_1, List.length_map, bif_decide]
      rw [if_pos (by omega), hix]
      simp only [Option.bind_some, enc_0, enc_1, enc_2]
      rw [e1, hw]
      simp only [Option.bind_some, V.nth_zero, V.toBool_bool, Bool.not_false, cond_true]
theorem op_cases (o : Int) : o = 1 ∨ o = 2 ∨ o = 3 ∨ o = 4 ∨ o = 5 ∨ o = 6 ∨ o = 7 ∨ o = 8 ∨ (o < 1 ∨ 8 < o) := by omega
theorem wellFormed_spec {letters : Int} : ∀ e : Ex, e.Ok → CC F_expr_wellFormed (exA e [.int .i64 letters]) = some [.bool (e.wf letters)] :=
  ind fun o lt ks ih hok => by
    refine f_expr_wellFormed_of ?_
    have hlen : ((ks.map enc).length : Int) = (ks.length : Int) := by simp
    have hl := wf_loop hok.len (fun k hk => ih k hk (hok.kid k hk)) ks [] rfl
    simp only [List.length_nil, Int.natCast_zero, Int.ofNat_zero] at hl
    have hall : (Loop (s_expr_wellFormed_1L CC letters (ks.map enc) ((ks.map enc).length : Int)) 0).bind (way2 (fun (t : Bool) => some [V.bool t]) (un fun (_ : Int) (_ : Bool) => some [V.bool true])) = some [.bool (wfs letters ks)] := by
      rcases hl with ⟨h1, h2⟩ | ⟨i, b, h1, h2⟩
      · erw [h1]; rw [h2]; rfl
      · erw [h1]; rw [h2]; rfl
    simp only [Ex.op, Ex.letter, Ex.kids]
    unfold f_expr_wellFormed
    rw [hall, hlen]
    simp only [Ex.wf, shapeOk]
    have hk0 : ks.length = 0 → wfs letters ks = true := fun h => by rw [List.eq_nil_of_length_eq_zero h]; simp only [wfs]
    rcases op_cases o with rfl | rfl | rfl | rfl | rfl | rfl | rfl | rfl | ho
    case inr.inr.inr.inr.inr.inr.inr.inr =>
      have n1 : o ≠ 1 := by omega
      have n2 : o ≠ 2 := by omega
      have n3 : o ≠ 3 := by omega
      have n4 : o ≠ 4 := by omega
      have n5 : o ≠ 5 := by omega
      have n6 : o ≠ 6 := by omega
      have n7 : o ≠ 7 := by omega
      have n8 : o ≠ 8 := by omega
      have n9 : ¬ (4 ≤ o ∧ o ≤ 6 ∧ 2 ≤ (ks.length : Int)) := by omega
      by_cases hlt : lt = 0 <;> simp [n1, n2, n3, n4, n5, n6, n7, n8, n9, hlt]
    all_goals by_cases hlt : lt = 0 <;> by_cases h0 : ks.length = 0 <;> by_cases h1 : ks.length = 1 <;> simp [hlt, h0, h1, hk0]
    all_goals (try omega)
    all_goals (try (split <;> simp_all <;> omega))
theorem shaped1 {C : CallF} {letters k o lt : Int} {ok t : Bool} {es : List V} {β : Type} (kr : Bool → Option β) : s_semigroupref04_shaped_1 C letters k ok t o lt es kr = kr (ok && (bif t then decide (0 ≤ lt ∧ lt < letters) else decide (lt = 0))) := by
  unfold s_semigroupref04_shaped_1
  have hb : (lt == 0) = decide (lt = 0) := by rw [Bool.eq_iff_iff]; simp
  rw [hb]
  cases t <;> cases ok <;> first | rfl | skip
  by_cases h : 0 ≤ lt <;> simp [h]
theorem shaped_loop {ks : List Ex} (hlen : ks.length ≤ maxLen) {letters o lt : Int} (ih : ∀ k ∈ ks, CC F_semigroupref04_shaped (exA k [.int .i64 letters]) = some [.bool (k.wf letters)]) :
    ∀ (suf pre : List Ex) (ok : Bool), ks = pre ++ suf →
    ∃ i b, Loop (s_semigroupref04_shaped_2L CC letters (ks.length : Int) o lt (ks.map enc)) (ok, ((pre.length : Nat) : Int)) = some (ok && wfs letters suf, i, b) := by
  intro suf
  induction suf with
  | nil =>
    intro pre ok hks
    subst hks
    refine ⟨((pre.length : Nat) : Int), false, Loop_end ?_⟩
    simp only [s_semigroupref04_shaped_2L, s_semigroupref04_shaped_2, un, List.append_nil, bif_decide]
    rw [if_neg (by omega)]
    simp [wfs]
  | cons k suf ihs =>
    intro pre ok hks
    have hpl : pre.length < ks.length := by rw [hks]; simp
    have := maxLen_le
    have hix : idx (ks.map enc) (pre.length : Int) = some k.enc := by rw [hks]; exact idx_kid _ _ _
    have e1 := ih k (by rw [hks]; simp)
    cases ok with
    | true =>
      have hstep : s_semigroupref04_shaped_2L CC letters (ks.length : Int) o lt (ks.map enc) (true, ((pre.length : Nat) : Int)) = some (.inl (k.wf letters, (((pre ++ [k]).length : Nat) : Int))) := by
        simp only [s_semigroupref04_shaped_2L, s_semigroupref04_shaped_2, un, bif_decide, cond_true]
        rw [if_pos (by omega), hix]
        simp only [Option.bind_some, enc_0, enc_1, enc_2]
        rw [e1]
        simp only [Option.bind_some, V.nth_zero, V.toBool_bool]
        rw [wrap64 (by omega) (by omega)]
        simp
      rw [Loop_norm hstep]
      simp only [wfs, Bool.true_and]
      exact ihs (pre ++ [k]) _ (by rw [hks]; simp)
    | false =>
      refine ⟨((pre.length : Nat) : Int), false, Loop_end ?_⟩
      simp only [s_semigroupref04_shaped_2L, s_semigroupref04_shaped_2, un, bif_decide, cond_false]
      rw [if_pos (by omega)]
      simp
theorem shaped_spec {letters : Int} : ∀ e : Ex, e.Ok → CC F_semigroupref04_shaped (exA e [.int .i64 letters]) = some [.bool (e.wf letters)] :=
  ind fun o lt ks ih hok => by
    refine f_semigroupref04_shaped_of ?_
    have hlen : ((ks.map enc).length : Int) = (ks.length : Int) := by simp
    have hall : ∀ ok : Bool, (Loop (s_semigroupref04_shaped_2L CC letters (ks.length : Int) o lt (ks.map enc)) (ok, 0)).bind (un fun (ok : Bool) => un fun (_ : Int) (_ : Bool) => some [V.bool ok]) = some [.bool (ok && wfs letters ks)] := by
      intro ok
      obtain ⟨i, b, h⟩ := shaped_loop hok.len (o := o) (lt := lt) (fun k hk => ih k hk (hok.kid k hk)) ks [] ok rfl
      simp only [List.length_nil, Int.natCast_zero, Int.ofNat_zero] at h
      erw [h]; rfl
    simp only [Ex.op, Ex.letter, Ex.kids]
    unfold f_semigroupref04_shaped
    simp only [shaped1, hlen, hall]
    simp only [Ex.wf, shapeOk]
    have hk0 : ks.length = 0 → wfs letters ks = true := fun h => by rw [List.eq_nil_of_length_eq_zero h]; simp only [wfs]
    rcases op_cases o with rfl | rfl | rfl | rfl | rfl | rfl | rfl | rfl | ho
    case inr.inr.inr.inr.inr.inr.inr.inr =>
      have n1 : o ≠ 1 := by omega
      have n2 : o ≠ 2 := by omega
      have n3 : o ≠ 3 := by omega
      have n4 : o ≠ 4 := by omega
      have n5 : o ≠ 5 := by omega
      have n6 : o ≠ 6 := by omega
      have n7 : o ≠ 7 := by omega
      have n8 : o ≠ 8 := by omega
      have n9 : ¬ (4 ≤ o ∧ o ≤ 6 ∧ 2 ≤ (ks.length : Int)) := by omega
      by_cases h1 : 1 ≤ o
      · have h2 : ¬ o ≤ 8 := by omega
        simp [n1, n2, n3, n4, n5, n6, n7, n8, n9, h1, h2]
      · simp [n1, n2, n3, n4, n5, n6, n7, n8, n9, h1]
    all_goals by_cases hlt : lt = 0 <;> by_cases h0 : ks.length = 0 <;> by_cases h1 : ks.length = 1 <;> simp [hlt, h0, h1, hk0]
    all_goals (try omega)
    all_goals (try (split <;> simp_all <;> omega))
    all_goals (try (by_cases h5 : 2 ≤ ks.length <;> simp [h5]))
    all_goals (rw [show ((ks.length : Int) == 1) = decide ((ks.length : Int) = 1) from by rw [Bool.eq_iff_iff]; simp])
/-! Validate -/
theorem mayLetters_spec (letters : Int) : CC F_semigroupref01_MayLetters [.int .i64 letters] = some [.bool (decide (1 ≤ letters ∧ letters ≤ 6))] := by
  refine f_semigroupref01_MayLetters_of ?_
  unfold f_semigroupref01_MayLetters
  by_cases h1 : 1 ≤ letters <;> by_cases h2 : letters ≤ 6 <;> simp [h1, h2]
theorem within_spec (e : Ex) (h : e.Ok) : CC F_semigroupref04_Within (exA e []) = some [.bool (decide (e.depth ≤ 40 ∧ e.size ≤ 400))] := by
  obtain ⟨d, e1, e2⟩ := measure_spec e h 400 (by omega) (by omega)
  refine f_semigroupref04_Within_of ?_
  unfold f_semigroupref04_Within
  rw [e1]
  simp only [Option.bind_some, V.nth_zero, V.toInt_int, bif_decide, List.drop_succ_cons, List.drop_zero]
  by_cases hs : e.size ≤ 400
  · rw [if_pos (by omega), e2 (by omega)]
    congr 3
    rw [decide_eq_decide]
    omega
  · rw [if_neg (by omega)]
    congr 3
    simp [hs]
/-- What Validate answers. -/
def Ex.val (e : Ex) (letters : Int) : Int :=
  if 1 ≤ letters ∧ letters ≤ 6 then (if e.depth ≤ 40 ∧ e.size ≤ 400 then (if e.wf letters = true then 0 else 4) else 3) else 1
theorem Validate_spec (e : Ex) (h : e.Ok) (letters : Int) : CC F_expr_Validate (exA e [.int .i64 letters]) = some [.int .i64 (e.val letters)] := by
  refine f_expr_Validate_of ?_
  unfold f_expr_Validate Ex.val
  rw [withinLimits_spec e h, wellFormed_spec e h]
  by_cases h1 : 1 ≤ letters
  · by_cases h2 : letters ≤ 6
    · by_cases h3 : e.depth ≤ 40 ∧ e.size ≤ 400
      · cases h4 : e.wf letters <;> simp [h1, h2, h3, show ¬ letters < 1 by omega, show ¬ 6 < letters by omega]
      · simp [h1, h2, h3, show ¬ letters < 1 by omega, show ¬ 6 < letters by omega]
    · simp [h1, h2, show ¬ letters < 1 by omega, show 6 < letters by omega]
  · simp [h1, show letters < 1 by omega]
theorem refValidate_spec (e : Ex) (h : e.Ok) (letters : Int) : CC F_semigroupref04_Validate (exA e [.int .i64 letters]) = some [.int .i64 (e.val letters)] := by
  refine f_semigroupref04_Validate_of ?_
  unfold f_semigroupref04_Validate Ex.val
  rw [within_spec e h, shaped_spec e h, mayLetters_spec]
  by_cases h1 : 1 ≤ letters ∧ letters ≤ 6
  · by_cases h3 : e.depth ≤ 40 ∧ e.size ≤ 400
    · cases h4 : e.wf letters <;> simp [h1, h3]
    · simp [h1, h3]
  · simp [h1]
end Go.AM

set_option maxRecDepth 100000
namespace Go.AM
open Go.Proofs
noncomputable abbrev B_expr_Size : Code := bodyOf Try.prog (ann.fid 21)
noncomputable def LT_expr_Size (C : CallF) : LTab := fun β n ds k =>
  none
noncomputable def f_expr_Size (C : CallF) (e_0 e_1 : Int) (e_2 : List V) : Option (List V) :=
  (C F_expr_valid [.int .i64 e_0, .int .i64 e_1, .list T_api_Expr e_2]).bind fun r1 =>
  bif !((V.nth r1 0).toBool) then
   some [.int .i64 0]
  else
   (C F_expr_size [.int .i64 e_0, .int .i64 e_1, .list T_api_Expr e_2]).bind fun r2 =>
   some [.int .i64 ((V.nth r2 0).toInt)]
theorem f_expr_Size_eq (C : CallF) (e_0 e_1 : Int) (e_2 : List V) : bodyT Try.prog ann C (LT_expr_Size C) 21 [.int .i64 e_0, .int .i64 e_1, .list T_api_Expr e_2] = f_expr_Size C e_0 e_1 e_2 := by kernel_rfl
theorem f_expr_Size_of {e_0 e_1 : Int} {e_2 : List V} {r : Option (List V)} (h : f_expr_Size CC e_0 e_1 e_2 = r) : CC F_expr_Size [.int .i64 e_0, .int .i64 e_1, .list T_api_Expr e_2] = r :=
  func_of (key := 21) (L := LT_expr_Size CC) (bs := []) (by kernel_rfl) tells_nil ((f_expr_Size_eq CC e_0 e_1 e_2).trans h)
end Go.AM

set_option maxRecDepth 100000
namespace Go.AM
open Go.Proofs
noncomputable abbrev B_expr_size : Code := bodyOf Try.prog (ann.fid 47)
noncomputable def s_expr_size_1 (C : CallF) (t7 : List V) (t8 nodes t9 : Int) {β : Type} (kn : (Int × Int) → Option β) (kr : (Int × Int × Bool) → Option β) : Option β :=
  bif decide ((t9 : Int) < t8) then
   (idx t7 t9).bind fun x1 =>
   (C F_expr_size [.int .i64 ((x1.cell 0).toInt), .int .i64 ((x1.cell 1).toInt), .list T_api_Expr ((x1.cell 2).toList)]).bind fun r2 =>
   kn (IntKind.wrap .i64 (nodes + ((V.nth r2 0).toInt)), IntKind.wrap .i64 (t9 + 1))
  else
   kr (nodes, t9, decide ((t9 : Int) < t8))
noncomputable def s_expr_size_1L (C : CallF) (t7 : List V) (t8 : Int) : (Int × Int) → Option ((Int × Int) ⊕ (Int × Int × Bool)) := un fun nodes t9 => s_expr_size_1 C t7 t8 nodes t9 (fun y => some (.inl y)) (fun r => some (.inr r))
def w_expr_size_1 (t7 : List V) (t8 : Int) (β : Type) (k : Nat → List V → Option β) : (Int × Int × Bool) → Option β := (un fun (v0 : Int) => un fun (v3 : Int) (v4 : Bool) => k 0 [.int .i64 v0, .list T_api_Expr t7, .int .i64 t8, .int .i64 v3, .bool v4])
noncomputable def l_expr_size_1 (C : CallF) (β : Type) (ds : List V) (k : Nat → List V → Option β) : Option β :=
  (Loop (s_expr_size_1L C ((V.nth (ds.drop 1) 0).toList) ((V.nth ((ds.drop 1).drop 1) 0).toInt)) ((V.nth ds 0).toInt, (V.nth (((ds.drop 1).drop 1).drop 1) 0).toInt)).bind (w_expr_size_1 ((V.nth (ds.drop 1) 0).toList) ((V.nth ((ds.drop 1).drop 1) 0).toInt) β k)
noncomputable def LT_expr_size (C : CallF) : LTab := fun β n ds k =>
  bif Nat.beq n 49 then l_expr_size_1 C β ds k else
  none
theorem t_expr_size_1 (C : CallF) : Tells Try.prog ann C (LT_expr_size C) 47 (ntmpsOf Try.prog (ann.fid 47)) (ann.sin 47).blks.length (.loop (codeAt [1, 1, 0, 1, 0, 0] B_expr_size)) :=
  tells_loop2 (I := (List V) × Int) (X := Int × Int) (R := Int × Int × Bool) (S := (⟨[(3, .one (.int .i64)), (7, .one (.list T_api_Expr)), (8, .one (.int .i64)), (9, .one (.int .i64))], []⟩, [(.exit 0, ⟨[(3, .one (.int .i64)), (7, .one (.list T_api_Expr)), (8, .one (.int .i64)), (9, .one (.int .i64)), (10, .one (.bool))], []⟩)])) (by kernel_rfl) (ltok_of (bs := []) (by kernel_rfl) tells_nil)
    (un fun (t7 : List V) (t8 : Int) => (un fun (nodes : Int) (t9 : Int) => [.int .i64 nodes, .list T_api_Expr t7, .int .i64 t8, .int .i64 t9] : (Int × Int) → List V)) (un fun (t7 : List V) (t8 : Int) => w_expr_size_1 t7 t8)
    (fun ds => ((V.nth (ds.drop 1) 0).toList, (V.nth ((ds.drop 1).drop 1) 0).toInt)) (fun ds => ((V.nth ds 0).toInt, (V.nth (((ds.drop 1).drop 1).drop 1) 0).toInt)) (fun e => ((V.nth e.2 0).toInt, (V.nth (((e.2.drop 1).drop 1).drop 1) 0).toInt, (V.nth ((((e.2.drop 1).drop 1).drop 1).drop 1) 0).toBool))
    (un fun (t7 : List V) (t8 : Int) => (un fun (nodes : Int) (t9 : Int) => fun β kn kr => s_expr_size_1 C t7 t8 nodes t9 kn kr : (Int × Int) → (β : Type) → ((Int × Int) → Option β) → ((Int × Int × Bool) → Option β) → Option β))
    (l_expr_size_1 C) (fun ds => by kernel_rfl) (fun i x => by kernel_rfl) (fun i r => by skip <;> kernel_rfl)
    (fun i x β k => by kernel_rfl) (fun β ds k => by kernel_rfl) (fun β ds k => by kernel_rfl) (fun i β k r => by skip <;> kernel_rfl)
noncomputable def f_expr_size (C : CallF) (e_0 e_1 : Int) (e_2 : List V) : Option (List V) :=
  (Loop (s_expr_size_1L C e_2 (e_2.length : Int)) (1, 0)).bind (un fun (nodes_3 : Int) => un fun (t_4 : Int) (t_5 : Bool) =>
    some [.int .i64 nodes_3])
theorem f_expr_size_eq (C : CallF) (e_0 e_1 : Int) (e_2 : List V) : bodyT Try.prog ann C (LT_expr_size C) 47 [.int .i64 e_0, .int .i64 e_1, .list T_api_Expr e_2] = f_expr_size C e_0 e_1 e_2 := by kernel_rfl
theorem f_expr_size_of {e_0 e_1 : Int} {e_2 : List V} {r : Option (List V)} (h : f_expr_size CC e_0 e_1 e_2 = r) : CC F_expr_size [.int .i64 e_0, .int .i64 e_1, .list T_api_Expr e_2] = r :=
  func_of (key := 47) (L := LT_expr_size CC) (bs := [.loop (codeAt [1, 1, 0, 1, 0, 0] B_expr_size)]) (by kernel_rfl) (tells_cons (t_expr_size_1 CC) tells_nil) ((f_expr_size_eq CC e_0 e_1 e_2).trans h)
end Go.AM

set_option maxRecDepth 100000
namespace Go.AM
open Go.Proofs
noncomputable abbrev B_expr_Depth : Code := bodyOf Try.prog (ann.fid 22)
noncomputable def LT_expr_Depth (C : CallF) : LTab := fun β n ds k =>
  none
noncomputable def f_expr_Depth (C : CallF) (e_0 e_1 : Int) (e_2 : List V) : Option (List V) :=
  (C F_expr_valid [.int .i64 e_0, .int .i64 e_1, .list T_api_Expr e_2]).bind fun r1 =>
  bif !((V.nth r1 0).toBool) then
   some [.int .i64 0]
  else
   (C F_expr_depth [.int .i64 e_0, .int .i64 e_1, .list T_api_Expr e_2]).bind fun r2 =>
   some [.int .i64 ((V.nth r2 0).toInt)]
theorem f_expr_Depth_eq (C : CallF) (e_0 e_1 : Int) (e_2 : List V) : bodyT Try.prog ann C (LT_expr_Depth C) 22 [.int .i64 e_0, .int .i64 e_1, .list T_api_Expr e_2] = f_expr_Depth C e_0 e_1 e_2 := by kernel_rfl
theorem f_expr_Depth_of {e_0 e_1 : Int} {e_2 : List V} {r : Option (List V)} (h : f_expr_Depth CC e_0 e_1 e_2 = r) : CC F_expr_Depth [.int .i64 e_0, .int .i64 e_1, .list T_api_Expr e_2] = r :=
  func_of (key := 22) (L := LT_expr_Depth CC) (bs := []) (by kernel_rfl) tells_nil ((f_expr_Depth_eq CC e_0 e_1 e_2).trans h)
end Go.AM

set_option maxRecDepth 100000
namespace Go.AM
open Go.Proofs
noncomputable abbrev B_expr_depth : Code := bodyOf Try.prog (ann.fid 48)
noncomputable def s_expr_depth_1 (C : CallF) (t7 : List V) (t8 greatest t9 : Int) {β : Type} (kn : (Int × Int) → Option β) (kr : (Int × Int × Bool) → Option β) : Option β :=
  bif decide ((t9 : Int) < t8) then
   (idx t7 t9).bind fun x1 =>
   (C F_expr_depth [.int .i64 ((x1.cell 0).toInt), .int .i64 ((x1.cell 1).toInt), .list T_api_Expr ((x1.cell 2).toList)]).bind fun r2 =>
   kn (if ((V.nth r2 0).toInt) > greatest then ((V.nth r2 0).toInt) else greatest, IntKind.wrap .i64 (t9 + 1))
  else
   kr (greatest, t9, decide ((t9 : Int) < t8))
noncomputable def s_expr_depth_1L (C : CallF) (t7 : List V) (t8 : Int) : (Int × Int) → Option ((Int × Int) ⊕ (Int × Int × Bool)) := un fun greatest t9 => s_expr_depth_1 C t7 t8 greatest t9 (fun y => some (.inl y)) (fun r => some (.inr r))
def w_expr_depth_1 (t7 : List V) (t8 : Int) (β : Type) (k : Nat → List V → Option β) : (Int × Int × Bool) → Option β := (un fun (v0 : Int) => un fun (v3 : Int) (v4 : Bool) => k 0 [.int .i64 v0, .list T_api_Expr t7, .int .i64 t8, .int .i64 v3, .bool v4])
noncomputable def l_expr_depth_1 (C : CallF) (β : Type) (ds : List V) (k : Nat → List V → Option β) : Option β :=
  (Loop (s_expr_depth_1L C ((V.nth (ds.drop 1) 0).toList) ((V.nth ((ds.drop 1).drop 1) 0).toInt)) ((V.nth ds 0).toInt, (V.nth (((ds.drop 1).drop 1).drop 1) 0).toInt)).bind (w_expr_depth_1 ((V.nth (ds.drop 1) 0).toList) ((V.nth ((ds.drop 1).drop 1) 0).toInt) β k)
noncomputable def LT_expr_depth (C : CallF) : LTab := fun β n ds k =>
  bif Nat.beq n 49 then l_expr_depth_1 C β ds k else
  none
theorem t_expr_depth_1 (C : CallF) : Tells Try.prog ann C (LT_expr_depth C) 48 (ntmpsOf Try.prog (ann.fid 48)) (ann.sin 48).blks.length (.loop (codeAt [1, 1, 0, 1, 0, 0] B_expr_depth)) :=
  tells_loop2 (I := (List V) × Int) (X := Int × Int) (R := Int × Int × Bool) (S := (⟨[(3, .one (.int .i64)), (7, .one (.list T_api_Expr)), (8, .one (.int .i64)), (9, .one (.int .i64))], []⟩, [(.exit 0, ⟨[(3, .one (.int .i64)), (7, .one (.list T_api_Expr)), (8, .one (.int .i64)), (9, .one (.int .i64)), (10, .one (.bool))], []⟩)])) (by kernel_rfl) (ltok_of (bs := []) (by kernel_rfl) tells_nil)
    (un fun (t7 : List V) (t8 : Int) => (un fun (greatest : Int) (t9 : Int) => [.int .i64 greatest, .list T_api_Expr t7, .int .i64 t8, .int .i64 t9] : (Int × Int) → List V)) (un fun (t7 : List V) (t8 : Int) => w_expr_depth_1 t7 t8)
    (fun ds => ((V.nth (ds.drop 1) 0).toList, (V.nth ((ds.drop 1).drop 1) 0).toInt)) (fun ds => ((V.nth ds 0).toInt, (V.nth (((ds.drop 1).drop 1).drop 1) 0).toInt)) (fun e => ((V.nth e.2 0).toInt, (V.nth (((e.2.drop 1).drop 1).drop 1) 0).toInt, (V.nth ((((e.2.drop 1).drop 1).drop 1).drop 1) 0).toBool))
    (un fun (t7 : List V) (t8 : Int) => (un fun (greatest : Int) (t9 : Int) => fun β kn kr => s_expr_depth_1 C t7 t8 greatest t9 kn kr : (Int × Int) → (β : Type) → ((Int × Int) → Option β) → ((Int × Int × Bool) → Option β) → Option β))
    (l_expr_depth_1 C) (fun ds => by kernel_rfl) (fun i x => by kernel_rfl) (fun i r => by skip <;> kernel_rfl)
    (fun i x β k => by kernel_rfl) (fun β ds k => by kernel_rfl) (fun β ds k => by kernel_rfl) (fun i β k r => by skip <;> kernel_rfl)
noncomputable def f_expr_depth (C : CallF) (e_0 e_1 : Int) (e_2 : List V) : Option (List V) :=
  (Loop (s_expr_depth_1L C e_2 (e_2.length : Int)) (0, 0)).bind (un fun (greatest_3 : Int) => un fun (t_4 : Int) (t_5 : Bool) =>
    some [.int .i64 (IntKind.wrap .i64 (1 + greatest_3))])
theorem f_expr_depth_eq (C : CallF) (e_0 e_1 : Int) (e_2 : List V) : bodyT Try.prog ann C (LT_expr_depth C) 48 [.int .i64 e_0, .int .i64 e_1, .list T_api_Expr e_2] = f_expr_depth C e_0 e_1 e_2 := by kernel_rfl
theorem f_expr_depth_of {e_0 e_1 : Int} {e_2 : List V} {r : Option (List V)} (h : f_expr_depth CC e_0 e_1 e_2 = r) : CC F_expr_depth [.int .i64 e_0, .int .i64 e_1, .list T_api_Expr e_2] = r :=
  func_of (key := 48) (L := LT_expr_depth CC) (bs := [.loop (codeAt [1, 1, 0, 1, 0, 0] B_expr_depth)]) (by kernel_rfl) (tells_cons (t_expr_depth_1 CC) tells_nil) ((f_expr_depth_eq CC e_0 e_1 e_2).trans h)
end Go.AM

set_option maxRecDepth 100000
namespace Go.AM
open Go.Proofs
noncomputable abbrev B_expr_StarHeight : Code := bodyOf Try.prog (ann.fid 23)
noncomputable def LT_expr_StarHeight (C : CallF) : LTab := fun β n ds k =>
  none
noncomputable def f_expr_StarHeight (C : CallF) (e_0 e_1 : Int) (e_2 : List V) : Option (List V) :=
  (C F_expr_valid [.int .i64 e_0, .int .i64 e_1, .list T_api_Expr e_2]).bind fun r1 =>
  bif !((V.nth r1 0).toBool) then
   some [.int .i64 0]
  else
   (C F_expr_starHeight [.int .i64 e_0, .int .i64 e_1, .list T_api_Expr e_2]).bind fun r2 =>
   some [.int .i64 ((V.nth r2 0).toInt)]
theorem f_expr_StarHeight_eq (C : CallF) (e_0 e_1 : Int) (e_2 : List V) : bodyT Try.prog ann C (LT_expr_StarHeight C) 23 [.int .i64 e_0, .int .i64 e_1, .list T_api_Expr e_2] = f_expr_StarHeight C e_0 e_1 e_2 := by kernel_rfl
theorem f_expr_StarHeight_of {e_0 e_1 : Int} {e_2 : List V} {r : Option (List V)} (h : f_expr_StarHeight CC e_0 e_1 e_2 = r) : CC F_expr_StarHeight [.int .i64 e_0, .int .i64 e_1, .list T_api_Expr e_2] = r :=
  func_of (key := 23) (L := LT_expr_StarHeight CC) (bs := []) (by kernel_rfl) tells_nil ((f_expr_StarHeight_eq CC e_0 e_1 e_2).trans h)
end Go.AM

set_option maxRecDepth 100000
namespace Go.AM
open Go.Proofs
noncomputable abbrev B_expr_starHeight : Code := bodyOf Try.prog (ann.fid 49)
noncomputable def s_expr_starHeight_1 (C : CallF) (t7 : List V) (t8 es_0 es_1 : Int) (es_2 : List V) (greatest t9 : Int) {β : Type} (kn : (Int × Int) → Option β) (kr : (Int × Int × Bool) → Option β) : Option β :=
  bif decide ((t9 : Int) < t8) then
   (idx t7 t9).bind fun x1 =>
   (C F_expr_starHeight [.int .i64 ((x1.cell 0).toInt), .int .i64 ((x1.cell 1).toInt), .list T_api_Expr ((x1.cell 2).toList)]).bind fun r2 =>
   kn (if ((V.nth r2 0).toInt) > greatest then ((V.nth r2 0).toInt) else greatest, IntKind.wrap .i64 (t9 + 1))
  else
   kr (greatest, t9, decide ((t9 : Int) < t8))
noncomputable def s_expr_starHeight_1L (C : CallF) (t7 : List V) (t8 es_0 es_1 : Int) (es_2 : List V) : (Int × Int) → Option ((Int × Int) ⊕ (Int × Int × Bool)) := un fun greatest t9 => s_expr_starHeight_1 C t7 t8 es_0 es_1 es_2 greatest t9 (fun y => some (.inl y)) (fun r => some (.inr r))
def w_expr_starHeight_1 (t7 : List V) (t8 es_0 es_1 : Int) (es_2 : List V) (β : Type) (k : Nat → List V → Option β) : (Int × Int × Bool) → Option β := (un fun (v0 : Int) => un fun (v3 : Int) (v4 : Bool) => k 0 [.int .i64 v0, .list T_api_Expr t7, .int .i64 t8, .int .i64 v3, .bool v4, .int .i64 es_0, .int .i64 es_1, .list T_api_Expr es_2])
noncomputable def l_expr_starHeight_1 (C : CallF) (β : Type) (ds : List V) (k : Nat → List V → Option β) : Option β :=
  (Loop (s_expr_starHeight_1L C ((V.nth (ds.drop 1) 0).toList) ((V.nth ((ds.drop 1).drop 1) 0).toInt) ((V.nth (ds.drop 4) 0).toInt) ((V.nth ((ds.drop 4).drop 1) 0).toInt) ((V.nth (((ds.drop 4).drop 1).drop 1) 0).toList)) ((V.nth ds 0).toInt, (V.nth (((ds.drop 1).drop 1).drop 1) 0).toInt)).bind (w_expr_starHeight_1 ((V.nth (ds.drop 1) 0).toList) ((V.nth ((ds.drop 1).drop 1) 0).toInt) ((V.nth (ds.drop 4) 0).toInt) ((V.nth ((ds.drop 4).drop 1) 0).toInt) ((V.nth (((ds.drop 4).drop 1).drop 1) 0).toList) β k)
noncomputable def LT_expr_starHeight (C : CallF) : LTab := fun β n ds k =>
  bif Nat.beq n 49 then l_expr_starHeight_1 C β ds k else
  none
theorem t_expr_starHeight_1 (C : CallF) : Tells Try.prog ann C (LT_expr_starHeight C) 49 (ntmpsOf Try.prog (ann.fid 49)) (ann.sin 49).blks.length (.loop (codeAt [1, 1, 0, 1, 0, 0] B_expr_starHeight)) :=
  tells_loop2 (I := (List V) × Int × Int × Int × (List V)) (X := Int × Int) (R := Int × Int × Bool) (S := (⟨[(1, .one (.ptrC 0 0 0)), (3, .one (.int .i64)), (7, .one (.list T_api_Expr)), (8, .one (.int .i64)), (9, .one (.int .i64))], [.var 24 [.one (.int .i64), .one (.int .i64), .one (.list T_api_Expr)]]⟩, [(.exit 0, ⟨[(1, .one (.ptrC 0 0 0)), (3, .one (.int .i64)), (7, .one (.list T_api_Expr)), (8, .one (.int .i64)), (9, .one (.int .i64)), (10, .one (.bool))], [.var 24 [.one (.int .i64), .one (.int .i64), .one (.list T_api_Expr)]]⟩)])) (by kernel_rfl) (ltok_of (bs := []) (by kernel_rfl) tells_nil)
    (un fun (t7 : List V) => un fun (t8 : Int) => un fun (es_0 : Int) => un fun (es_1 : Int) (es_2 : List V) => (un fun (greatest : Int) (t9 : Int) => [.int .i64 greatest, .list T_api_Expr t7, .int .i64 t8, .int .i64 t9, .int .i64 es_0, .int .i64 es_1, .list T_api_Expr es_2] : (Int × Int) → List V)) (un fun (t7 : List V) => un fun (t8 : Int) => un fun (es_0 : Int) => un fun (es_1 : Int) (es_2 : List V) => w_expr_starHeight_1 t7 t8 es_0 es_1 es_2)
    (fun ds => ((V.nth (ds.drop 1) 0).toList, (V.nth ((ds.drop 1).drop 1) 0).toInt, (V.nth (ds.drop 4) 0).toInt, (V.nth ((ds.drop 4).drop 1) 0).toInt, (V.nth (((ds.drop 4).drop 1).drop 1) 0).toList)) (fun ds => ((V.nth ds 0).toInt, (V.nth (((ds.drop 1).drop 1).drop 1) 0).toInt)) (fun e => ((V.nth e.2 0).toInt, (V.nth (((e.2.drop 1).drop 1).drop 1) 0).toInt, (V.nth ((((e.2.drop 1).drop 1).drop 1).drop 1) 0).toBool))
    (un fun (t7 : List V) => un fun (t8 : Int) => un fun (es_0 : Int) => un fun (es_1 : Int) (es_2 : List V) => (un fun (greatest : Int) (t9 : Int) => fun β kn kr => s_expr_starHeight_1 C t7 t8 es_0 es_1 es_2 greatest t9 kn kr : (Int × Int) → (β : Type) → ((Int × Int) → Option β) → ((Int × Int × Bool) → Option β) → Option β))
    (l_expr_starHeight_1 C) (fun ds => by kernel_rfl) (fun i x => by kernel_rfl) (fun i r => by skip <;> kernel_rfl)
    (fun i x β k => by kernel_rfl) (fun β ds k => by kernel_rfl) (fun β ds k => by kernel_rfl) (fun i β k r => by skip <;> kernel_rfl)
noncomputable def f_expr_starHeight (C : CallF) (e_0 e_1 : Int) (e_2 : List V) : Option (List V) :=
  (Loop (s_expr_starHeight_1L C e_2 (e_2.length : Int) e_0 e_1 e_2) (0, 0)).bind (un fun (greatest_3 : Int) => un fun (t_4 : Int) (t_5 : Bool) =>
    bif (e_0 : Int) == 7 then
     some [.int .i64 (IntKind.wrap .i64 (greatest_3 + 1))]
    else
     some [.int .i64 greatest_3])
theorem f_expr_starHeight_eq (C : CallF) (e_0 e_1 : Int) (e_2 : List V) : bodyT Try.prog ann C (LT_expr_starHeight C) 49 [.int .i64 e_0, .int .i64 e_1, .list T_api_Expr e_2] = f_expr_starHeight C e_0 e_1 e_2 := by kernel_rfl
theorem f_expr_starHeight_of {e_0 e_1 : Int} {e_2 : List V} {r : Option (List V)} (h : f_expr_starHeight CC e_0 e_1 e_2 = r) : CC F_expr_starHeight [.int .i64 e_0, .int .i64 e_1, .list T_api_Expr e_2] = r :=
  func_of (key := 49) (L := LT_expr_starHeight CC) (bs := [.loop (codeAt [1, 1, 0, 1, 0, 0] B_expr_starHeight)]) (by kernel_rfl) (tells_cons (t_expr_starHeight_1 CC) tells_nil) ((f_expr_starHeight_eq CC e_0 e_1 e_2).trans h)
end Go.AM

set_option maxRecDepth 100000
namespace Go.AM
open Go.Proofs
noncomputable abbrev B_expr_StarFree : Code := bodyOf Try.prog (ann.fid 24)
noncomputable def LT_expr_StarFree (C : CallF) : LTab := fun β n ds k =>
  none
noncomputable def f_expr_StarFree (C : CallF) (e_0 e_1 : Int) (e_2 : List V) : Option (List V) :=
  (C F_expr_valid [.int .i64 e_0, .int .i64 e_1, .list T_api_Expr e_2]).bind fun r1 =>
  bif (V.nth r1 0).toBool then
   (C F_expr_starHeight [.int .i64 e_0, .int .i64 e_1, .list T_api_Expr e_2]).bind fun r2 =>
   some [.bool ((((V.nth r2 0).toInt) : Int) == 0)]
  else
   some [.bool false]
theorem f_expr_StarFree_eq (C : CallF) (e_0 e_1 : Int) (e_2 : List V) : bodyT Try.prog ann C (LT_expr_StarFree C) 24 [.int .i64 e_0, .int .i64 e_1, .list T_api_Expr e_2] = f_expr_StarFree C e_0 e_1 e_2 := by kernel_rfl
theorem f_expr_StarFree_of {e_0 e_1 : Int} {e_2 : List V} {r : Option (List V)} (h : f_expr_StarFree CC e_0 e_1 e_2 = r) : CC F_expr_StarFree [.int .i64 e_0, .int .i64 e_1, .list T_api_Expr e_2] = r :=
  func_of (key := 24) (L := LT_expr_StarFree CC) (bs := []) (by kernel_rfl) tells_nil ((f_expr_StarFree_eq CC e_0 e_1 e_2).trans h)
end Go.AM

set_option maxRecDepth 100000
namespace Go.AM
open Go.Proofs
noncomputable abbrev B_expr_Nullable : Code := bodyOf Try.prog (ann.fid 25)
noncomputable def LT_expr_Nullable (C : CallF) : LTab := fun β n ds k =>
  none
noncomputable def f_expr_Nullable (C : CallF) (e_0 e_1 : Int) (e_2 : List V) : Option (List V) :=
  (C F_expr_valid [.int .i64 e_0, .int .i64 e_1, .list T_api_Expr e_2]).bind fun r1 =>
  bif (V.nth r1 0).toBool then
   (C F_expr_HasUnit [.int .i64 e_0, .int .i64 e_1, .list T_api_Expr e_2]).bind fun r2 =>
   some [.bool ((V.nth r2 0).toBool)]
  else
   some [.bool false]
theorem f_expr_Nullable_eq (C : CallF) (e_0 e_1 : Int) (e_2 : List V) : bodyT Try.prog ann C (LT_expr_Nullable C) 25 [.int .i64 e_0, .int .i64 e_1, .list T_api_Expr e_2] = f_expr_Nullable C e_0 e_1 e_2 := by kernel_rfl
theorem f_expr_Nullable_of {e_0 e_1 : Int} {e_2 : List V} {r : Option (List V)} (h : f_expr_Nullable CC e_0 e_1 e_2 = r) : CC F_expr_Nullable [.int .i64 e_0, .int .i64 e_1, .list T_api_Expr e_2] = r :=
  func_of (key := 25) (L := LT_expr_Nullable CC) (bs := []) (by kernel_rfl) tells_nil ((f_expr_Nullable_eq CC e_0 e_1 e_2).trans h)
end Go.AM

set_option maxRecDepth 100000
namespace Go.AM
open Go.Proofs
noncomputable abbrev B_expr_HasUnit : Code := bodyOf Try.prog (ann.fid 50)
noncomputable def s_expr_HasUnit_1 (C : CallF) (t19 : List V) (t20 t21 : Int) {β : Type} (kn : Int → Option β) (kr : ((Bool) ⊕ (Int × Bool)) → Option β) : Option β :=
  bif decide ((t21 : Int) < t20) then
   (idx t19 t21).bind fun x2 =>
   (C F_expr_HasUnit [.int .i64 ((x2.cell 0).toInt), .int .i64 ((x2.cell 1).toInt), .list T_api_Expr ((x2.cell 2).toList)]).bind fun r3 =>
   bif !((V.nth r3 0).toBool) then
    kr (.inl false)
   else
    kn (IntKind.wrap .i64 (t21 + 1))
  else
   kr (.inr (t21, decide ((t21 : Int) < t20)))
noncomputable def s_expr_HasUnit_1L (C : CallF) (t19 : List V) (t20 : Int) : (Int) → Option ((Int) ⊕ ((Bool) ⊕ (Int × Bool))) := fun t21 => s_expr_HasUnit_1 C t19 t20 t21 (fun y => some (.inl y)) (fun r => some (.inr r))
def w_expr_HasUnit_1 (t19 : List V) (t20 : Int) (β : Type) (k : Nat → List V → Option β) : ((Bool) ⊕ (Int × Bool)) → Option β := (way2 (fun (v0 : Bool) => k 0 [.bool v0]) (un fun (v2 : Int) (v3 : Bool) => k 1 [.list T_api_Expr t19, .int .i64 t20, .int .i64 v2, .bool v3]))
noncomputable def l_expr_HasUnit_1 (C : CallF) (β : Type) (ds : List V) (k : Nat → List V → Option β) : Option β :=
  (Loop (s_expr_HasUnit_1L C ((V.nth ds 0).toList) ((V.nth (ds.drop 1) 0).toInt)) ((V.nth ((ds.drop 1).drop 1) 0).toInt)).bind (w_expr_HasUnit_1 ((V.nth ds 0).toList) ((V.nth (ds.drop 1) 0).toInt) β k)
noncomputable def LT_expr_HasUnit (C : CallF) : LTab := fun β n ds k =>
  bif Nat.beq n 161 then l_expr_HasUnit_1 C β ds k else
  none
theorem t_expr_HasUnit_1 (C : CallF) : Tells Try.prog ann C (LT_expr_HasUnit C) 50 (ntmpsOf Try.prog (ann.fid 50)) (ann.sin 50).blks.length (.loop (codeAt [1, 0, 1, 0, 1, 1, 1, 1, 1, 0, 0, 1, 0, 0] B_expr_HasUnit)) :=
  tells_loop2 (I := (List V) × Int) (X := Int) (R := (Bool) ⊕ (Int × Bool)) (S := (⟨[(19, .one (.list T_api_Expr)), (20, .one (.int .i64)), (21, .one (.int .i64))], []⟩, [(.ret, ⟨[(2, .one (.bool))], []⟩), (.exit 1, ⟨[(19, .one (.list T_api_Expr)), (20, .one (.int .i64)), (21, .one (.int .i64)), (22, .one (.bool))], []⟩)])) (by kernel_rfl) (ltok_of (bs := []) (by kernel_rfl) tells_nil)
    (un fun (t19 : List V) (t20 : Int) => (fun (t21 : Int) => [.list T_api_Expr t19, .int .i64 t20, .int .i64 t21] : (Int) → List V)) (un fun (t19 : List V) (t20 : Int) => w_expr_HasUnit_1 t19 t20)
    (fun ds => ((V.nth ds 0).toList, (V.nth (ds.drop 1) 0).toInt)) (fun ds => ((V.nth ((ds.drop 1).drop 1) 0).toInt)) (fun e => bif Nat.beq e.1 0 then (.inl ((V.nth e.2 0).toBool)) else (.inr ((V.nth ((e.2.drop 1).drop 1) 0).toInt, (V.nth (((e.2.drop 1).drop 1).drop 1) 0).toBool)))
    (un fun (t19 : List V) (t20 : Int) => (fun (t21 : Int) => fun β kn kr => s_expr_HasUnit_1 C t19 t20 t21 kn kr : (Int) → (β : Type) → ((Int) → Option β) → (((Bool) ⊕ (Int × Bool)) → Option β) → Option β))
    (l_expr_HasUnit_1 C) (fun ds => by kernel_rfl) (fun i x => by kernel_rfl) (fun i r => by rcases r with r | r <;> kernel_rfl)
    (fun i x β k => by kernel_rfl) (fun β ds k => by kernel_rfl) (fun β ds k => by kernel_rfl) (fun i β k r => by rcases r with r | r <;> kernel_rfl)
noncomputable def f_expr_HasUnit (C : CallF) (e_0 e_1 : Int) (e_2 : List V) : Option (List V) :=
  bif (e_0 : Int) == 2 then
   bif (e_0 : Int) == 2 then
    some [.bool true]
   else
    bif (e_0 : Int) == 4 then
     (C F_slices_ContainsFunc___api_Expr_api_Expr_ [.list T_api_Expr e_2]).bind fun r1 =>
     some [.bool ((V.nth r1 0).toBool)]
    else
     bif (e_0 : Int) == 5 then
      bif (e_0 : Int) == 5 then
       (Loop (s_expr_HasUnit_1L C e_2 (e_2.length : Int)) 0).bind (way2 (fun (t_4 : Bool) =>
         some [.bool t_4]) (un fun (t_5 : Int) (t_6 : Bool) =>
         some [.bool true]))
      else
       bif (e_0 : Int) == 8 then
        bif ((e_2.length : Int) : Int) == 1 then
         (e_2[0]?).bind fun x7 =>
         (C F_expr_HasUnit [.int .i64 ((x7.cell 0).toInt), .int .i64 ((x7.cell 1).toInt), .list T_api_Expr ((x7.cell 2).toList)]).bind fun r8 =>
         some [.bool (!((V.nth r8 0).toBool))]
        else
         some [.bool false]
       else
        some [.bool false]
     else
      bif (e_0 : Int) == 6 then
       (Loop (s_expr_HasUnit_1L C e_2 (e_2.length : Int)) 0).bind (way2 (fun (t_9 : Bool) =>
         some [.bool t_9]) (un fun (t_10 : Int) (t_11 : Bool) =>
         some [.bool true]))
      else
       bif (e_0 : Int) == 8 then
        bif ((e_2.length : Int) : Int) == 1 then
         (e_2[0]?).bind fun x12 =>
         (C F_expr_HasUnit [.int .i64 ((x12.cell 0).toInt), .int .i64 ((x12.cell 1).toInt), .list T_api_Expr ((x12.cell 2).toList)]).bind fun r13 =>
         some [.bool (!((V.nth r13 0).toBool))]
        else
         some [.bool false]
       else
        some [.bool false]
  else
   bif (e_0 : Int) == 7 then
    some [.bool true]
   else
    bif (e_0 : Int) == 4 then
     (C F_slices_ContainsFunc___api_Expr_api_Expr_ [.list T_api_Expr e_2]).bind fun r14 =>
     some [.bool ((V.nth r14 0).toBool)]
    else
     bif (e_0 : Int) == 5 then
      bif (e_0 : Int) == 5 then
       (Loop (s_expr_HasUnit_1L C e_2 (e_2.length : Int)) 0).bind (way2 (fun (t_15 : Bool) =>
         some [.bool t_15]) (un fun (t_16 : Int) (t_17 : Bool) =>
         some [.bool true]))
      else
       bif (e_0 : Int) == 8 then
        bif ((e_2.length : Int) : Int) == 1 then
         (e_2[0]?).bind fun x18 =>
         (C F_expr_HasUnit [.int .i64 ((x18.cell 0).toInt), .int .i64 ((x18.cell 1).toInt), .list T_api_Expr ((x18.cell 2).toList)]).bind fun r19 =>
         some [.bool (!((V.nth r19 0).toBool))]
        else
         some [.bool false]
       else
        some [.bool false]
     else
      bif (e_0 : Int) == 6 then
       (Loop (s_expr_HasUnit_1L C e_2 (e_2.length : Int)) 0).bind (way2 (fun (t_20 : Bool) =>
         some [.bool t_20]) (un fun (t_21 : Int) (t_22 : Bool) =>
         some [.bool true]))
      else
       bif (e_0 : Int) == 8 then
        bif ((e_2.length : Int) : Int) == 1 then
         (e_2[0]?).bind fun x23 =>
         (C F_expr_HasUnit [.int .i64 ((x23.cell 0).toInt), .int .i64 ((x23.cell 1).toInt), .list T_api_Expr ((x23.cell 2).toList)]).bind fun r24 =>
         some [.bool (!((V.nth r24 0).toBool))]
        else
         some [.bool false]
       else
        some [.bool false]
theorem f_expr_HasUnit_eq (C : CallF) (e_0 e_1 : Int) (e_2 : List V) : bodyT Try.prog ann C (LT_expr_HasUnit C) 50 [.int .i64 e_0, .int .i64 e_1, .list T_api_Expr e_2] = f_expr_HasUnit C e_0 e_1 e_2 := by kernel_rfl
theorem f_expr_HasUnit_of {e_0 e_1 : Int} {e_2 : List V} {r : Option (List V)} (h : f_expr_HasUnit CC e_0 e_1 e_2 = r) : CC F_expr_HasUnit [.int .i64 e_0, .int .i64 e_1, .list T_api_Expr e_2] = r :=
  func_of (key := 50) (L := LT_expr_HasUnit CC) (bs := [.loop (codeAt [1, 0, 1, 0, 1, 1, 1, 1, 1, 0, 0, 1, 0, 0] B_expr_HasUnit)]) (by kernel_rfl) (tells_cons (t_expr_HasUnit_1 CC) tells_nil) ((f_expr_HasUnit_eq CC e_0 e_1 e_2).trans h)
end Go.AM

set_option maxRecDepth 100000
namespace Go.AM
open Go.Proofs
noncomputable abbrev B_slices_ContainsFunc___api_Expr_api_Expr_ : Code := bodyOf Try.prog (ann.fid 65)
noncomputable def LT_slices_ContainsFunc___api_Expr_api_Expr_ (C : CallF) : LTab := fun β n ds k =>
  none
noncomputable def f_slices_ContainsFunc___api_Expr_api_Expr_ (C : CallF) (s : List V) : Option (List V) :=
  (C F_slices_IndexFunc___api_Expr_api_Expr_ [.list T_api_Expr s]).bind fun r1 =>
  some [.bool (decide ((((V.nth r1 0).toInt) : Int) ≥ 0))]
theorem f_slices_ContainsFunc___api_Expr_api_Expr__eq (C : CallF) (s : List V) : bodyT Try.prog ann C (LT_slices_ContainsFunc___api_Expr_api_Expr_ C) 65 [.list T_api_Expr s] = f_slices_ContainsFunc___api_Expr_api_Expr_ C s := by kernel_rfl
theorem f_slices_ContainsFunc___api_Expr_api_Expr__of {s : List V} {r : Option (List V)} (h : f_slices_ContainsFunc___api_Expr_api_Expr_ CC s = r) : CC F_slices_ContainsFunc___api_Expr_api_Expr_ [.list T_api_Expr s] = r :=
  func_of (key := 65) (L := LT_slices_ContainsFunc___api_Expr_api_Expr_ CC) (bs := []) (by kernel_rfl) tells_nil ((f_slices_ContainsFunc___api_Expr_api_Expr__eq CC s).trans h)
end Go.AM

set_option maxRecDepth 100000
namespace Go.AM
open Go.Proofs
noncomputable abbrev B_slices_IndexFunc___api_Expr_api_Expr_ : Code := bodyOf Try.prog (ann.fid 72)
noncomputable def s_slices_IndexFunc___api_Expr_api_Expr__1 (C : CallF) (s : List V) (t7 t8 : Int) {β : Type} (kn : Int → Option β) (kr : ((Int) ⊕ (Int × Bool)) → Option β) : Option β :=
  bif decide ((t8 : Int) < t7) then
   (idx s t8).bind fun x1 =>
   (C F_expr_HasUnit [.int .i64 ((x1.cell 0).toInt), .int .i64 ((x1.cell 1).toInt), .list T_api_Expr ((x1.cell 2).toList)]).bind fun r2 =>
   bif (V.nth r2 0).toBool then
    kr (.inl t8)
   else
    kn (IntKind.wrap .i64 (t8 + 1))
  else
   kr (.inr (t8, decide ((t8 : Int) < t7)))
noncomputable def s_slices_IndexFunc___api_Expr_api_Expr__1L (C : CallF) (s : List V) (t7 : Int) : (Int) → Option ((Int) ⊕ ((Int) ⊕ (Int × Bool))) := fun t8 => s_slices_IndexFunc___api_Expr_api_Expr__1 C s t7 t8 (fun y => some (.inl y)) (fun r => some (.inr r))
def w_slices_IndexFunc___api_Expr_api_Expr__1 (s : List V) (t7 : Int) (β : Type) (k : Nat → List V → Option β) : ((Int) ⊕ (Int × Bool)) → Option β := (way2 (fun (v0 : Int) => k 0 [.int .i64 v0]) (un fun (v2 : Int) (v3 : Bool) => k 1 [.list T_api_Expr s, .int .i64 t7, .int .i64 v2, .bool v3]))
noncomputable def l_slices_IndexFunc___api_Expr_api_Expr__1 (C : CallF) (β : Type) (ds : List V) (k : Nat → List V → Option β) : Option β :=
  (Loop (s_slices_IndexFunc___api_Expr_api_Expr__1L C ((V.nth ds 0).toList) ((V.nth (ds.drop 1) 0).toInt)) ((V.nth ((ds.drop 1).drop 1) 0).toInt)).bind (w_slices_IndexFunc___api_Expr_api_Expr__1 ((V.nth ds 0).toList) ((V.nth (ds.drop 1) 0).toInt) β k)
noncomputable def LT_slices_IndexFunc___api_Expr_api_Expr_ (C : CallF) : LTab := fun β n ds k =>
  bif Nat.beq n 33 then l_slices_IndexFunc___api_Expr_api_Expr__1 C β ds k else
  none
theorem t_slices_IndexFunc___api_Expr_api_Expr__1 (C : CallF) : Tells Try.prog ann C (LT_slices_IndexFunc___api_Expr_api_Expr_ C) 72 (ntmpsOf Try.prog (ann.fid 72)) (ann.sin 72).blks.length (.loop (codeAt [1, 0, 1, 0, 0] B_slices_IndexFunc___api_Expr_api_Expr_)) :=
  tells_loop2 (I := (List V) × Int) (X := Int) (R := (Int) ⊕ (Int × Bool)) (S := (⟨[(0, .one (.list T_api_Expr)), (1, .fn F_expr_HasUnit [] []), (7, .one (.int .i64)), (8, .one (.int .i64))], []⟩, [(.ret, ⟨[(4, .one (.int .i64))], []⟩), (.exit 0, ⟨[(0, .one (.list T_api_Expr)), (1, .fn F_expr_HasUnit [] []), (7, .one (.int .i64)), (8, .one (.int .i64)), (9, .one (.bool))], []⟩)])) (by kernel_rfl) (ltok_of (bs := []) (by kernel_rfl) tells_nil)
    (un fun (s : List V) (t7 : Int) => (fun (t8 : Int) => [.list T_api_Expr s, .int .i64 t7, .int .i64 t8] : (Int) → List V)) (un fun (s : List V) (t7 : Int) => w_slices_IndexFunc___api_Expr_api_Expr__1 s t7)
    (fun ds => ((V.nth ds 0).toList, (V.nth (ds.drop 1) 0).toInt)) (fun ds => ((V.nth ((ds.drop 1).drop 1) 0).toInt)) (fun e => bif Nat.beq e.1 0 then (.inl ((V.nth e.2 0).toInt)) else (.inr ((V.nth ((e.2.drop 1).drop 1) 0).toInt, (V.nth (((e.2.drop 1).drop 1).drop 1) 0).toBool)))
    (un fun (s : List V) (t7 : Int) => (fun (t8 : Int) => fun β kn kr => s_slices_IndexFunc___api_Expr_api_Expr__1 C s t7 t8 kn kr : (Int) → (β : Type) → ((Int) → Option β) → (((Int) ⊕ (Int × Bool)) → Option β) → Option β))
    (l_slices_IndexFunc___api_Expr_api_Expr__1 C) (fun ds => by kernel_rfl) (fun i x => by kernel_rfl) (fun i r => by rcases r with r | r <;> kernel_rfl)
    (fun i x β k => by kernel_rfl) (fun β ds k => by kernel_rfl) (fun β ds k => by kernel_rfl) (fun i β k r => by rcases r with r | r <;> kernel_rfl)
noncomputable def f_slices_IndexFunc___api_Expr_api_Expr_ (C : CallF) (s : List V) : Option (List V) :=
  (Loop (s_slices_IndexFunc___api_Expr_api_Expr__1L C s (s.length : Int)) 0).bind (way2 (fun (t_3 : Int) =>
    some [.int .i64 t_3]) (un fun (t_4 : Int) (t_5 : Bool) =>
    some [.int .i64 (-1)]))
theorem f_slices_IndexFunc___api_Expr_api_Expr__eq (C : CallF) (s : List V) : bodyT Try.prog ann C (LT_slices_IndexFunc___api_Expr_api_Expr_ C) 72 [.list T_api_Expr s] = f_slices_IndexFunc___api_Expr_api_Expr_ C s := by kernel_rfl
theorem f_slices_IndexFunc___api_Expr_api_Expr__of {s : List V} {r : Option (List V)} (h : f_slices_IndexFunc___api_Expr_api_Expr_ CC s = r) : CC F_slices_IndexFunc___api_Expr_api_Expr_ [.list T_api_Expr s] = r :=
  func_of (key := 72) (L := LT_slices_IndexFunc___api_Expr_api_Expr_ CC) (bs := [.loop (codeAt [1, 0, 1, 0, 0] B_slices_IndexFunc___api_Expr_api_Expr_)]) (by kernel_rfl) (tells_cons (t_slices_IndexFunc___api_Expr_api_Expr__1 CC) tells_nil) ((f_slices_IndexFunc___api_Expr_api_Expr__eq CC s).trans h)
end Go.AM

set_option maxRecDepth 100000
namespace Go.AM
open Go.Proofs
noncomputable abbrev B_expr_valid : Code := bodyOf Try.prog (ann.fid 39)
noncomputable def LT_expr_valid (C : CallF) : LTab := fun β n ds k =>
  none
noncomputable def f_expr_valid (C : CallF) (e_0 e_1 : Int) (e_2 : List V) : Option (List V) :=
  (C F_expr_Validate [.int .i64 e_0, .int .i64 e_1, .list T_api_Expr e_2, .int .i64 6]).bind fun r1 =>
  some [.bool ((((V.nth r1 0).toInt) : Int) == 0)]
theorem f_expr_valid_eq (C : CallF) (e_0 e_1 : Int) (e_2 : List V) : bodyT Try.prog ann C (LT_expr_valid C) 39 [.int .i64 e_0, .int .i64 e_1, .list T_api_Expr e_2] = f_expr_valid C e_0 e_1 e_2 := by kernel_rfl
theorem f_expr_valid_of {e_0 e_1 : Int} {e_2 : List V} {r : Option (List V)} (h : f_expr_valid CC e_0 e_1 e_2 = r) : CC F_expr_valid [.int .i64 e_0, .int .i64 e_1, .list T_api_Expr e_2] = r :=
  func_of (key := 39) (L := LT_expr_valid CC) (bs := []) (by kernel_rfl) tells_nil ((f_expr_valid_eq CC e_0 e_1 e_2).trans h)
end Go.AM

set_option maxRecDepth 100000
namespace Go.AM
open Go.Proofs
noncomputable abbrev B_semigroupref04_Valid : Code := bodyOf Try.prog (ann.fid 15)
noncomputable def LT_semigroupref04_Valid (C : CallF) : LTab := fun β n ds k =>
  none
noncomputable def f_semigroupref04_Valid (C : CallF) (e_0 e_1 : Int) (e_2 : List V) : Option (List V) :=
  (C F_semigroupref04_Validate [.int .i64 e_0, .int .i64 e_1, .list T_api_Expr e_2, .int .i64 6]).bind fun r1 =>
  some [.bool ((((V.nth r1 0).toInt) : Int) == 0)]
theorem f_semigroupref04_Valid_eq (C : CallF) (e_0 e_1 : Int) (e_2 : List V) : bodyT Try.prog ann C (LT_semigroupref04_Valid C) 15 [.int .i64 e_0, .int .i64 e_1, .list T_api_Expr e_2] = f_semigroupref04_Valid C e_0 e_1 e_2 := by kernel_rfl
theorem f_semigroupref04_Valid_of {e_0 e_1 : Int} {e_2 : List V} {r : Option (List V)} (h : f_semigroupref04_Valid CC e_0 e_1 e_2 = r) : CC F_semigroupref04_Valid [.int .i64 e_0, .int .i64 e_1, .list T_api_Expr e_2] = r :=
  func_of (key := 15) (L := LT_semigroupref04_Valid CC) (bs := []) (by kernel_rfl) tells_nil ((f_semigroupref04_Valid_eq CC e_0 e_1 e_2).trans h)
end Go.AM

set_option maxRecDepth 100000
namespace Go.AM
open Go.Proofs
noncomputable abbrev B_semigroupref04_Size : Code := bodyOf Try.prog (ann.fid 26)
noncomputable def LT_semigroupref04_Size (C : CallF) : LTab := fun β n ds k =>
  none
noncomputable def f_semigroupref04_Size (C : CallF) (e_0 e_1 : Int) (e_2 : List V) : Option (List V) :=
  (C F_semigroupref04_measure [.int .i64 e_0, .int .i64 e_1, .list T_api_Expr e_2, .int .i64 400]).bind fun r1 =>
  some [.int .i64 ((V.nth r1 0).toInt)]
theorem f_semigroupref04_Size_eq (C : CallF) (e_0 e_1 : Int) (e_2 : List V) : bodyT Try.prog ann C (LT_semigroupref04_Size C) 26 [.int .i64 e_0, .int .i64 e_1, .list T_api_Expr e_2] = f_semigroupref04_Size C e_0 e_1 e_2 := by kernel_rfl
theorem f_semigroupref04_Size_of {e_0 e_1 : Int} {e_2 : List V} {r : Option (List V)} (h : f_semigroupref04_Size CC e_0 e_1 e_2 = r) : CC F_semigroupref04_Size [.int .i64 e_0, .int .i64 e_1, .list T_api_Expr e_2] = r :=
  func_of (key := 26) (L := LT_semigroupref04_Size CC) (bs := []) (by kernel_rfl) tells_nil ((f_semigroupref04_Size_eq CC e_0 e_1 e_2).trans h)
end Go.AM

set_option maxRecDepth 100000
namespace Go.AM
open Go.Proofs
noncomputable abbrev B_semigroupref04_Depth : Code := bodyOf Try.prog (ann.fid 27)
noncomputable def LT_semigroupref04_Depth (C : CallF) : LTab := fun β n ds k =>
  none
noncomputable def f_semigroupref04_Depth (C : CallF) (e_0 e_1 : Int) (e_2 : List V) : Option (List V) :=
  (C F_semigroupref04_measure [.int .i64 e_0, .int .i64 e_1, .list T_api_Expr e_2, .int .i64 400]).bind fun r1 =>
  some [.int .i64 ((V.nth (r1.drop 1) 0).toInt)]
theorem f_semigroupref04_Depth_eq (C : CallF) (e_0 e_1 : Int) (e_2 : List V) : bodyT Try.prog ann C (LT_semigroupref04_Depth C) 27 [.int .i64 e_0, .int .i64 e_1, .list T_api_Expr e_2] = f_semigroupref04_Depth C e_0 e_1 e_2 := by kernel_rfl
theorem f_semigroupref04_Depth_of {e_0 e_1 : Int} {e_2 : List V} {r : Option (List V)} (h : f_semigroupref04_Depth CC e_0 e_1 e_2 = r) : CC F_semigroupref04_Depth [.int .i64 e_0, .int .i64 e_1, .list T_api_Expr e_2] = r :=
  func_of (key := 27) (L := LT_semigroupref04_Depth CC) (bs := []) (by kernel_rfl) tells_nil ((f_semigroupref04_Depth_eq CC e_0 e_1 e_2).trans h)
end Go.AM

set_option maxRecDepth 100000
namespace Go.AM
open Go.Proofs
noncomputable abbrev B_semigroupref04_StarHeight : Code := bodyOf Try.prog (ann.fid 28)
noncomputable def s_semigroupref04_StarHeight_1 (C : CallF) (t7 : List V) (t8 es_0 es_1 : Int) (es_2 : List V) (n t9 : Int) {β : Type} (kn : (Int × Int) → Option β) (kr : (Int × Int × Bool) → Option β) : Option β :=
  bif decide ((t9 : Int) < t8) then
   (idx t7 t9).bind fun x1 =>
   (C F_semigroupref04_StarHeight [.int .i64 ((x1.cell 0).toInt), .int .i64 ((x1.cell 1).toInt), .list T_api_Expr ((x1.cell 2).toList)]).bind fun r2 =>
   kn (if ((V.nth r2 0).toInt) > n then ((V.nth r2 0).toInt) else n, IntKind.wrap .i64 (t9 + 1))
  else
   kr (n, t9, decide ((t9 : Int) < t8))
noncomputable def s_semigroupref04_StarHeight_1L (C : CallF) (t7 : List V) (t8 es_0 es_1 : Int) (es_2 : List V) : (Int × Int) → Option ((Int × Int) ⊕ (Int × Int × Bool)) := un fun n t9 => s_semigroupref04_StarHeight_1 C t7 t8 es_0 es_1 es_2 n t9 (fun y => some (.inl y)) (fun r => some (.inr r))
def w_semigroupref04_StarHeight_1 (t7 : List V) (t8 es_0 es_1 : Int) (es_2 : List V) (β : Type) (k : Nat → List V → Option β) : (Int × Int × Bool) → Option β := (un fun (v0 : Int) => un fun (v3 : Int) (v4 : Bool) => k 0 [.int .i64 v0, .list T_api_Expr t7, .int .i64 t8, .int .i64 v3, .bool v4, .int .i64 es_0, .int .i64 es_1, .list T_api_Expr es_2])
noncomputable def l_semigroupref04_StarHeight_1 (C : CallF) (β : Type) (ds : List V) (k : Nat → List V → Option β) : Option β :=
  (Loop (s_semigroupref04_StarHeight_1L C ((V.nth (ds.drop 1) 0).toList) ((V.nth ((ds.drop 1).drop 1) 0).toInt) ((V.nth (ds.drop 4) 0).toInt) ((V.nth ((ds.drop 4).drop 1) 0).toInt) ((V.nth (((ds.drop 4).drop 1).drop 1) 0).toList)) ((V.nth ds 0).toInt, (V.nth (((ds.drop 1).drop 1).drop 1) 0).toInt)).bind (w_semigroupref04_StarHeight_1 ((V.nth (ds.drop 1) 0).toList) ((V.nth ((ds.drop 1).drop 1) 0).toInt) ((V.nth (ds.drop 4) 0).toInt) ((V.nth ((ds.drop 4).drop 1) 0).toInt) ((V.nth (((ds.drop 4).drop 1).drop 1) 0).toList) β k)
noncomputable def LT_semigroupref04_StarHeight (C : CallF) : LTab := fun β n ds k =>
  bif Nat.beq n 49 then l_semigroupref04_StarHeight_1 C β ds k else
  none
theorem t_semigroupref04_StarHeight_1 (C : CallF) : Tells Try.prog ann C (LT_semigroupref04_StarHeight C) 28 (ntmpsOf Try.prog (ann.fid 28)) (ann.sin 28).blks.length (.loop (codeAt [1, 1, 0, 1, 0, 0] B_semigroupref04_StarHeight)) :=
  tells_loop2 (I := (List V) × Int × Int × Int × (List V)) (X := Int × Int) (R := Int × Int × Bool) (S := (⟨[(1, .one (.ptrC 0 0 0)), (3, .one (.int .i64)), (7, .one (.list T_api_Expr)), (8, .one (.int .i64)), (9, .one (.int .i64))], [.var 24 [.one (.int .i64), .one (.int .i64), .one (.list T_api_Expr)]]⟩, [(.exit 0, ⟨[(1, .one (.ptrC 0 0 0)), (3, .one (.int .i64)), (7, .one (.list T_api_Expr)), (8, .one (.int .i64)), (9, .one (.int .i64)), (10, .one (.bool))], [.var 24 [.one (.int .i64), .one (.int .i64), .one (.list T_api_Expr)]]⟩)])) (by kernel_rfl) (ltok_of (bs := []) (by kernel_rfl) tells_nil)
    (un fun (t7 : List V) => un fun (t8 : Int) => un fun (es_0 : Int) => un fun (es_1 : Int) (es_2 : List V) => (un fun (n : Int) (t9 : Int) => [.int .i64 n, .list T_api_Expr t7, .int .i64 t8, .int .i64 t9, .int .i64 es_0, .int .i64 es_1, .list T_api_Expr es_2] : (Int × Int) → List V)) (un fun (t7 : List V) => un fun (t8 : Int) => un fun (es_0 : Int) => un fun (es_1 : Int) (es_2 : List V) => w_semigroupref04_StarHeight_1 t7 t8 es_0 es_1 es_2)
    (fun ds => ((V.nth (ds.drop 1) 0).toList, (V.nth ((ds.drop 1).drop 1) 0).toInt, (V.nth (ds.drop 4) 0).toInt, (V.nth ((ds.drop 4).drop 1) 0).toInt, (V.nth (((ds.drop 4).drop 1).drop 1) 0).toList)) (fun ds => ((V.nth ds 0).toInt, (V.nth (((ds.drop 1).drop 1).drop 1) 0).toInt)) (fun e => ((V.nth e.2 0).toInt, (V.nth (((e.2.drop 1).drop 1).drop 1) 0).toInt, (V.nth ((((e.2.drop 1).drop 1).drop 1).drop 1) 0).toBool))
    (un fun (t7 : List V) => un fun (t8 : Int) => un fun (es_0 : Int) => un fun (es_1 : Int) (es_2 : List V) => (un fun (n : Int) (t9 : Int) => fun β kn kr => s_semigroupref04_StarHeight_1 C t7 t8 es_0 es_1 es_2 n t9 kn kr : (Int × Int) → (β : Type) → ((Int × Int) → Option β) → ((Int × Int × Bool) → Option β) → Option β))
    (l_semigroupref04_StarHeight_1 C) (fun ds => by kernel_rfl) (fun i x => by kernel_rfl) (fun i r => by skip <;> kernel_rfl)
    (fun i x β k => by kernel_rfl) (fun β ds k => by kernel_rfl) (fun β ds k => by kernel_rfl) (fun i β k r => by skip <;> kernel_rfl)
noncomputable def f_semigroupref04_StarHeight (C : CallF) (e_0 e_1 : Int) (e_2 : List V) : Option (List V) :=
  (Loop (s_semigroupref04_StarHeight_1L C e_2 (e_2.length : Int) e_0 e_1 e_2) (0, 0)).bind (un fun (n_3 : Int) => un fun (t_4 : Int) (t_5 : Bool) =>
    bif (e_0 : Int) == 7 then
     some [.int .i64 (IntKind.wrap .i64 (n_3 + 1))]
    else
     some [.int .i64 n_3])
theorem f_semigroupref04_StarHeight_eq (C : CallF) (e_0 e_1 : Int) (e_2 : List V) : bodyT Try.prog ann C (LT_semigroupref04_StarHeight C) 28 [.int .i64 e_0, .int .i64 e_1, .list T_api_Expr e_2] = f_semigroupref04_StarHeight C e_0 e_1 e_2 := by kernel_rfl
theorem f_semigroupref04_StarHeight_of {e_0 e_1 : Int} {e_2 : List V} {r : Option (List V)} (h : f_semigroupref04_StarHeight CC e_0 e_1 e_2 = r) : CC F_semigroupref04_StarHeight [.int .i64 e_0, .int .i64 e_1, .list T_api_Expr e_2] = r :=
  func_of (key := 28) (L := LT_semigroupref04_StarHeight CC) (bs := [.loop (codeAt [1, 1, 0, 1, 0, 0] B_semigroupref04_StarHeight)]) (by kernel_rfl) (tells_cons (t_semigroupref04_StarHeight_1 CC) tells_nil) ((f_semigroupref04_StarHeight_eq CC e_0 e_1 e_2).trans h)
end Go.AM

set_option maxRecDepth 100000
namespace Go.AM
open Go.Proofs
noncomputable abbrev B_semigroupref04_Uses : Code := bodyOf Try.prog (ann.fid 29)
noncomputable def s_semigroupref04_Uses_1 (C : CallF) (op : Int) (t12 : List V) (t13 t14 : Int) {β : Type} (kn : Int → Option β) (kr : ((Bool) ⊕ (Int × Bool)) → Option β) : Option β :=
  bif decide ((t14 : Int) < t13) then
   (idx t12 t14).bind fun x1 =>
   (C F_semigroupref04_Uses [.int .i64 ((x1.cell 0).toInt), .int .i64 ((x1.cell 1).toInt), .list T_api_Expr ((x1.cell 2).toList), .int .i64 op]).bind fun r2 =>
   bif (V.nth r2 0).toBool then
    kr (.inl true)
   else
    kn (IntKind.wrap .i64 (t14 + 1))
  else
   kr (.inr (t14, decide ((t14 : Int) < t13)))
noncomputable def s_semigroupref04_Uses_1L (C : CallF) (op : Int) (t12 : List V) (t13 : Int) : (Int) → Option ((Int) ⊕ ((Bool) ⊕ (Int × Bool))) := fun t14 => s_semigroupref04_Uses_1 C op t12 t13 t14 (fun y => some (.inl y)) (fun r => some (.inr r))
def w_semigroupref04_Uses_1 (op : Int) (t12 : List V) (t13 : Int) (β : Type) (k : Nat → List V → Option β) : ((Bool) ⊕ (Int × Bool)) → Option β := (way2 (fun (v0 : Bool) => k 0 [.bool v0]) (un fun (v3 : Int) (v4 : Bool) => k 1 [.int .i64 op, .list T_api_Expr t12, .int .i64 t13, .int .i64 v3, .bool v4]))
noncomputable def l_semigroupref04_Uses_1 (C : CallF) (β : Type) (ds : List V) (k : Nat → List V → Option β) : Option β :=
  (Loop (s_semigroupref04_Uses_1L C ((V.nth ds 0).toInt) ((V.nth (ds.drop 1) 0).toList) ((V.nth ((ds.drop 1).drop 1) 0).toInt)) ((V.nth (((ds.drop 1).drop 1).drop 1) 0).toInt)).bind (w_semigroupref04_Uses_1 ((V.nth ds 0).toInt) ((V.nth (ds.drop 1) 0).toList) ((V.nth ((ds.drop 1).drop 1) 0).toInt) β k)
noncomputable def LT_semigroupref04_Uses (C : CallF) : LTab := fun β n ds k =>
  bif Nat.beq n 65 then l_semigroupref04_Uses_1 C β ds k else
  none
theorem t_semigroupref04_Uses_1 (C : CallF) : Tells Try.prog ann C (LT_semigroupref04_Uses C) 29 (ntmpsOf Try.prog (ann.fid 29)) (ann.sin 29).blks.length (.loop (codeAt [1, 1, 0, 1, 0, 0] B_semigroupref04_Uses)) :=
  tells_loop2 (I := Int × (List V) × Int) (X := Int) (R := (Bool) ⊕ (Int × Bool)) (S := (⟨[(1, .one (.int .i64)), (12, .one (.list T_api_Expr)), (13, .one (.int .i64)), (14, .one (.int .i64))], []⟩, [(.ret, ⟨[(4, .one (.bool))], []⟩), (.exit 0, ⟨[(1, .one (.int .i64)), (12, .one (.list T_api_Expr)), (13, .one (.int .i64)), (14, .one (.int .i64)), (15, .one (.bool))], []⟩)])) (by kernel_rfl) (ltok_of (bs := []) (by kernel_rfl) tells_nil)
    (un fun (op : Int) => un fun (t12 : List V) (t13 : Int) => (fun (t14 : Int) => [.int .i64 op, .list T_api_Expr t12, .int .i64 t13, .int .i64 t14] : (Int) → List V)) (un fun (op : Int) => un fun (t12 : List V) (t13 : Int) => w_semigroupref04_Uses_1 op t12 t13)
    (fun ds => ((V.nth ds 0).toInt, (V.nth (ds.drop 1) 0).toList, (V.nth ((ds.drop 1).drop 1) 0).toInt)) (fun ds => ((V.nth (((ds.drop 1).drop 1).drop 1) 0).toInt)) (fun e => bif Nat.beq e.1 0 then (.inl ((V.nth e.2 0).toBool)) else (.inr ((V.nth (((e.2.drop 1).drop 1).drop 1) 0).toInt, (V.nth ((((e.2.drop 1).drop 1).drop 1).drop 1) 0).toBool)))
    (un fun (op : Int) => un fun (t12 : List V) (t13 : Int) => (fun (t14 : Int) => fun β kn kr => s_semigroupref04_Uses_1 C op t12 t13 t14 kn kr : (Int) → (β : Type) → ((Int) → Option β) → (((Bool) ⊕ (Int × Bool)) → Option β) → Option β))
    (l_semigroupref04_Uses_1 C) (fun ds => by kernel_rfl) (fun i x => by kernel_rfl) (fun i r => by rcases r with r | r <;> kernel_rfl)
    (fun i x β k => by kernel_rfl) (fun β ds k => by kernel_rfl) (fun β ds k => by kernel_rfl) (fun i β k r => by rcases r with r | r <;> kernel_rfl)
noncomputable def f_semigroupref04_Uses (C : CallF) (e_0 e_1 : Int) (e_2 : List V) (op : Int) : Option (List V) :=
  bif (e_0 : Int) == op then
   some [.bool true]
  else
   (Loop (s_semigroupref04_Uses_1L C op e_2 (e_2.length : Int)) 0).bind (way2 (fun (t_3 : Bool) =>
     some [.bool t_3]) (un fun (t_4 : Int) (t_5 : Bool) =>
     some [.bool false]))
theorem f_semigroupref04_Uses_eq (C : CallF) (e_0 e_1 : Int) (e_2 : List V) (op : Int) : bodyT Try.prog ann C (LT_semigroupref04_Uses C) 29 [.int .i64 e_0, .int .i64 e_1, .list T_api_Expr e_2, .int .i64 op] = f_semigroupref04_Uses C e_0 e_1 e_2 op := by kernel_rfl
theorem f_semigroupref04_Uses_of {e_0 e_1 : Int} {e_2 : List V} {op : Int} {r : Option (List V)} (h : f_semigroupref04_Uses CC e_0 e_1 e_2 op = r) : CC F_semigroupref04_Uses [.int .i64 e_0, .int .i64 e_1, .list T_api_Expr e_2, .int .i64 op] = r :=
  func_of (key := 29) (L := LT_semigroupref04_Uses CC) (bs := [.loop (codeAt [1, 1, 0, 1, 0, 0] B_semigroupref04_Uses)]) (by kernel_rfl) (tells_cons (t_semigroupref04_Uses_1 CC) tells_nil) ((f_semigroupref04_Uses_eq CC e_0 e_1 e_2 op).trans h)
end Go.AM

set_option maxRecDepth 100000
namespace Go.AM
open Go.Proofs
noncomputable abbrev B_semigroupref04_Nullable : Code := bodyOf Try.prog (ann.fid 30)
noncomputable def s_semigroupref04_Nullable_1 (C : CallF) (t9 : List V) (t10 es_0 es_1 : Int) (es_2 : List V) (all one : Bool) (t11 : Int) {β : Type} (kn : (Bool × Bool × Int) → Option β) (kr : (Bool × Bool × Int × Bool) → Option β) : Option β :=
  bif decide ((t11 : Int) < t10) then
   (idx t9 t11).bind fun x1 =>
   (C F_semigroupref04_Nullable [.int .i64 ((x1.cell 0).toInt), .int .i64 ((x1.cell 1).toInt), .list T_api_Expr ((x1.cell 2).toList)]).bind fun r2 =>
   bif all then
    bif one then
     kn ((V.nth r2 0).toBool, true, IntKind.wrap .i64 (t11 + 1))
    else
     kn ((V.nth r2 0).toBool, (V.nth r2 0).toBool, IntKind.wrap .i64 (t11 + 1))
   else
    bif one then
     kn (false, true, IntKind.wrap .i64 (t11 + 1))
    else
     kn (false, (V.nth r2 0).toBool, IntKind.wrap .i64 (t11 + 1))
  else
   kr (all, one, t11, decide ((t11 : Int) < t10))
noncomputable def s_semigroupref04_Nullable_1L (C : CallF) (t9 : List V) (t10 es_0 es_1 : Int) (es_2 : List V) : (Bool × Bool × Int) → Option ((Bool × Bool × Int) ⊕ (Bool × Bool × Int × Bool)) := un fun all => un fun one t11 => s_semigroupref04_Nullable_1 C t9 t10 es_0 es_1 es_2 all one t11 (fun y => some (.inl y)) (fun r => some (.inr r))
def w_semigroupref04_Nullable_1 (t9 : List V) (t10 es_0 es_1 : Int) (es_2 : List V) (β : Type) (k : Nat → List V → Option β) : (Bool × Bool × Int × Bool) → Option β := (un fun (v0 : Bool) => un fun (v1 : Bool) => un fun (v4 : Int) (v5 : Bool) => k 0 [.bool v0, .bool v1, .list T_api_Expr t9, .int .i64 t10, .int .i64 v4, .bool v5, .int .i64 es_0, .int .i64 es_1, .list T_api_Expr es_2])
noncomputable def l_semigroupref04_Nullable_1 (C : CallF) (β : Type) (ds : List V) (k : Nat → List V → Option β) : Option β :=
  (Loop (s_semigroupref04_Nullable_1L C ((V.nth ((ds.drop 1).drop 1) 0).toList) ((V.nth (((ds.drop 1).drop 1).drop 1) 0).toInt) ((V.nth (ds.drop 5) 0).toInt) ((V.nth ((ds.drop 5).drop 1) 0).toInt) ((V.nth (((ds.drop 5).drop 1).drop 1) 0).toList)) ((V.nth ds 0).toBool, (V.nth (ds.drop 1) 0).toBool, (V.nth ((((ds.drop 1).drop 1).drop 1).drop 1) 0).toInt)).bind (w_semigroupref04_Nullable_1 ((V.nth ((ds.drop 1).drop 1) 0).toList) ((V.nth (((ds.drop 1).drop 1).drop 1) 0).toInt) ((V.nth (ds.drop 5) 0).toInt) ((V.nth ((ds.drop 5).drop 1) 0).toInt) ((V.nth (((ds.drop 5).drop 1).drop 1) 0).toList) β k)
noncomputable def LT_semigroupref04_Nullable (C : CallF) : LTab := fun β n ds k =>
  bif Nat.beq n 49 then l_semigroupref04_Nullable_1 C β ds k else
  none
theorem t_semigroupref04_Nullable_1 (C : CallF) : Tells Try.prog ann C (LT_semigroupref04_Nullable C) 30 (ntmpsOf Try.prog (ann.fid 30)) (ann.sin 30).blks.length (.loop (codeAt [1, 1, 0, 1, 0, 0] B_semigroupref04_Nullable)) :=
  tells_loop2 (I := (List V) × Int × Int × Int × (List V)) (X := Bool × Bool × Int) (R := Bool × Bool × Int × Bool) (S := (⟨[(1, .one (.ptrC 0 0 0)), (3, .one (.bool)), (4, .one (.bool)), (9, .one (.list T_api_Expr)), (10, .one (.int .i64)), (11, .one (.int .i64))], [.var 24 [.one (.int .i64), .one (.int .i64), .one (.list T_api_Expr)]]⟩, [(.exit 0, ⟨[(1, .one (.ptrC 0 0 0)), (3, .one (.bool)), (4, .one (.bool)), (9, .one (.list T_api_Expr)), (10, .one (.int .i64)), (11, .one (.int .i64)), (12, .one (.bool))], [.var 24 [.one (.int .i64), .one (.int .i64), .one (.list T_api_Expr)]]⟩)])) (by kernel_rfl) (ltok_of (bs := []) (by kernel_rfl) tells_nil)
    (un fun (t9 : List V) => un fun (t10 : Int) => un fun (es_0 : Int) => un fun (es_1 : Int) (es_2 : List V) => (un fun (all : Bool) => un fun (one : Bool) (t11 : Int) => [.bool all, .bool one, .list T_api_Expr t9, .int .i64 t10, .int .i64 t11, .int .i64 es_0, .int .i64 es_1, .list T_api_Expr es_2] : (Bool × Bool × Int) → List V)) (un fun (t9 : List V) => un fun (t10 : Int) => un fun (es_0 : Int) => un fun (es_1 : Int) (es_2 : List V) => w_semigroupref04_Nullable_1 t9 t10 es_0 es_1 es_2)
    (fun ds => ((V.nth ((ds.drop 1).drop 1) 0).toList, (V.nth (((ds.drop 1).drop 1).drop 1) 0).toInt, (V.nth (ds.drop 5) 0).toInt, (V.nth ((ds.drop 5).drop 1) 0).toInt, (V.nth (((ds.drop 5).drop 1).drop 1) 0).toList)) (fun ds => ((V.nth ds 0).toBool, (V.nth (ds.drop 1) 0).toBool, (V.nth ((((ds.drop 1).drop 1).drop 1).drop 1) 0).toInt)) (fun e => ((V.nth e.2 0).toBool, (V.nth (e.2.drop 1) 0).toBool, (V.nth ((((e.2.drop 1).drop 1).drop 1).drop 1) 0).toInt, (V.nth (((((e.2.drop 1).drop 1).drop 1).drop 1).drop 1) 0).toBool))
    (un fun (t9 : List V) => un fun (t10 : Int) => un fun (es_0 : Int) => un fun (es_1 : Int) (es_2 : List V) => (un fun (all : Bool) => un fun (one : Bool) (t11 : Int) => fun β kn kr => s_semigroupref04_Nullable_1 C t9 t10 es_0 es_1 es_2 all one t11 kn kr : (Bool × Bool × Int) → (β : Type) → ((Bool × Bool × Int) → Option β) → ((Bool × Bool × Int × Bool) → Option β) → Option β))
    (l_semigroupref04_Nullable_1 C) (fun ds => by kernel_rfl) (fun i x => by kernel_rfl) (fun i r => by skip <;> kernel_rfl)
    (fun i x β k => by kernel_rfl) (fun β ds k => by kernel_rfl) (fun β ds k => by kernel_rfl) (fun i β k r => by skip <;> kernel_rfl)
noncomputable def f_semigroupref04_Nullable (C : CallF) (e_0 e_1 : Int) (e_2 : List V) : Option (List V) :=
  (Loop (s_semigroupref04_Nullable_1L C e_2 (e_2.length : Int) e_0 e_1 e_2) (true, false, 0)).bind (un fun (all_3 : Bool) => un fun (one_4 : Bool) => un fun (t_5 : Int) (t_6 : Bool) =>
    bif (e_0 : Int) == 2 then
     bif (e_0 : Int) == 2 then
      some [.bool true]
     else
      bif (e_0 : Int) == 4 then
       some [.bool one_4]
      else
       bif (e_0 : Int) == 5 then
        bif (e_0 : Int) == 5 then
         some [.bool all_3]
        else
         bif (e_0 : Int) == 8 then
          some [.bool (!one_4)]
         else
          some [.bool false]
       else
        bif (e_0 : Int) == 6 then
         some [.bool all_3]
        else
         bif (e_0 : Int) == 8 then
          some [.bool (!one_4)]
         else
          some [.bool false]
    else
     bif (e_0 : Int) == 7 then
      some [.bool true]
     else
      bif (e_0 : Int) == 4 then
       some [.bool one_4]
      else
       bif (e_0 : Int) == 5 then
        bif (e_0 : Int) == 5 then
         some [.bool all_3]
        else
         bif (e_0 : Int) == 8 then
          some [.bool (!one_4)]
         else
          some [.bool false]
       else
        bif (e_0 : Int) == 6 then
         some [.bool all_3]
        else
         bif (e_0 : Int) == 8 then
          some [.bool (!one_4)]
         else
          some [.bool false])
theorem f_semigroupref04_Nullable_eq (C : CallF) (e_0 e_1 : Int) (e_2 : List V) : bodyT Try.prog ann C (LT_semigroupref04_Nullable C) 30 [.int .i64 e_0, .int .i64 e_1, .list T_api_Expr e_2] = f_semigroupref04_Nullable C e_0 e_1 e_2 := by kernel_rfl
theorem f_semigroupref04_Nullable_of {e_0 e_1 : Int} {e_2 : List V} {r : Option (List V)} (h : f_semigroupref04_Nullable CC e_0 e_1 e_2 = r) : CC F_semigroupref04_Nullable [.int .i64 e_0, .int .i64 e_1, .list T_api_Expr e_2] = r :=
  func_of (key := 30) (L := LT_semigroupref04_Nullable CC) (bs := [.loop (codeAt [1, 1, 0, 1, 0, 0] B_semigroupref04_Nullable)]) (by kernel_rfl) (tells_cons (t_semigroupref04_Nullable_1 CC) tells_nil) ((f_semigroupref04_Nullable_eq CC e_0 e_1 e_2).trans h)
end Go.AM

/-
  Chapter 4: nodes, depth, star height, the empty word.
-/
set_option maxRecDepth 100000
set_option linter.unusedSimpArgs false
namespace Go.AM
open Go.Proofs Ex
/-- A loop over all kids. -/
theorem scan_loop {X R S : Type} {step : X → Option (X ⊕ R)} {ks : List Ex} (st : S → Nat → X) (g : S → Ex → S) (r : S → R) (I : S → List Ex → Prop)
    (h : ∀ pre k suf s, ks = pre ++ k :: suf → I s (k :: suf) → step (st s pre.length) = some (.inl (st (g s k) (pre.length + 1))) ∧ I (g s k) suf) (he : ∀ s, step (st s ks.length) = some (.inr (r s))) :
    ∀ suf pre s, ks = pre ++ suf → I s suf → Loop step (st s pre.length) = some (r (suf.foldl g s)) := by
  intro suf
  induction suf with
  | nil =>
    intro pre s hks _
    have : pre.length = ks.length := by rw [hks]; simp
    rw [this]
    exact Loop_end (he s)
  | cons k suf ih =>
    intro pre s hks hI
    obtain ⟨h1, h2⟩ := h pre k suf s hks hI
    rw [Loop_norm h1, List.foldl_cons]
    have := ih (pre ++ [k]) (g s k) (by rw [hks]; simp) h2
    simpa using this
/-- A loop that ends at the first kid of a kind. -/
theorem find_loop {X R : Type} {step : X → Option (X ⊕ R)} {ks : List Ex} (st : Nat → X) (p : Ex → Bool) (r1 : Nat → R) (r2 : R)
    (h : ∀ pre k suf, ks = pre ++ k :: suf → step (st pre.length) = if p k = true then some (.inr (r1 pre.length)) else some (.inl (st (pre.length + 1)))) (he : step (st ks.length) = some (.inr r2)) :
    ∀ suf pre, ks = pre ++ suf → (suf.any p = true ∧ ∃ i, Loop step (st pre.length) = some (r1 i)) ∨ (suf.any p = false ∧ Loop step (st pre.length) = some r2) := by
  intro suf
  induction suf with
  | nil =>
    intro pre hks
    have : pre.length = ks.length := by rw [hks]; simp
    rw [this]
    exact .inr ⟨rfl, Loop_end he⟩
  | cons k suf ih =>
    intro pre hks
    have h1 := h pre k suf hks
    cases hp : p k with
    | true =>
      rw [if_pos hp] at h1
      exact .inl ⟨by simp [hp], _, Loop_end h1⟩
    | false =>
      rw [if_neg (by simp [hp])] at h1
      rw [Loop_norm h1]
      have := ih (pre ++ [k]) (by rw [hks]; simp)
      simpa [hp] using this
theorem beqd (m n : Int) : (m == n) = decide (m = n) := by rw [Bool.eq_iff_iff]; simp
theorem valid_spec (e : Ex) (h : e.Ok) : CC F_expr_valid (exA e []) = some [.bool (decide (e.val 6 = 0))] := by
  refine f_expr_valid_of ?_
  unfold f_expr_valid
  rw [Validate_spec e h]
  simp only [Option.bind_some, V.nth_zero, V.toInt_int]
  rw [beqd]
theorem refValid_spec (e : Ex) (h : e.Ok) : CC F_semigroupref04_Valid (exA e []) = some [.bool (decide (e.val 6 = 0))] := by
  refine f_semigroupref04_Valid_of ?_
  unfold f_semigroupref04_Valid
  rw [refValidate_spec e h]
  simp only [Option.bind_some, V.nth_zero, V.toInt_int]
  rw [beqd]
theorem val0 {e : Ex} (h : e.val 6 = 0) : e.depth ≤ 40 ∧ e.size ≤ 400 ∧ e.wf 6 = true := by
  unfold Ex.val at h
  rw [if_pos (by omega)] at h
  split at h
  · rename_i h1
    split at h
    · rename_i h2; exact ⟨h1.1, h1.2, h2⟩
    · omega
  · omega
theorem kid_size {ks : List Ex} : ∀ {k}, k ∈ ks → k.size ≤ sizes ks := by
  induction ks with
  | nil => intro k h; simp at h
  | cons a ks ih =>
    intro k h
    simp only [sizes]
    rcases List.mem_cons.1 h with rfl | h
    · omega
    · have := ih h; omega
theorem fold_size : ∀ (ks : List Ex) (n : Int), ks.foldl (fun n k => n + (k.size : Int)) n = n + sizes ks
  | [], n => by simp [sizes]
  | k :: ks, n => by rw [List.foldl_cons, fold_size ks]; simp only [sizes]; omega
theorem fold_depth : ∀ (ks : List Ex) (n : Int), 0 ≤ n → ks.foldl (fun n k => max n (k.depth : Int)) n = max n (depths ks)
  | [], n, h => by simp only [depths, List.foldl_nil]; omega
  | k :: ks, n, h => by rw [List.foldl_cons, fold_depth ks _ (by omega)]; simp only [depths]; omega
theorem size_spec : ∀ e : Ex, e.Ok → e.size ≤ 400 → CC F_expr_size (exA e []) = some [.int .i64 e.size] :=
  ind fun o l ks ih hok hsz => by
    have hs : (Ex.node o l ks).size = 1 + sizes ks := by simp only [size]
    have := maxLen_le
    have hlen := hok.len
    refine f_expr_size_of ?_
    have hl := scan_loop (step := s_expr_size_1L CC (ks.map enc) ((ks.map enc).length : Int)) (ks := ks) (fun n i => (n, (i : Int))) (fun n k => n + (k.size : Int)) (fun n => (n, ((ks.length : Nat) : Int), false)) (fun n suf => 0 ≤ n ∧ n + sizes suf ≤ 400)
      (fun pre k suf s hks hI => by
        have hpl : pre.length < ks.length := by rw [hks]; simp
        have hm : k ∈ ks := by rw [hks]; simp
        have hks1 := kid_size hm
        have hI' := hI
        simp only [sizes] at hI'
        refine ⟨?_, by omega⟩
        simp only [s_expr_size_1L, s_expr_size_1, un, List.length_map, bif_decide]
        rw [if_pos (by omega), show idx (ks.map enc) (pre.length : Int) = some k.enc by rw [hks]; exact idx_kid _ _ _]
        simp only [Option.bind_some, enc_0, enc_1, enc_2]
        rw [ih k hm (hok.kid k hm) (by omega)]
        simp only [Option.bind_some, V.nth_zero, V.toInt_int]
        rw [wrap64 (by omega) (by omega), wrap64 (by omega) (by omega)]
        simp)
      (fun s => by
        simp only [s_expr_size_1L, s_expr_size_1, un, List.length_map, bif_decide]
        rw [if_neg (by omega)]
        simp) ks [] 1 rfl ⟨by omega, by omega⟩
    unfold f_expr_size
    simp only [Ex.kids]
    rw [fold_size] at hl
    simp only [List.length_nil, Int.ofNat_zero, Int.natCast_zero] at hl
    erw [hl]
    simp only [Option.bind_some, un]
    rw [hs]
    rfl
theorem depth_spec : ∀ e : Ex, e.Ok → e.size ≤ 400 → CC F_expr_depth (exA e []) = some [.int .i64 e.depth] :=
  ind fun o l ks ih hok hsz => by
    have hs : (Ex.node o l ks).size = 1 + sizes ks := by simp only [size]
    have hd : (Ex.node o l ks).depth = 1 + depths ks := by simp only [depth]
    have hds := depth_le_size (.node o l ks)
    have := maxLen_le
    have hlen := hok.len
    refine f_expr_depth_of ?_
    have hl := scan_loop (step := s_expr_depth_1L CC (ks.map enc) ((ks.map enc).length : Int)) (ks := ks) (fun n i => (n, (i : Int))) (fun n k => max n (k.depth : Int)) (fun n => (n, ((ks.length : Nat) : Int), false)) (fun _ _ => True)
      (fun pre k suf s hks hI => by
        have hpl : pre.length < ks.length := by rw [hks]; simp
        have hm : k ∈ ks := by rw [hks]; simp
        have hks1 := kid_size hm
        refine ⟨?_, trivial⟩
        simp only [s_expr_depth_1L, s_expr_depth_1, un, List.length_map, bif_decide]
        rw [if_pos (by omega), show idx (ks.map enc) (pre.length : Int) = some k.enc by rw [hks]; exact idx_kid _ _ _]
        simp only [Option.bind_some, enc_0, enc_1, enc_2]
        rw [ih k hm (hok.kid k hm) (by omega)]
        simp only [Option.bind_some, V.nth_zero, V.toInt_int]
        rw [wrap64 (by omega) (by omega), show (if (k.depth : Int) > s then (k.depth : Int) else s) = max s (k.depth : Int) by split <;> omega]
        simp)
      (fun s => by
        simp only [s_expr_depth_1L, s_expr_depth_1, un, List.length_map, bif_decide]
        rw [if_neg (by omega)]
        simp) ks [] 0 rfl trivial
    unfold f_expr_depth
    simp only [Ex.kids]
    rw [fold_depth _ _ (by omega)] at hl
    simp only [List.length_nil, Int.ofNat_zero, Int.natCast_zero] at hl
    erw [hl]
    simp only [Option.bind_some, un]
    rw [show max (0 : Int) (depths ks : Int) = depths ks by omega, wrap64 (by omega) (by omega), hd]
    rfl
/-! star height -/
mutual
def Ex.sh : Ex → Nat
  | .node o _ ks => shs ks + (if o = 7 then 1 else 0)
def Ex.shs : List Ex → Nat
  | [] => 0
  | k :: ks => max (sh k) (shs ks)
end
theorem shs_le {ks : List Ex} (h : ∀ k ∈ ks, k.sh ≤ k.size) : shs ks ≤ sizes ks := by
  induction ks with
  | nil => simp [shs]
  | cons k ks ih =>
    have h1 := h k (by simp)
    have h2 := ih fun k hk => h k (by simp [hk])
    simp only [shs, sizes]; omega
theorem sh_le : ∀ e : Ex, e.sh ≤ e.size := ind fun o l ks ih => by
  have := shs_le ih
  simp only [sh, size]
  split <;> omega
theorem fold_sh : ∀ (ks : List Ex) (n : Int), 0 ≤ n → ks.foldl (fun n k => max n (k.sh : Int)) n = max n (shs ks)
  | [], n, h => by simp only [shs, List.foldl_nil]; omega
  | k :: ks, n, h => by rw [List.foldl_cons, fold_sh ks _ (by omega)]; simp only [shs]; omega
theorem starHeight_spec : ∀ e : Ex, e.Ok → e.size ≤ 400 → CC F_expr_starHeight (exA e []) = some [.int .i64 e.sh] :=
  ind fun o l ks ih hok hsz => by
    have hs : (Ex.node o l ks).size = 1 + sizes ks := by simp only [size]
    have hd : (Ex.node o l ks).sh = shs ks + (if o = 7 then 1 else 0) := by simp only [sh]
    have hds := sh_le (.node o l ks)
    have := maxLen_le
    have hlen := hok.len
    refine f_expr_starHeight_of ?_
    have hl := scan_loop (step := s_expr_starHeight_1L CC (ks.map enc) ((ks.map enc).length : Int) o l (ks.map enc)) (ks := ks) (fun n i => (n, (i : Int))) (fun n k => max n (k.sh : Int)) (fun n => (n, ((ks.length : Nat) : Int), false)) (fun _ _ => True)
      (fun pre k suf s hks hI => by
        have hpl : pre.length < ks.length := by rw [hks]; simp
        have hm : k ∈ ks := by rw [hks]; simp
        have hks1 := kid_size hm
        refine ⟨?_, trivial⟩
        simp only [s_expr_starHeight_1L, s_expr_starHeight_1, un, List.length_map, bif_decide]
        rw [if_pos (by omega), show idx (ks.map enc) (pre.length : Int) = some k.enc by rw [hks]; exact idx_kid _ _ _]
        simp only [Option.bind_some, enc_0, enc_1, enc_2]
        rw [ih k hm (hok.kid k hm) (by omega)]
        simp only [Option.bind_some, V.nth_zero, V.toInt_int]
        rw [wrap64 (by omega) (by omega), show (if (k.sh : Int) > s then (k.sh : Int) else s) = max s (k.sh : Int) by split <;> omega]
        simp)
      (fun s => by
        simp only [s_expr_starHeight_1L, s_expr_starHeight_1, un, List.length_map, bif_decide]
        rw [if_neg (by omega)]
        simp) ks [] 0 rfl trivial
    unfold f_expr_starHeight
    simp only [Ex.kids, Ex.op, Ex.letter]
    rw [fold_sh _ _ (by omega)] at hl
    simp only [List.length_nil, Int.ofNat_zero, Int.natCast_zero] at hl
    erw [hl]
    simp only [Option.bind_some, un, bif_beq]
    have hle := shs_le (ks := ks) fun k _ => sh_le k
    have hmx : max (0 : Int) (shs ks : Int) = shs ks := by omega
    rw [hd, hmx]
    by_cases h7 : o = 7
    · rw [if_pos h7, if_pos h7, wrap64 (by omega) (by omega)]
      rfl
    · rw [if_neg h7, if_neg h7]
      rfl
theorem refStarHeight_spec : ∀ e : Ex, e.Ok → e.size ≤ 400 → CC F_semigroupref04_StarHeight (exA e []) = some [.int .i64 e.sh] :=
  ind fun o l ks ih hok hsz => by
    have hs : (Ex.node o l ks).size = 1 + sizes ks := by simp only [size]
    have hd : (Ex.node o l ks).sh = shs ks + (if o = 7 then 1 else 0) := by simp only [sh]
    have hds := sh_le (.node o l ks)
    have := maxLen_le
    have hlen := hok.len
    refine f_semigroupref04_StarHeight_of ?_
    have hl := scan_loop (step := s_semigroupref04_StarHeight_1L CC (ks.map enc) ((ks.map enc).length : Int) o l (ks.map enc)) (ks := ks) (fun n i => (n, (i : Int))) (fun n k => max n (k.sh : Int)) (fun n => (n, ((ks.length : Nat) : Int), false)) (fun _ _ => True)
      (fun pre k suf s hks hI => by
        have hpl : pre.length < ks.length := by rw [hks]; simp
        have hm : k ∈ ks := by rw [hks]; simp
        have hks1 := kid_size hm
        refine ⟨?_, trivial⟩
        simp only [s_semigroupref04_StarHeight_1L, s_semigroupref04_StarHeight_1, un, List.length_map, bif_decide]
        rw [if_pos (by omega), show idx (ks.map enc) (pre.length : Int) = some k.enc by rw [hks]; exact idx_kid _ _ _]
        simp only [Option.bind_some, enc_0, enc_1, enc_2]
        rw [ih k hm (hok.kid k hm) (by omega)]
        simp only [Option.bind_some, V.nth_zero, V.toInt_int]
        rw [wrap64 (by omega) (by omega), show (if (k.sh : Int) > s then (k.sh : Int) else s) = max s (k.sh : Int) by split <;> omega]
        simp)
      (fun s => by
        simp only [s_semigroupref04_StarHeight_1L, s_semigroupref04_StarHeight_1, un, List.length_map, bif_decide]
        rw [if_neg (by omega)]
        simp) ks [] 0 rfl trivial
    unfold f_semigroupref04_StarHeight
    simp only [Ex.kids, Ex.op, Ex.letter]
    rw [fold_sh _ _ (by omega)] at hl
    simp only [List.length_nil, Int.ofNat_zero, Int.natCast_zero] at hl
    erw [hl]
    simp only [Option.bind_some, un, bif_beq]
    have hle := shs_le (ks := ks) fun k _ => sh_le k
    have hmx : max (0 : Int) (shs ks : Int) = shs ks := by omega
    rw [hd, hmx]
    by_cases h7 : o = 7
    · rw [if_pos h7, if_pos h7, wrap64 (by omega) (by omega)]
      rfl
    · rw [if_neg h7, if_neg h7]
      rfl
/-! which ops occur -/
mutual
def Ex.uses (op : Int) : Ex → Bool
  | .node o _ ks => decide (o = op) || usess op ks
def Ex.usess (op : Int) : List Ex → Bool
  | [] => false
  | k :: ks => uses op k || usess op ks
end
theorem usess_any (op : Int) : ∀ ks, usess op ks = ks.any (uses op)
  | [] => by simp [usess]
  | k :: ks => by simp [usess, usess_any op ks]
theorem sh_uses : ∀ e : Ex, (e.sh = 0) ↔ e.uses 7 = false := ind fun o l ks ih => by
  have hl : ∀ ks : List Ex, (∀ k ∈ ks, (k.sh = 0) ↔ k.uses 7 = false) → ((shs ks = 0) ↔ usess 7 ks = false) := by
    intro ks
    induction ks with
    | nil => intro _; simp [shs, usess]
    | cons k ks ih2 =>
      intro h
      have h1 := h k (by simp)
      have h2 := ih2 fun k hk => h k (by simp [hk])
      simp only [shs, usess, Bool.or_eq_false_iff]
      rw [← h1, ← h2]
      omega
  have h := hl ks ih
  simp only [sh, uses, Bool.or_eq_false_iff, decide_eq_false_iff_not]
  rw [← h]
  split <;> rename_i h7
  · simp [h7]
  · simp [h7]
theorem uses_spec {op : Int} : ∀ e : Ex, e.Ok → CC F_semigroupref04_Uses (exA e [.int .i64 op]) = some [.bool (e.uses op)] :=
  ind fun o l ks ih hok => by
    have := maxLen_le
    have hlen := hok.len
    refine f_semigroupref04_Uses_of ?_
    unfold f_semigroupref04_Uses
    simp only [Ex.op, Ex.letter, Ex.kids, bif_beq, uses, usess_any]
    by_cases ho : o = op
    · simp [ho]
    · rw [if_neg ho]
      have hl := find_loop (step := s_semigroupref04_Uses_1L CC op (ks.map enc) ((ks.map enc).length : Int)) (ks := ks) (fun i => (i : Int)) (Ex.uses op) (fun _ => .inl true) (.inr (((ks.length : Nat) : Int), false))
        (fun pre k suf hks => by
          have hpl : pre.length < ks.length := by rw [hks]; simp
          have hm : k ∈ ks := by rw [hks]; simp
          simp only [s_semigroupref04_Uses_1L, s_semigroupref04_Uses_1, List.length_map, bif_decide]
          rw [if_pos (by omega), show idx (ks.map enc) (pre.length : Int) = some k.enc by rw [hks]; exact idx_kid _ _ _]
          simp only [Option.bind_some, enc_0, enc_1, enc_2]
          rw [ih k hm (hok.kid k hm)]
          simp only [Option.bind_some, V.nth_zero, V.toBool_bool]
          rw [wrap64 (by omega) (by omega)]
          cases k.uses op <;> simp)
        (by
          simp only [s_semigroupref04_Uses_1L, s_semigroupref04_Uses_1, List.length_map, bif_decide]
          rw [if_neg (by omega)]
          simp) ks [] rfl
      simp only [List.length_nil, Int.ofNat_zero, Int.natCast_zero] at hl
      rcases hl with ⟨h1, i, h2⟩ | ⟨h1, h2⟩
      · erw [h2]; simp [h1, way2]
      · erw [h2]; simp [h1, way2, un, ho]
/-! the empty word -/
mutual
def Ex.nul : Ex → Bool
  | .node o _ ks => if o = 2 ∨ o = 7 then true else if o = 4 then nulAny ks else if o = 5 ∨ o = 6 then nulAll ks else if o = 8 then !(nulAny ks) else false
def Ex.nulAny : List Ex → Bool
  | [] => false
  | k :: ks => nul k || nulAny ks
def Ex.nulAll : List Ex → Bool
  | [] => true
  | k :: ks => nul k && nulAll ks
end
theorem nulAny_eq : ∀ ks, nulAny ks = ks.any nul
  | [] => by simp [nulAny]
  | k :: ks => by simp [nulAny, nulAny_eq ks]
theorem nulAll_eq : ∀ ks, nulAll ks = !(ks.any fun k => !(nul k))
  | [] => by simp [nulAll]
  | k :: ks => by simp [nulAll, nulAll_eq ks]
theorem wfs_kid {letters : Int} {ks : List Ex} (h : wfs letters ks = true) : ∀ k ∈ ks, k.wf letters = true := by
  induction ks with
  | nil => simp
  | cons a ks ih =>
    simp only [wfs, Bool.and_eq_true] at h
    intro k hk
    rcases List.mem_cons.1 hk with rfl | hk
    · exact h.1
    · exact ih h.2 k hk
theorem wf_node {letters o l : Int} {ks : List Ex} (h : (Ex.node o l ks).wf letters = true) : shapeOk o l ks.length letters = true ∧ ∀ k ∈ ks, k.wf letters = true := by
  simp only [Ex.wf, Bool.and_eq_true] at h
  exact ⟨h.1, wfs_kid h.2⟩
theorem shape8 {letters l n : Int} (h : shapeOk 8 l n letters = true) : n = 1 := by
  simp [shapeOk] at h; exact h.2
theorem contains_spec {ks : List Ex} (hlen : ks.length ≤ maxLen) (ih : ∀ k ∈ ks, CC F_expr_HasUnit (exA k []) = some [.bool k.nul]) : CC F_slices_ContainsFunc___api_Expr_api_Expr_ [.list T_api_Expr (ks.map enc)] = some [.bool (nulAny ks)] := by
  have := maxLen_le
  refine f_slices_ContainsFunc___api_Expr_api_Expr__of ?_
  unfold f_slices_ContainsFunc___api_Expr_api_Expr_
  have hl := find_loop (step := s_slices_IndexFunc___api_Expr_api_Expr__1L CC (ks.map enc) ((ks.map enc).length : Int)) (ks := ks) (fun i => (i : Int)) nul (fun i => .inl (i : Int)) (.inr (((ks.length : Nat) : Int), false))
    (fun pre k suf hks => by
      have hpl : pre.length < ks.length := by rw [hks]; simp
      have hm : k ∈ ks := by rw [hks]; simp
      simp only [s_slices_IndexFunc___api_Expr_api_Expr__1L, s_slices_IndexFunc___api_Expr_api_Expr__1, List.length_map, bif_decide]
      rw [if_pos (by omega), show idx (ks.map enc) (pre.length : Int) = some k.enc by rw [hks]; exact idx_kid _ _ _]
      simp only [Option.bind_some, enc_0, enc_1, enc_2]
      rw [ih k hm]
      simp only [Option.bind_some, V.nth_zero, V.toBool_bool]
      rw [wrap64 (by omega) (by omega)]
      cases k.nul <;> simp)
    (by
      simp only [s_slices_IndexFunc___api_Expr_api_Expr__1L, s_slices_IndexFunc___api_Expr_api_Expr__1, List.length_map, bif_decide]
      rw [if_neg (by omega)]
      simp) ks [] rfl
  simp only [List.length_nil, Int.ofNat_zero, Int.natCast_zero] at hl
  rcases hl with ⟨h1, i, h2⟩ | ⟨h1, h2⟩
  · have hi : CC F_slices_IndexFunc___api_Expr_api_Expr_ [.list T_api_Expr (ks.map enc)] = some [.int .i64 (i : Int)] := by
      refine f_slices_IndexFunc___api_Expr_api_Expr__of ?_
      unfold f_slices_IndexFunc___api_Expr_api_Expr_
      erw [h2]; rfl
    rw [hi, nulAny_eq, h1]
    simp
  · have hi : CC F_slices_IndexFunc___api_Expr_api_Expr_ [.list T_api_Expr (ks.map enc)] = some [.int .i64 (-1)] := by
      refine f_slices_IndexFunc___api_Expr_api_Expr__of ?_
      unfold f_slices_IndexFunc___api_Expr_api_Expr_
      erw [h2]; rfl
    rw [hi, nulAny_eq, h1]
    simp
theorem hasUnit_spec {letters : Int} : ∀ e : Ex, e.Ok → e.wf letters = true → CC F_expr_HasUnit (exA e []) = some [.bool e.nul] :=
  ind fun o l ks ih hok hwf => by
    have := maxLen_le
    have hlen := hok.len
    obtain ⟨w1, w2⟩ := wf_node hwf
    have ih' : ∀ k ∈ ks, CC F_expr_HasUnit (exA k []) = some [.bool k.nul] := fun k hk => ih k hk (hok.kid k hk) (w2 k hk)
    refine f_expr_HasUnit_of ?_
    have hall : (Loop (s_expr_HasUnit_1L CC (ks.map enc) ((ks.map enc).length : Int)) 0).bind (way2 (fun (t : Bool) => some [V.bool t]) (un fun (_ : Int) (_ : Bool) => some [V.bool true])) = some [.bool (nulAll ks)] := by
      have hl := find_loop (step := s_expr_HasUnit_1L CC (ks.map enc) ((ks.map enc).length : Int)) (ks := ks) (fun i => (i : Int)) (fun k => !(nul k)) (fun _ => .inl false) (.inr (((ks.length : Nat) : Int), false))
        (fun pre k suf hks => by
          have hpl : pre.length < ks.length := by rw [hks]; simp
          have hm : k ∈ ks := by rw [hks]; simp
          simp only [s_expr_HasUnit_1L, s_expr_HasUnit_1, List.length_map, bif_decide]
          rw [if_pos (by omega), show idx (ks.map enc) (pre.length : Int) = some k.enc by rw [hks]; exact idx_kid _ _ _]
          simp only [Option.bind_some, enc_0, enc_1, enc_2]
          rw [ih' k hm]
          simp only [Option.bind_some, V.nth_zero, V.toBool_bool]
          rw [wrap64 (by omega) (by omega)]
          cases k.nul <;> simp)
        (by
          simp only [s_expr_HasUnit_1L, s_expr_HasUnit_1, List.length_map, bif_decide]
          rw [if_neg (by omega)]
          simp) ks [] rfl
      simp only [List.length_nil, Int.ofNat_zero, Int.natCast_zero] at hl
      rcases hl with ⟨h1, i, h2⟩ | ⟨h1, h2⟩
      · erw [h2]; rw [nulAll_eq, h1]; rfl
      · erw [h2]; rw [nulAll_eq, h1]; rfl
    unfold f_expr_HasUnit
    simp only [Ex.op, Ex.letter, Ex.kids]
    rw [hall, contains_spec hlen ih']
    simp only [nul]
    rcases op_cases o with rfl | rfl | rfl | rfl | rfl | rfl | rfl | rfl | ho
    case inr.inr.inr.inr.inr.inr.inr.inr =>
      have n2 : o ≠ 2 := by omega
      have n4 : o ≠ 4 := by omega
      have n5 : o ≠ 5 := by omega
      have n6 : o ≠ 6 := by omega
      have n7 : o ≠ 7 := by omega
      have n8 : o ≠ 8 := by omega
      simp [n2, n4, n5, n6, n7, n8]
    case inr.inr.inr.inr.inr.inr.inr.inl =>
      have h1 := shape8 w1
      match ks, h1, ih' with
      | [k], _, ih' =>
        have := ih' k (by simp)
        simp only [List.map_cons, List.map_nil, List.length_singleton, List.getElem?_cons_zero, Option.bind_some, enc_0, enc_1, enc_2]
        rw [this]
        simp [nulAny]
    all_goals simp
theorem nullable_spec : ∀ e : Ex, e.Ok → CC F_semigroupref04_Nullable (exA e []) = some [.bool e.nul] :=
  ind fun o l ks ih hok => by
    have := maxLen_le
    have hlen := hok.len
    refine f_semigroupref04_Nullable_of ?_
    have hl := scan_loop (step := s_semigroupref04_Nullable_1L CC (ks.map enc) ((ks.map enc).length : Int) o l (ks.map enc)) (ks := ks) (fun (s : Bool × Bool) i => (s.1, s.2, (i : Int))) (fun s k => (s.1 && k.nul, s.2 || k.nul)) (fun s => (s.1, s.2, ((ks.length : Nat) : Int), false)) (fun _ _ => True)
      (fun pre k suf s hks hI => by
        have hpl : pre.length < ks.length := by rw [hks]; simp
        have hm : k ∈ ks := by rw [hks]; simp
        refine ⟨?_, trivial⟩
        simp only [s_semigroupref04_Nullable_1L, s_semigroupref04_Nullable_1, un, List.length_map, bif_decide]
        rw [if_pos (by omega), show idx (ks.map enc) (pre.length : Int) = some k.enc by rw [hks]; exact idx_kid _ _ _]
        simp only [Option.bind_some, enc_0, enc_1, enc_2]
        rw [ih k hm (hok.kid k hm)]
        simp only [Option.bind_some, V.nth_zero, V.toBool_bool]
        rw [wrap64 (by omega) (by omega)]
        obtain ⟨a, b⟩ := s
        cases a <;> cases b <;> simp)
      (fun s => by
        simp only [s_semigroupref04_Nullable_1L, s_semigroupref04_Nullable_1, un, List.length_map, bif_decide]
        rw [if_neg (by omega)]
        simp) ks [] (true, false) rfl trivial
    have hf : ∀ (ks : List Ex) (a b : Bool), ks.foldl (fun (s : Bool × Bool) k => (s.1 && k.nul, s.2 || k.nul)) (a, b) = (a && nulAll ks, b || nulAny ks) := by
      intro ks
      induction ks with
      | nil => intro a b; simp [nulAll, nulAny]
      | cons k ks ih => intro a b; simp [ih, nulAll, nulAny, Bool.and_assoc, Bool.or_assoc]
    rw [hf] at hl
    simp only [List.length_nil, Int.ofNat_zero, Int.natCast_zero] at hl
    unfold f_semigroupref04_Nullable
    simp only [Ex.op, Ex.letter, Ex.kids]
    erw [hl]
    simp only [Option.bind_some, un, nul, Bool.true_and, Bool.false_or]
    rcases op_cases o with rfl | rfl | rfl | rfl | rfl | rfl | rfl | rfl | ho
    case inr.inr.inr.inr.inr.inr.inr.inr =>
      have n2 : o ≠ 2 := by omega
      have n4 : o ≠ 4 := by omega
      have n5 : o ≠ 5 := by omega
      have n6 : o ≠ 6 := by omega
      have n7 : o ≠ 7 := by omega
      have n8 : o ≠ 8 := by omega
      simp [n2, n4, n5, n6, n7, n8]
    all_goals simp
/-! the functions of the package -/
theorem Size_spec (e : Ex) (h : e.Ok) : CC F_expr_Size (exA e []) = some [.int .i64 (if e.val 6 = 0 then (e.size : Int) else 0)] := by
  refine f_expr_Size_of ?_
  unfold f_expr_Size
  rw [valid_spec e h]
  by_cases hv : e.val 6 = 0
  · rw [size_spec e h (val0 hv).2.1]; simp [hv]
  · simp [hv]
theorem Depth_spec (e : Ex) (h : e.Ok) : CC F_expr_Depth (exA e []) = some [.int .i64 (if e.val 6 = 0 then (e.depth : Int) else 0)] := by
  refine f_expr_Depth_of ?_
  unfold f_expr_Depth
  rw [valid_spec e h]
  by_cases hv : e.val 6 = 0
  · rw [depth_spec e h (val0 hv).2.1]; simp [hv]
  · simp [hv]
theorem StarHeight_spec (e : Ex) (h : e.Ok) : CC F_expr_StarHeight (exA e []) = some [.int .i64 (if e.val 6 = 0 then (e.sh : Int) else 0)] := by
  refine f_expr_StarHeight_of ?_
  unfold f_expr_StarHeight
  rw [valid_spec e h]
  by_cases hv : e.val 6 = 0
  · rw [starHeight_spec e h (val0 hv).2.1]; simp [hv]
  · simp [hv]
theorem StarFree_spec (e : Ex) (h : e.Ok) : CC F_expr_StarFree (exA e []) = some [.bool (if e.val 6 = 0 then !(e.uses 7) else false)] := by
  refine f_expr_StarFree_of ?_
  unfold f_expr_StarFree
  rw [valid_spec e h]
  by_cases hv : e.val 6 = 0
  · rw [starHeight_spec e h (val0 hv).2.1]
    have := sh_uses e
    cases hu : e.uses 7 with
    | true => rw [hu] at this; simp [hv, beqd]; simpa using this
    | false => rw [hu] at this; simp at this; simp [hv, this]
  · simp [hv]
theorem Nullable_spec (e : Ex) (h : e.Ok) : CC F_expr_Nullable (exA e []) = some [.bool (if e.val 6 = 0 then e.nul else false)] := by
  refine f_expr_Nullable_of ?_
  unfold f_expr_Nullable
  rw [valid_spec e h]
  by_cases hv : e.val 6 = 0
  · rw [hasUnit_spec e h (val0 hv).2.2]; simp [hv]
  · simp [hv]
theorem refSize_spec (e : Ex) (h : e.Ok) (hs : e.size ≤ 400) : CC F_semigroupref04_Size (exA e []) = some [.int .i64 e.size] := by
  obtain ⟨d, e1, e2⟩ := measure_spec e h 400 (by omega) (by omega)
  refine f_semigroupref04_Size_of ?_
  unfold f_semigroupref04_Size
  rw [e1, show min (e.size : Int) (400 + 1) = e.size by omega]
  simp
theorem refDepth_spec (e : Ex) (h : e.Ok) (hs : e.size ≤ 400) : CC F_semigroupref04_Depth (exA e []) = some [.int .i64 e.depth] := by
  obtain ⟨d, e1, e2⟩ := measure_spec e h 400 (by omega) (by omega)
  refine f_semigroupref04_Depth_of ?_
  unfold f_semigroupref04_Depth
  rw [e1, e2 (by omega)]
  simp
end Go.AM

set_option maxRecDepth 100000
namespace Go.AM
open Go.Proofs
noncomputable abbrev B_expr_Format : Code := bodyOf Try.prog (ann.fid 14)
noncomputable def LT_expr_Format (C : CallF) : LTab := fun β n ds k =>
  none
noncomputable def f_expr_Format (C : CallF) (e_0 e_1 : Int) (e_2 : List V) : Option (List V) :=
  (C F_expr_valid [.int .i64 e_0, .int .i64 e_1, .list T_api_Expr e_2]).bind fun r1 =>
  bif !((V.nth r1 0).toBool) then
   some [.str []]
  else
   (C F_expr_write [.int .i64 e_0, .int .i64 e_1, .list T_api_Expr e_2, .list T_uint8 ([] : List V)]).bind fun r2 =>
   (C F_strings_Builder_String [.list T_uint8 ((V.nth r2 0).toList)]).bind fun r3 =>
   some [.str ((V.nth r3 0).toStr)]
theorem f_expr_Format_eq (C : CallF) (e_0 e_1 : Int) (e_2 : List V) : bodyT Try.prog ann C (LT_expr_Format C) 14 [.int .i64 e_0, .int .i64 e_1, .list T_api_Expr e_2] = f_expr_Format C e_0 e_1 e_2 := by kernel_rfl
theorem f_expr_Format_of {e_0 e_1 : Int} {e_2 : List V} {r : Option (List V)} (h : f_expr_Format CC e_0 e_1 e_2 = r) : CC F_expr_Format [.int .i64 e_0, .int .i64 e_1, .list T_api_Expr e_2] = r :=
  func_of (key := 14) (L := LT_expr_Format CC) (bs := []) (by kernel_rfl) tells_nil ((f_expr_Format_eq CC e_0 e_1 e_2).trans h)
end Go.AM

set_option maxRecDepth 100000
namespace Go.AM
open Go.Proofs
noncomputable abbrev B_expr_write : Code := bodyOf Try.prog (ann.fid 40)
noncomputable def s_expr_write_1 (C : CallF) (t5 : Int) (t28 : Bool) (es_0 es_1 : Int) (es_2 b3_ : List V) {β : Type} (kr : (List V) → Option β) : Option β :=
  bif t28 then
   (C F_expr_writeKids [.list T_api_Expr es_2, .str [38], .int .i64 3, .list T_uint8 b3_]).bind fun r5 =>
   kr ((V.nth r5 0).toList)
  else
   bif (t5 : Int) == 5 then
    (C F_expr_writeKids [.list T_api_Expr es_2, .str [], .int .i64 4, .list T_uint8 b3_]).bind fun r6 =>
    kr ((V.nth r6 0).toList)
   else
    bif (t5 : Int) == 8 then
     (C F_strings_Builder_WriteByte [.int .u8 33, .list T_uint8 b3_]).bind fun r7 =>
     (C F_expr_writeKids [.list T_api_Expr es_2, .str [], .int .i64 4, .list T_uint8 ((V.nth r7 0).toList)]).bind fun r8 =>
     kr ((V.nth r8 0).toList)
    else
     bif (t5 : Int) == 7 then
      (C F_expr_writeKids [.list T_api_Expr es_2, .str [], .int .i64 5, .list T_uint8 b3_]).bind fun r9 =>
      (C F_strings_Builder_WriteByte [.int .u8 42, .list T_uint8 ((V.nth r9 0).toList)]).bind fun r10 =>
      kr ((V.nth r10 0).toList)
     else
      kr b3_
def w_expr_write_1 (t5 : Int) (t28 : Bool) (es_0 es_1 : Int) (es_2 b3_ : List V) (β : Type) (k : Nat → List V → Option β) : (List V) → Option β := (fun (v0 : List V) => k 0 [.list T_uint8 v0])
noncomputable def l_expr_write_1 (C : CallF) (β : Type) (ds : List V) (k : Nat → List V → Option β) : Option β :=
  s_expr_write_1 C ((V.nth ds 0).toInt) ((V.nth (ds.drop 1) 0).toBool) ((V.nth (ds.drop 2) 0).toInt) ((V.nth ((ds.drop 2).drop 1) 0).toInt) ((V.nth (((ds.drop 2).drop 1).drop 1) 0).toList) ((V.nth ((ds.drop 2).drop 3) 0).toList) (w_expr_write_1 ((V.nth ds 0).toInt) ((V.nth (ds.drop 1) 0).toBool) ((V.nth (ds.drop 2) 0).toInt) ((V.nth ((ds.drop 2).drop 1) 0).toInt) ((V.nth (((ds.drop 2).drop 1).drop 1) 0).toList) ((V.nth ((ds.drop 2).drop 3) 0).toList) β k)
noncomputable def s_expr_write_2 (C : CallF) (t5 : Int) (t22 : Bool) (es_0 es_1 : Int) (es_2 b3_ : List V) {β : Type} (kr : (List V) → Option β) : Option β :=
  bif t22 then
   (C F_expr_writeKids [.list T_api_Expr es_2, .str [124], .int .i64 2, .list T_uint8 b3_]).bind fun r4 =>
   kr ((V.nth r4 0).toList)
  else
   s_expr_write_1 C t5 ((t5 : Int) == 6) es_0 es_1 es_2 b3_ (fun (b_11 : List V) =>
     kr b_11)
def w_expr_write_2 (t5 : Int) (t22 : Bool) (es_0 es_1 : Int) (es_2 b3_ : List V) (β : Type) (k : Nat → List V → Option β) : (List V) → Option β := (fun (v0 : List V) => k 0 [.list T_uint8 v0])
noncomputable def l_expr_write_2 (C : CallF) (β : Type) (ds : List V) (k : Nat → List V → Option β) : Option β :=
  s_expr_write_2 C ((V.nth ds 0).toInt) ((V.nth (ds.drop 1) 0).toBool) ((V.nth (ds.drop 2) 0).toInt) ((V.nth ((ds.drop 2).drop 1) 0).toInt) ((V.nth (((ds.drop 2).drop 1).drop 1) 0).toList) ((V.nth ((ds.drop 2).drop 3) 0).toList) (w_expr_write_2 ((V.nth ds 0).toInt) ((V.nth (ds.drop 1) 0).toBool) ((V.nth (ds.drop 2) 0).toInt) ((V.nth ((ds.drop 2).drop 1) 0).toInt) ((V.nth (((ds.drop 2).drop 1).drop 1) 0).toList) ((V.nth ((ds.drop 2).drop 3) 0).toList) β k)
noncomputable def s_expr_write_3 (C : CallF) (t5 : Int) (t14 : Bool) (es_0 es_1 : Int) (es_2 b3_ : List V) {β : Type} (kr : (List V) → Option β) : Option β :=
  bif t14 then
   (C F_strings_Builder_WriteByte [.int .u8 (IntKind.wrap .u8 (97 + (IntKind.wrap .u8 es_1))), .list T_uint8 b3_]).bind fun r3 =>
   kr ((V.nth r3 0).toList)
  else
   s_expr_write_2 C t5 ((t5 : Int) == 4) es_0 es_1 es_2 b3_ (fun (b_12 : List V) =>
     kr b_12)
def w_expr_write_3 (t5 : Int) (t14 : Bool) (es_0 es_1 : Int) (es_2 b3_ : List V) (β : Type) (k : Nat → List V → Option β) : (List V) → Option β := (fun (v0 : List V) => k 0 [.list T_uint8 v0])
noncomputable def l_expr_write_3 (C : CallF) (β : Type) (ds : List V) (k : Nat → List V → Option β) : Option β :=
  s_expr_write_3 C ((V.nth ds 0).toInt) ((V.nth (ds.drop 1) 0).toBool) ((V.nth (ds.drop 2) 0).toInt) ((V.nth ((ds.drop 2).drop 1) 0).toInt) ((V.nth (((ds.drop 2).drop 1).drop 1) 0).toList) ((V.nth ((ds.drop 2).drop 3) 0).toList) (w_expr_write_3 ((V.nth ds 0).toInt) ((V.nth (ds.drop 1) 0).toBool) ((V.nth (ds.drop 2) 0).toInt) ((V.nth ((ds.drop 2).drop 1) 0).toInt) ((V.nth (((ds.drop 2).drop 1).drop 1) 0).toList) ((V.nth ((ds.drop 2).drop 3) 0).toList) β k)
noncomputable def s_expr_write_4 (C : CallF) (t5 : Int) (t10 : Bool) (es_0 es_1 : Int) (es_2 b3_ : List V) {β : Type} (kr : (List V) → Option β) : Option β :=
  bif t10 then
   (C F_strings_Builder_WriteByte [.int .u8 49, .list T_uint8 b3_]).bind fun r2 =>
   kr ((V.nth r2 0).toList)
  else
   s_expr_write_3 C t5 ((t5 : Int) == 3) es_0 es_1 es_2 b3_ (fun (b_13 : List V) =>
     kr b_13)
def w_expr_write_4 (t5 : Int) (t10 : Bool) (es_0 es_1 : Int) (es_2 b3_ : List V) (β : Type) (k : Nat → List V → Option β) : (List V) → Option β := (fun (v0 : List V) => k 0 [.list T_uint8 v0])
noncomputable def l_expr_write_4 (C : CallF) (β : Type) (ds : List V) (k : Nat → List V → Option β) : Option β :=
  s_expr_write_4 C ((V.nth ds 0).toInt) ((V.nth (ds.drop 1) 0).toBool) ((V.nth (ds.drop 2) 0).toInt) ((V.nth ((ds.drop 2).drop 1) 0).toInt) ((V.nth (((ds.drop 2).drop 1).drop 1) 0).toList) ((V.nth ((ds.drop 2).drop 3) 0).toList) (w_expr_write_4 ((V.nth ds 0).toInt) ((V.nth (ds.drop 1) 0).toBool) ((V.nth (ds.drop 2) 0).toInt) ((V.nth ((ds.drop 2).drop 1) 0).toInt) ((V.nth (((ds.drop 2).drop 1).drop 1) 0).toList) ((V.nth ((ds.drop 2).drop 3) 0).toList) β k)
noncomputable def s_expr_write_5 (C : CallF) (t5 : Int) (t6 : Bool) (es_0 es_1 : Int) (es_2 b3_ : List V) {β : Type} (kr : (List V) → Option β) : Option β :=
  bif t6 then
   (C F_strings_Builder_WriteByte [.int .u8 48, .list T_uint8 b3_]).bind fun r1 =>
   kr ((V.nth r1 0).toList)
  else
   s_expr_write_4 C t5 ((t5 : Int) == 2) es_0 es_1 es_2 b3_ (fun (b_14 : List V) =>
     kr b_14)
def w_expr_write_5 (t5 : Int) (t6 : Bool) (es_0 es_1 : Int) (es_2 b3_ : List V) (β : Type) (k : Nat → List V → Option β) : (List V) → Option β := (fun (v0 : List V) => k 0 [.list T_uint8 v0])
noncomputable def l_expr_write_5 (C : CallF) (β : Type) (ds : List V) (k : Nat → List V → Option β) : Option β :=
  s_expr_write_5 C ((V.nth ds 0).toInt) ((V.nth (ds.drop 1) 0).toBool) ((V.nth (ds.drop 2) 0).toInt) ((V.nth ((ds.drop 2).drop 1) 0).toInt) ((V.nth (((ds.drop 2).drop 1).drop 1) 0).toList) ((V.nth ((ds.drop 2).drop 3) 0).toList) (w_expr_write_5 ((V.nth ds 0).toInt) ((V.nth (ds.drop 1) 0).toBool) ((V.nth (ds.drop 2) 0).toInt) ((V.nth ((ds.drop 2).drop 1) 0).toInt) ((V.nth (((ds.drop 2).drop 1).drop 1) 0).toList) ((V.nth ((ds.drop 2).drop 3) 0).toList) β k)
noncomputable def LT_expr_write (C : CallF) : LTab := fun β n ds k =>
  bif Nat.beq n 463 then l_expr_write_1 C β ds k else
  bif Nat.beq n 367 then l_expr_write_2 C β ds k else
  bif Nat.beq n 239 then l_expr_write_3 C β ds k else
  bif Nat.beq n 175 then l_expr_write_4 C β ds k else
  bif Nat.beq n 111 then l_expr_write_5 C β ds k else
  none
theorem t_expr_write_1 (C : CallF) : Tells Try.prog ann C (LT_expr_write C) 40 (ntmpsOf Try.prog (ann.fid 40)) (ann.sin 40).blks.length (.cond 28 (codeAt [1, 1, 0, 1, 1, 1, 1, 1, 1, 1, 1, 1, 0] B_expr_write) (codeAt [1, 1, 0, 1, 1, 1, 1, 1, 1, 1, 1, 1, 1] B_expr_write)) :=
  tells_cond2 (I := Int × Bool × Int × Int × (List V) × (List V)) (R := List V) (S := (⟨[(0, .one (.ptrC 0 0 0)), (3, .one (.ptrC 2 0 0)), (5, .one (.int .i64)), (28, .one (.bool))], [.var 43 [.one (.und), .one (.whole T_uint8 3)], .dead, .var 24 [.one (.int .i64), .one (.int .i64), .one (.list T_api_Expr)], .arr T_uint8 false]⟩, [(.norm, ⟨[], [.var 43 [.one (.und), .one (.whole T_uint8 2)], .dead, .arr T_uint8 false]⟩)])) (by kernel_rfl) (ltok_of (bs := []) (by kernel_rfl) tells_nil) (ltok_of (bs := []) (by kernel_rfl) tells_nil)
    (un fun (t5 : Int) => un fun (t28 : Bool) => un fun (es_0 : Int) => un fun (es_1 : Int) => un fun (es_2 : List V) (b3_ : List V) => [.int .i64 t5, .bool t28, .int .i64 es_0, .int .i64 es_1, .list T_api_Expr es_2, .list T_uint8 b3_]) (un fun (t5 : Int) => un fun (t28 : Bool) => un fun (es_0 : Int) => un fun (es_1 : Int) => un fun (es_2 : List V) (b3_ : List V) => w_expr_write_1 t5 t28 es_0 es_1 es_2 b3_)
    (fun ds => ((V.nth ds 0).toInt, (V.nth (ds.drop 1) 0).toBool, (V.nth (ds.drop 2) 0).toInt, (V.nth ((ds.drop 2).drop 1) 0).toInt, (V.nth (((ds.drop 2).drop 1).drop 1) 0).toList, (V.nth ((ds.drop 2).drop 3) 0).toList)) (un fun (t5 : Int) => un fun (t28 : Bool) => un fun (es_0 : Int) => un fun (es_1 : Int) => un fun (es_2 : List V) (b3_ : List V) => fun β kr => s_expr_write_1 C t5 t28 es_0 es_1 es_2 b3_ kr)
    (l_expr_write_1 C) (fun ds => by kernel_rfl)
    (fun i β k => by kernel_rfl) (fun β ds k => by kernel_rfl) (fun β ds k => by kernel_rfl) (fun i β k r => by skip <;> kernel_rfl)
theorem t_expr_write_2 (C : CallF) : Tells Try.prog ann C (LT_expr_write C) 40 (ntmpsOf Try.prog (ann.fid 40)) (ann.sin 40).blks.length (.cond 22 (codeAt [1, 1, 0, 1, 1, 1, 1, 1, 1, 1, 0] B_expr_write) (codeAt [1, 1, 0, 1, 1, 1, 1, 1, 1, 1, 1] B_expr_write)) :=
  tells_cond2 (I := Int × Bool × Int × Int × (List V) × (List V)) (R := List V) (S := (⟨[(0, .one (.ptrC 0 0 0)), (3, .one (.ptrC 2 0 0)), (5, .one (.int .i64)), (22, .one (.bool))], [.var 43 [.one (.und), .one (.whole T_uint8 3)], .dead, .var 24 [.one (.int .i64), .one (.int .i64), .one (.list T_api_Expr)], .arr T_uint8 false]⟩, [(.norm, ⟨[], [.var 43 [.one (.und), .one (.whole T_uint8 2)], .dead, .arr T_uint8 false]⟩)])) (by kernel_rfl) (ltok_of (bs := []) (by kernel_rfl) tells_nil) (ltok_of (bs := [.cond 28 (codeAt [1, 1, 0, 1, 1, 1, 1, 1, 1, 1, 1, 1, 0] B_expr_write) (codeAt [1, 1, 0, 1, 1, 1, 1, 1, 1, 1, 1, 1, 1] B_expr_write)]) (by kernel_rfl) (tells_cons (t_expr_write_1 C) tells_nil))
    (un fun (t5 : Int) => un fun (t22 : Bool) => un fun (es_0 : Int) => un fun (es_1 : Int) => un fun (es_2 : List V) (b3_ : List V) => [.int .i64 t5, .bool t22, .int .i64 es_0, .int .i64 es_1, .list T_api_Expr es_2, .list T_uint8 b3_]) (un fun (t5 : Int) => un fun (t22 : Bool) => un fun (es_0 : Int) => un fun (es_1 : Int) => un fun (es_2 : List V) (b3_ : List V) => w_expr_write_2 t5 t22 es_0 es_1 es_2 b3_)
    (fun ds => ((V.nth ds 0).toInt, (V.nth (ds.drop 1) 0).toBool, (V.nth (ds.drop 2) 0).toInt, (V.nth ((ds.drop 2).drop 1) 0).toInt, (V.nth (((ds.drop 2).drop 1).drop 1) 0).toList, (V.nth ((ds.drop 2).drop 3) 0).toList)) (un fun (t5 : Int) => un fun (t22 : Bool) => un fun (es_0 : Int) => un fun (es_1 : Int) => un fun (es_2 : List V) (b3_ : List V) => fun β kr => s_expr_write_2 C t5 t22 es_0 es_1 es_2 b3_ kr)
    (l_expr_write_2 C) (fun ds => by kernel_rfl)
    (fun i β k => by kernel_rfl) (fun β ds k => by kernel_rfl) (fun β ds k => by kernel_rfl) (fun i β k r => by skip <;> kernel_rfl)
theorem t_expr_write_3 (C : CallF) : Tells Try.prog ann C (LT_expr_write C) 40 (ntmpsOf Try.prog (ann.fid 40)) (ann.sin 40).blks.length (.cond 14 (codeAt [1, 1, 0, 1, 1, 1, 1, 1, 0] B_expr_write) (codeAt [1, 1, 0, 1, 1, 1, 1, 1, 1] B_expr_write)) :=
  tells_cond2 (I := Int × Bool × Int × Int × (List V) × (List V)) (R := List V) (S := (⟨[(0, .one (.ptrC 0 0 0)), (3, .one (.ptrC 2 0 0)), (5, .one (.int .i64)), (14, .one (.bool))], [.var 43 [.one (.und), .one (.whole T_uint8 3)], .dead, .var 24 [.one (.int .i64), .one (.int .i64), .one (.list T_api_Expr)], .arr T_uint8 false]⟩, [(.norm, ⟨[], [.var 43 [.one (.und), .one (.whole T_uint8 2)], .dead, .arr T_uint8 false]⟩)])) (by kernel_rfl) (ltok_of (bs := []) (by kernel_rfl) tells_nil) (ltok_of (bs := [.cond 22 (codeAt [1, 1, 0, 1, 1, 1, 1, 1, 1, 1, 0] B_expr_write) (codeAt [1, 1, 0, 1, 1, 1, 1, 1, 1, 1, 1] B_expr_write)]) (by kernel_rfl) (tells_cons (t_expr_write_2 C) tells_nil))
    (un fun (t5 : Int) => un fun (t14 : Bool) => un fun (es_0 : Int) => un fun (es_1 : Int) => un fun (es_2 : List V) (b3_ : List V) => [.int .i64 t5, .bool t14, .int .i64 es_0, .int .i64 es_1, .list T_api_Expr es_2, .list T_uint8 b3_]) (un fun (t5 : Int) => un fun (t14 : Bool) => un fun (es_0 : Int) => un fun (es_1 : Int) => un fun (es_2 : List V) (b3_ : List V) => w_expr_write_3 t5 t14 es_0 es_1 es_2 b3_)
    (fun ds => ((V.nth ds 0).toInt, (V.nth (ds.drop 1) 0).toBool, (V.nth (ds.drop 2) 0).toInt, (V.nth ((ds.drop 2).drop 1) 0).toInt, (V.nth (((ds.drop 2).drop 1).drop 1) 0).toList, (V.nth ((ds.drop 2).drop 3) 0).toList)) (un fun (t5 : Int) => un fun (t14 : Bool) => un fun (es_0 : Int) => un fun (es_1 : Int) => un fun (es_2 : List V) (b3_ : List V) => fun β kr => s_expr_write_3 C t5 t14 es_0 es_1 es_2 b3_ kr)
    (l_expr_write_3 C) (fun ds => by kernel_rfl)
    (fun i β k => by kernel_rfl) (fun β ds k => by kernel_rfl) (fun β ds k => by kernel_rfl) (fun i β k r => by skip <;> kernel_rfl)
theorem t_expr_write_4 (C : CallF) : Tells Try.prog ann C (LT_expr_write C) 40 (ntmpsOf Try.prog (ann.fid 40)) (ann.sin 40).blks.length (.cond 10 (codeAt [1, 1, 0, 1, 1, 1, 0] B_expr_write) (codeAt [1, 1, 0, 1, 1, 1, 1] B_expr_write)) :=
  tells_cond2 (I := Int × Bool × Int × Int × (List V) × (List V)) (R := List V) (S := (⟨[(0, .one (.ptrC 0 0 0)), (3, .one (.ptrC 2 0 0)), (5, .one (.int .i64)), (10, .one (.bool))], [.var 43 [.one (.und), .one (.whole T_uint8 3)], .dead, .var 24 [.one (.int .i64), .one (.int .i64), .one (.list T_api_Expr)], .arr T_uint8 false]⟩, [(.norm, ⟨[], [.var 43 [.one (.und), .one (.whole T_uint8 2)], .dead, .arr T_uint8 false]⟩)])) (by kernel_rfl) (ltok_of (bs := []) (by kernel_rfl) tells_nil) (ltok_of (bs := [.cond 14 (codeAt [1, 1, 0, 1, 1, 1, 1, 1, 0] B_expr_write) (codeAt [1, 1, 0, 1, 1, 1, 1, 1, 1] B_expr_write)]) (by kernel_rfl) (tells_cons (t_expr_write_3 C) tells_nil))
    (un fun (t5 : Int) => un fun (t10 : Bool) => un fun (es_0 : Int) => un fun (es_1 : Int) => un fun (es_2 : List V) (b3_ : List V) => [.int .i64 t5, .bool t10, .int .i64 es_0, .int .i64 es_1, .list T_api_Expr es_2, .list T_uint8 b3_]) (un fun (t5 : Int) => un fun (t10 : Bool) => un fun (es_0 : Int) => un fun (es_1 : Int) => un fun (es_2 : List V) (b3_ : List V) => w_expr_write_4 t5 t10 es_0 es_1 es_2 b3_)
    (fun ds => ((V.nth ds 0).toInt, (V.nth (ds.drop 1) 0).toBool, (V.nth (ds.drop 2) 0).toInt, (V.nth ((ds.drop 2).drop 1) 0).toInt, (V.nth (((ds.drop 2).drop 1).drop 1) 0).toList, (V.nth ((ds.drop 2).drop 3) 0).toList)) (un fun (t5 : Int) => un fun (t10 : Bool) => un fun (es_0 : Int) => un fun (es_1 : Int) => un fun (es_2 : List V) (b3_ : List V) => fun β kr => s_expr_write_4 C t5 t10 es_0 es_1 es_2 b3_ kr)
    (l_expr_write_4 C) (fun ds => by kernel_rfl)
    (fun i β k => by kernel_rfl) (fun β ds k => by kernel_rfl) (fun β ds k => by kernel_rfl) (fun i β k r => by skip <;> kernel_rfl)
theorem t_expr_write_5 (C : CallF) : Tells Try.prog ann C (LT_expr_write C) 40 (ntmpsOf Try.prog (ann.fid 40)) (ann.sin 40).blks.length (.cond 6 (codeAt [1, 1, 0, 1, 0] B_expr_write) (codeAt [1, 1, 0, 1, 1] B_expr_write)) :=
  tells_cond2 (I := Int × Bool × Int × Int × (List V) × (List V)) (R := List V) (S := (⟨[(0, .one (.ptrC 0 0 0)), (3, .one (.ptrC 2 0 0)), (5, .one (.int .i64)), (6, .one (.bool))], [.var 43 [.one (.und), .one (.whole T_uint8 3)], .dead, .var 24 [.one (.int .i64), .one (.int .i64), .one (.list T_api_Expr)], .arr T_uint8 false]⟩, [(.norm, ⟨[], [.var 43 [.one (.und), .one (.whole T_uint8 2)], .dead, .arr T_uint8 false]⟩)])) (by kernel_rfl) (ltok_of (bs := []) (by kernel_rfl) tells_nil) (ltok_of (bs := [.cond 10 (codeAt [1, 1, 0, 1, 1, 1, 0] B_expr_write) (codeAt [1, 1, 0, 1, 1, 1, 1] B_expr_write)]) (by kernel_rfl) (tells_cons (t_expr_write_4 C) tells_nil))
    (un fun (t5 : Int) => un fun (t6 : Bool) => un fun (es_0 : Int) => un fun (es_1 : Int) => un fun (es_2 : List V) (b3_ : List V) => [.int .i64 t5, .bool t6, .int .i64 es_0, .int .i64 es_1, .list T_api_Expr es_2, .list T_uint8 b3_]) (un fun (t5 : Int) => un fun (t6 : Bool) => un fun (es_0 : Int) => un fun (es_1 : Int) => un fun (es_2 : List V) (b3_ : List V) => w_expr_write_5 t5 t6 es_0 es_1 es_2 b3_)
    (fun ds => ((V.nth ds 0).toInt, (V.nth (ds.drop 1) 0).toBool, (V.nth (ds.drop 2) 0).toInt, (V.nth ((ds.drop 2).drop 1) 0).toInt, (V.nth (((ds.drop 2).drop 1).drop 1) 0).toList, (V.nth ((ds.drop 2).drop 3) 0).toList)) (un fun (t5 : Int) => un fun (t6 : Bool) => un fun (es_0 : Int) => un fun (es_1 : Int) => un fun (es_2 : List V) (b3_ : List V) => fun β kr => s_expr_write_5 C t5 t6 es_0 es_1 es_2 b3_ kr)
    (l_expr_write_5 C) (fun ds => by kernel_rfl)
    (fun i β k => by kernel_rfl) (fun β ds k => by kernel_rfl) (fun β ds k => by kernel_rfl) (fun i β k r => by skip <;> kernel_rfl)
noncomputable def f_expr_write (C : CallF) (e_0 e_1 : Int) (e_2 b1_ : List V) : Option (List V) :=
  s_expr_write_5 C e_0 ((e_0 : Int) == 1) e_0 e_1 e_2 b1_ (fun (b_15 : List V) =>
    some [.list T_uint8 b_15])
theorem f_expr_write_eq (C : CallF) (e_0 e_1 : Int) (e_2 b1_ : List V) : bodyT Try.prog ann C (LT_expr_write C) 40 [.int .i64 e_0, .int .i64 e_1, .list T_api_Expr e_2, .list T_uint8 b1_] = f_expr_write C e_0 e_1 e_2 b1_ := by kernel_rfl
theorem f_expr_write_of {e_0 e_1 : Int} {e_2 b1_ : List V} {r : Option (List V)} (h : f_expr_write CC e_0 e_1 e_2 b1_ = r) : CC F_expr_write [.int .i64 e_0, .int .i64 e_1, .list T_api_Expr e_2, .list T_uint8 b1_] = r :=
  func_of (key := 40) (L := LT_expr_write CC) (bs := [.cond 6 (codeAt [1, 1, 0, 1, 0] B_expr_write) (codeAt [1, 1, 0, 1, 1] B_expr_write)]) (by kernel_rfl) (tells_cons (t_expr_write_5 CC) tells_nil) ((f_expr_write_eq CC e_0 e_1 e_2 b1_).trans h)
end Go.AM

set_option maxRecDepth 100000
namespace Go.AM
open Go.Proofs
noncomputable abbrev B_expr_writeKids : Code := bodyOf Try.prog (ann.fid 58)
noncomputable def s_expr_writeKids_1 (C : CallF) (separator : List UInt8) (least : Int) (t10 : List V) (t11 t12 : Int) (t18 : Bool) (kids_0 kids_1 : Int) (kids_2 b3_ : List V) {β : Type} (kr : (List V) → Option β) : Option β :=
  bif t18 then
   (C F_strings_Builder_WriteString [.str separator, .list T_uint8 b3_]).bind fun r2 =>
   kr ((V.nth (r2.drop 1) 0).toList)
  else
   kr b3_
def w_expr_writeKids_1 (separator : List UInt8) (least : Int) (t10 : List V) (t11 t12 : Int) (t18 : Bool) (kids_0 kids_1 : Int) (kids_2 b3_ : List V) (β : Type) (k : Nat → List V → Option β) : (List V) → Option β := (fun (v8 : List V) => k 0 [.str separator, .int .i64 least, .list T_api_Expr t10, .int .i64 t11, .int .i64 t12, .int .i64 kids_0, .int .i64 kids_1, .list T_api_Expr kids_2, .list T_uint8 v8])
noncomputable def l_expr_writeKids_1 (C : CallF) (β : Type) (ds : List V) (k : Nat → List V → Option β) : Option β :=
  s_expr_writeKids_1 C ((V.nth ds 0).toStr) ((V.nth (ds.drop 1) 0).toInt) ((V.nth ((ds.drop 1).drop 1) 0).toList) ((V.nth (((ds.drop 1).drop 1).drop 1) 0).toInt) ((V.nth ((((ds.drop 1).drop 1).drop 1).drop 1) 0).toInt) ((V.nth (((((ds.drop 1).drop 1).drop 1).drop 1).drop 1) 0).toBool) ((V.nth (ds.drop 6) 0).toInt) ((V.nth ((ds.drop 6).drop 1) 0).toInt) ((V.nth (((ds.drop 6).drop 1).drop 1) 0).toList) ((V.nth ((ds.drop 6).drop 3) 0).toList) (w_expr_writeKids_1 ((V.nth ds 0).toStr) ((V.nth (ds.drop 1) 0).toInt) ((V.nth ((ds.drop 1).drop 1) 0).toList) ((V.nth (((ds.drop 1).drop 1).drop 1) 0).toInt) ((V.nth ((((ds.drop 1).drop 1).drop 1).drop 1) 0).toInt) ((V.nth (((((ds.drop 1).drop 1).drop 1).drop 1).drop 1) 0).toBool) ((V.nth (ds.drop 6) 0).toInt) ((V.nth ((ds.drop 6).drop 1) 0).toInt) ((V.nth (((ds.drop 6).drop 1).drop 1) 0).toList) ((V.nth ((ds.drop 6).drop 3) 0).toList) β k)
noncomputable def s_expr_writeKids_2 (C : CallF) (separator : List UInt8) (least : Int) (t10 : List V) (t11 t12 : Int) (b2_ : List V) {β : Type} (kn : (Int × (List V)) → Option β) (kr : (Int × Bool × (List V)) → Option β) : Option β :=
  bif decide ((t12 : Int) < t11) then
   (idx t10 t12).bind fun x1 =>
   s_expr_writeKids_1 C separator least t10 t11 t12 (decide ((t12 : Int) > 0)) ((x1.cell 0).toInt) ((x1.cell 1).toInt) ((x1.cell 2).toList) b2_ (fun (b_3 : List V) =>
     (C F_expr_level [.int .i64 ((x1.cell 0).toInt)]).bind fun r4 =>
     bif decide ((((V.nth r4 0).toInt) : Int) ≥ least) then
      (C F_expr_write [.int .i64 ((x1.cell 0).toInt), .int .i64 ((x1.cell 1).toInt), .list T_api_Expr ((x1.cell 2).toList), .list T_uint8 b_3]).bind fun r5 =>
      kn (IntKind.wrap .i64 (t12 + 1), (V.nth r5 0).toList)
     else
      (C F_strings_Builder_WriteByte [.int .u8 40, .list T_uint8 b_3]).bind fun r6 =>
      (C F_expr_write [.int .i64 ((x1.cell 0).toInt), .int .i64 ((x1.cell 1).toInt), .list T_api_Expr ((x1.cell 2).toList), .list T_uint8 ((V.nth r6 0).toList)]).bind fun r7 =>
      (C F_strings_Builder_WriteByte [.int .u8 41, .list T_uint8 ((V.nth r7 0).toList)]).bind fun r8 =>
      kn (IntKind.wrap .i64 (t12 + 1), (V.nth r8 0).toList))
  else
   kr (t12, decide ((t12 : Int) < t11), b2_)
noncomputable def s_expr_writeKids_2L (C : CallF) (separator : List UInt8) (least : Int) (t10 : List V) (t11 : Int) : (Int × (List V)) → Option ((Int × (List V)) ⊕ (Int × Bool × (List V))) := un fun t12 b2_ => s_expr_writeKids_2 C separator least t10 t11 t12 b2_ (fun y => some (.inl y)) (fun r => some (.inr r))
def w_expr_writeKids_2 (separator : List UInt8) (least : Int) (t10 : List V) (t11 : Int) (β : Type) (k : Nat → List V → Option β) : (Int × Bool × (List V)) → Option β := (un fun (v4 : Int) => un fun (v5 : Bool) (v6 : List V) => k 0 [.str separator, .int .i64 least, .list T_api_Expr t10, .int .i64 t11, .int .i64 v4, .bool v5, .list T_uint8 v6])
noncomputable def l_expr_writeKids_2 (C : CallF) (β : Type) (ds : List V) (k : Nat → List V → Option β) : Option β :=
  (Loop (s_expr_writeKids_2L C ((V.nth ds 0).toStr) ((V.nth (ds.drop 1) 0).toInt) ((V.nth ((ds.drop 1).drop 1) 0).toList) ((V.nth (((ds.drop 1).drop 1).drop 1) 0).toInt)) ((V.nth ((((ds.drop 1).drop 1).drop 1).drop 1) 0).toInt, (V.nth (ds.drop 5) 0).toList)).bind (w_expr_writeKids_2 ((V.nth ds 0).toStr) ((V.nth (ds.drop 1) 0).toInt) ((V.nth ((ds.drop 1).drop 1) 0).toList) ((V.nth (((ds.drop 1).drop 1).drop 1) 0).toInt) β k)
noncomputable def LT_expr_writeKids (C : CallF) : LTab := fun β n ds k =>
  bif Nat.beq n 303 then l_expr_writeKids_1 C β ds k else
  bif Nat.beq n 17 then l_expr_writeKids_2 C β ds k else
  none
theorem t_expr_writeKids_1 (C : CallF) : Tells Try.prog ann C (LT_expr_writeKids C) 58 (ntmpsOf Try.prog (ann.fid 58)) (ann.sin 58).blks.length (.cond 18 (codeAt [1, 0, 0, 1, 1, 0, 0, 1, 0, 1, 0] B_expr_writeKids) (codeAt [1, 0, 0, 1, 1, 0, 0, 1, 0, 1, 1] B_expr_writeKids)) :=
  tells_cond2 (I := (List UInt8) × Int × (List V) × Int × Int × Bool × Int × Int × (List V) × (List V)) (R := List V) (S := (⟨[(0, .one (.ptrC 0 0 0)), (2, .one (.str)), (3, .one (.int .i64)), (9, .one (.ptrC 2 0 0)), (10, .one (.list T_api_Expr)), (11, .one (.int .i64)), (12, .one (.int .i64)), (18, .one (.bool))], [.var 43 [.one (.und), .one (.whole T_uint8 3)], .dead, .var 24 [.one (.int .i64), .one (.int .i64), .one (.list T_api_Expr)], .arr T_uint8 false]⟩, [(.norm, ⟨[(0, .one (.ptrC 0 0 0)), (2, .one (.str)), (3, .one (.int .i64)), (9, .one (.ptrC 2 0 0)), (10, .one (.list T_api_Expr)), (11, .one (.int .i64)), (12, .one (.int .i64))], [.var 43 [.one (.und), .one (.whole T_uint8 3)], .dead, .var 24 [.one (.int .i64), .one (.int .i64), .one (.list T_api_Expr)], .arr T_uint8 false]⟩)])) (by kernel_rfl) (ltok_of (bs := []) (by kernel_rfl) tells_nil) (ltok_of (bs := []) (by kernel_rfl) tells_nil)
    (un fun (separator : List UInt8) => un fun (least : Int) => un fun (t10 : List V) => un fun (t11 : Int) => un fun (t12 : Int) => un fun (t18 : Bool) => un fun (kids_0 : Int) => un fun (kids_1 : Int) => un fun (kids_2 : List V) (b3_ : List V) => [.str separator, .int .i64 least, .list T_api_Expr t10, .int .i64 t11, .int .i64 t12, .bool t18, .int .i64 kids_0, .int .i64 kids_1, .list T_api_Expr kids_2, .list T_uint8 b3_]) (un fun (separator : List UInt8) => un fun (least : Int) => un fun (t10 : List V) => un fun (t11 : Int) => un fun (t12 : Int) => un fun (t18 : Bool) => un fun (kids_0 : Int) => un fun (kids_1 : Int) => un fun (kids_2 : List V) (b3_ : List V) => w_expr_writeKids_1 separator least t10 t11 t12 t18 kids_0 kids_1 kids_2 b3_)
    (fun ds => ((V.nth ds 0).toStr, (V.nth (ds.drop 1) 0).toInt, (V.nth ((ds.drop 1).drop 1) 0).toList, (V.nth (((ds.drop 1).drop 1).drop 1) 0).toInt, (V.nth ((((ds.drop 1).drop 1).drop 1).drop 1) 0).toInt, (V.nth (((((ds.drop 1).drop 1).drop 1).drop 1).drop 1) 0).toBool, (V.nth (ds.drop 6) 0).toInt, (V.nth ((ds.drop 6).drop 1) 0).toInt, (V.nth (((ds.drop 6).drop 1).drop 1) 0).toList, (V.nth ((ds.drop 6).drop 3) 0).toList)) (un fun (separator : List UInt8) => un fun (least : Int) => un fun (t10 : List V) => un fun (t11 : Int) => un fun (t12 : Int) => un fun (t18 : Bool) => un fun (kids_0 : Int) => un fun (kids_1 : Int) => un fun (kids_2 : List V) (b3_ : List V) => fun β kr => s_expr_writeKids_1 C separator least t10 t11 t12 t18 kids_0 kids_1 kids_2 b3_ kr)
    (l_expr_writeKids_1 C) (fun ds => by kernel_rfl)
    (fun i β k => by kernel_rfl) (fun β ds k => by kernel_rfl) (fun β ds k => by kernel_rfl) (fun i β k r => by skip <;> kernel_rfl)
theorem t_expr_writeKids_2 (C : CallF) : Tells Try.prog ann C (LT_expr_writeKids C) 58 (ntmpsOf Try.prog (ann.fid 58)) (ann.sin 58).blks.length (.loop (codeAt [1, 0, 0] B_expr_writeKids)) :=
  tells_loop2 (I := (List UInt8) × Int × (List V) × Int) (X := Int × (List V)) (R := Int × Bool × (List V)) (S := (⟨[(0, .one (.ptrC 0 0 0)), (2, .one (.str)), (3, .one (.int .i64)), (10, .one (.list T_api_Expr)), (11, .one (.int .i64)), (12, .one (.int .i64))], [.var 43 [.one (.und), .one (.whole T_uint8 2)], .dead, .arr T_uint8 false]⟩, [(.exit 0, ⟨[(0, .one (.ptrC 0 0 0)), (2, .one (.str)), (3, .one (.int .i64)), (10, .one (.list T_api_Expr)), (11, .one (.int .i64)), (12, .one (.int .i64)), (13, .one (.bool))], [.var 43 [.one (.und), .one (.whole T_uint8 2)], .dead, .arr T_uint8 false]⟩)])) (by kernel_rfl) (ltok_of (bs := [.cond 18 (codeAt [1, 0, 0, 1, 1, 0, 0, 1, 0, 1, 0] B_expr_writeKids) (codeAt [1, 0, 0, 1, 1, 0, 0, 1, 0, 1, 1] B_expr_writeKids)]) (by kernel_rfl) (tells_cons (t_expr_writeKids_1 C) tells_nil))
    (un fun (separator : List UInt8) => un fun (least : Int) => un fun (t10 : List V) (t11 : Int) => (un fun (t12 : Int) (b2_ : List V) => [.str separator, .int .i64 least, .list T_api_Expr t10, .int .i64 t11, .int .i64 t12, .list T_uint8 b2_] : (Int × (List V)) → List V)) (un fun (separator : List UInt8) => un fun (least : Int) => un fun (t10 : List V) (t11 : Int) => w_expr_writeKids_2 separator least t10 t11)
    (fun ds => ((V.nth ds 0).toStr, (V.nth (ds.drop 1) 0).toInt, (V.nth ((ds.drop 1).drop 1) 0).toList, (V.nth (((ds.drop 1).drop 1).drop 1) 0).toInt)) (fun ds => ((V.nth ((((ds.drop 1).drop 1).drop 1).drop 1) 0).toInt, (V.nth (ds.drop 5) 0).toList)) (fun e => ((V.nth ((((e.2.drop 1).drop 1).drop 1).drop 1) 0).toInt, (V.nth (((((e.2.drop 1).drop 1).drop 1).drop 1).drop 1) 0).toBool, (V.nth (e.2.drop 6) 0).toList))
    (un fun (separator : List UInt8) => un fun (least : Int) => un fun (t10 : List V) (t11 : Int) => (un fun (t12 : Int) (b2_ : List V) => fun β kn kr => s_expr_writeKids_2 C separator least t10 t11 t12 b2_ kn kr : (Int × (List V)) → (β : Type) → ((Int × (List V)) → Option β) → ((Int × Bool × (List V)) → Option β) → Option β))
    (l_expr_writeKids_2 C) (fun ds => by kernel_rfl) (fun i x => by kernel_rfl) (fun i r => by skip <;> kernel_rfl)
    (fun i x β k => by kernel_rfl) (fun β ds k => by kernel_rfl) (fun β ds k => by kernel_rfl) (fun i β k r => by skip <;> kernel_rfl)
noncomputable def f_expr_writeKids (C : CallF) (kids : List V) (separator : List UInt8) (least : Int) (b1_ : List V) : Option (List V) :=
  (Loop (s_expr_writeKids_2L C separator least kids (kids.length : Int)) (0, b1_)).bind (un fun (t_9 : Int) => un fun (t_10 : Bool) (b_11 : List V) =>
    some [.list T_uint8 b_11])
theorem f_expr_writeKids_eq (C : CallF) (kids : List V) (separator : List UInt8) (least : Int) (b1_ : List V) : bodyT Try.prog ann C (LT_expr_writeKids C) 58 [.list T_api_Expr kids, .str separator, .int .i64 least, .list T_uint8 b1_] = f_expr_writeKids C kids separator least b1_ := by kernel_rfl
theorem f_expr_writeKids_of {kids : List V} {separator : List UInt8} {least : Int} {b1_ : List V} {r : Option (List V)} (h : f_expr_writeKids CC kids separator least b1_ = r) : CC F_expr_writeKids [.list T_api_Expr kids, .str separator, .int .i64 least, .list T_uint8 b1_] = r :=
  func_of (key := 58) (L := LT_expr_writeKids CC) (bs := [.loop (codeAt [1, 0, 0] B_expr_writeKids)]) (by kernel_rfl) (tells_cons (t_expr_writeKids_2 CC) tells_nil) ((f_expr_writeKids_eq CC kids separator least b1_).trans h)
end Go.AM

set_option maxRecDepth 100000
namespace Go.AM
open Go.Proofs
noncomputable abbrev B_expr_level : Code := bodyOf Try.prog (ann.fid 69)
noncomputable def LT_expr_level (C : CallF) : LTab := fun β n ds k =>
  none
noncomputable def f_expr_level (C : CallF) (op : Int) : Option (List V) :=
  bif (op : Int) == 4 then
   some [.int .i64 1]
  else
   bif (op : Int) == 6 then
    some [.int .i64 2]
   else
    bif (op : Int) == 5 then
     some [.int .i64 3]
    else
     bif (op : Int) == 8 then
      some [.int .i64 4]
     else
      bif (op : Int) == 7 then
       some [.int .i64 5]
      else
       some [.int .i64 6]
theorem f_expr_level_eq (C : CallF) (op : Int) : bodyT Try.prog ann C (LT_expr_level C) 69 [.int .i64 op] = f_expr_level C op := by kernel_rfl
theorem f_expr_level_of {op : Int} {r : Option (List V)} (h : f_expr_level CC op = r) : CC F_expr_level [.int .i64 op] = r :=
  func_of (key := 69) (L := LT_expr_level CC) (bs := []) (by kernel_rfl) tells_nil ((f_expr_level_eq CC op).trans h)
end Go.AM

set_option maxRecDepth 100000
namespace Go.AM
open Go.Proofs
noncomputable abbrev B_strings_Builder_WriteByte : Code := bodyOf Try.prog (ann.fid 57)
noncomputable def LT_strings_Builder_WriteByte (C : CallF) : LTab := fun β n ds k =>
  none
noncomputable def f_strings_Builder_WriteByte (C : CallF) (c : Int) (b1_ : List V) : Option (List V) :=
  bif Nat.ble ((b1_.length + ([.int .u8 c] : List V).length) * 1) maxBytes then
   some [.list T_uint8 (b1_ ++ ([.int .u8 c] : List V))]
  else none
theorem f_strings_Builder_WriteByte_eq (C : CallF) (c : Int) (b1_ : List V) : bodyT Try.prog ann C (LT_strings_Builder_WriteByte C) 57 [.int .u8 c, .list T_uint8 b1_] = f_strings_Builder_WriteByte C c b1_ := by kernel_rfl
theorem f_strings_Builder_WriteByte_of {c : Int} {b1_ : List V} {r : Option (List V)} (h : f_strings_Builder_WriteByte CC c b1_ = r) : CC F_strings_Builder_WriteByte [.int .u8 c, .list T_uint8 b1_] = r :=
  func_of (key := 57) (L := LT_strings_Builder_WriteByte CC) (bs := []) (by kernel_rfl) tells_nil ((f_strings_Builder_WriteByte_eq CC c b1_).trans h)
end Go.AM

set_option maxRecDepth 100000
namespace Go.AM
open Go.Proofs
noncomputable abbrev B_strings_Builder_WriteString : Code := bodyOf Try.prog (ann.fid 68)
noncomputable def LT_strings_Builder_WriteString (C : CallF) : LTab := fun β n ds k =>
  none
noncomputable def f_strings_Builder_WriteString (C : CallF) (s : List UInt8) (b1_ : List V) : Option (List V) :=
  bif Nat.ble ((b1_.length + (s.map byteV).length) * 1) maxBytes then
   some [.int .i64 (s.length : Int), .list T_uint8 (b1_ ++ (s.map byteV))]
  else none
theorem f_strings_Builder_WriteString_eq (C : CallF) (s : List UInt8) (b1_ : List V) : bodyT Try.prog ann C (LT_strings_Builder_WriteString C) 68 [.str s, .list T_uint8 b1_] = f_strings_Builder_WriteString C s b1_ := by kernel_rfl
theorem f_strings_Builder_WriteString_of {s : List UInt8} {b1_ : List V} {r : Option (List V)} (h : f_strings_Builder_WriteString CC s b1_ = r) : CC F_strings_Builder_WriteString [.str s, .list T_uint8 b1_] = r :=
  func_of (key := 68) (L := LT_strings_Builder_WriteString CC) (bs := []) (by kernel_rfl) tells_nil ((f_strings_Builder_WriteString_eq CC s b1_).trans h)
end Go.AM

set_option maxRecDepth 100000
namespace Go.AM
open Go.Proofs
noncomputable abbrev B_strings_Builder_String : Code := bodyOf Try.prog (ann.fid 41)
noncomputable def LT_strings_Builder_String (C : CallF) : LTab := fun β n ds k =>
  none
noncomputable def f_strings_Builder_String (C : CallF) (b1_ : List V) : Option (List V) :=
  bif Nat.blt 0 b1_.length then
   bif decide (0 < (b1_.length : Int)) && (decide ((b1_.length : Int) ≤ (b1_.length : Int)) && (Nat.ble (((b1_.length : Int) : Int).toNat) maxStr && (b1_.take (((b1_.length : Int) : Int).toNat)).all inByte)) then
    some [.str (bytesOfV (b1_.take (((b1_.length : Int) : Int).toNat)))]
   else none
  else none
theorem f_strings_Builder_String_eq (C : CallF) (b1_ : List V) : bodyT Try.prog ann C (LT_strings_Builder_String C) 41 [.list T_uint8 b1_] = f_strings_Builder_String C b1_ := by kernel_rfl
theorem f_strings_Builder_String_of {b1_ : List V} {r : Option (List V)} (h : f_strings_Builder_String CC b1_ = r) : CC F_strings_Builder_String [.list T_uint8 b1_] = r :=
  func_of (key := 41) (L := LT_strings_Builder_String CC) (bs := []) (by kernel_rfl) tells_nil ((f_strings_Builder_String_eq CC b1_).trans h)
end Go.AM

set_option maxRecDepth 100000
namespace Go.AM
open Go.Proofs
noncomputable abbrev B_semigroupref04_Format : Code := bodyOf Try.prog (ann.fid 16)
noncomputable def s_semigroupref04_Format_1 (C : CallF) (s between : List UInt8) (t9 : Int) (t38 : Bool) (es_0 es_1 : Int) (es_2 : List V) {β : Type} (kr : ((List UInt8) × Int) → Option β) : Option β :=
  bif t38 then
   kr ([124], 2)
  else
   bif (t9 : Int) == 6 then
    kr ([38], 3)
   else
    kr (between, 4)
def w_semigroupref04_Format_1 (s between : List UInt8) (t9 : Int) (t38 : Bool) (es_0 es_1 : Int) (es_2 : List V) (β : Type) (k : Nat → List V → Option β) : ((List UInt8) × Int) → Option β := (un fun (v1 : List UInt8) (v2 : Int) => k 0 [.str s, .str v1, .int .i64 v2, .int .i64 es_0, .int .i64 es_1, .list T_api_Expr es_2])
noncomputable def l_semigroupref04_Format_1 (C : CallF) (β : Type) (ds : List V) (k : Nat → List V → Option β) : Option β :=
  s_semigroupref04_Format_1 C ((V.nth ds 0).toStr) ((V.nth (ds.drop 1) 0).toStr) ((V.nth ((ds.drop 1).drop 1) 0).toInt) ((V.nth (((ds.drop 1).drop 1).drop 1) 0).toBool) ((V.nth (ds.drop 4) 0).toInt) ((V.nth ((ds.drop 4).drop 1) 0).toInt) ((V.nth (((ds.drop 4).drop 1).drop 1) 0).toList) (w_semigroupref04_Format_1 ((V.nth ds 0).toStr) ((V.nth (ds.drop 1) 0).toStr) ((V.nth ((ds.drop 1).drop 1) 0).toInt) ((V.nth (((ds.drop 1).drop 1).drop 1) 0).toBool) ((V.nth (ds.drop 4) 0).toInt) ((V.nth ((ds.drop 4).drop 1) 0).toInt) ((V.nth (((ds.drop 4).drop 1).drop 1) 0).toList) β k)
noncomputable def s_semigroupref04_Format_2 (C : CallF) (s between : List UInt8) (least : Int) (t43 : List V) (t44 t45 : Int) (t51 : Bool) (k's_0 k's_1 : Int) (k's_2 : List V) {β : Type} (kr : (List UInt8) → Option β) : Option β :=
  bif t51 then
   bif Nat.ble (s.length + between.length) maxStr then
    kr (s ++ between)
   else none
  else
   kr s
def w_semigroupref04_Format_2 (s between : List UInt8) (least : Int) (t43 : List V) (t44 t45 : Int) (t51 : Bool) (k's_0 k's_1 : Int) (k's_2 : List V) (β : Type) (k : Nat → List V → Option β) : (List UInt8) → Option β := (fun (v0 : List UInt8) => k 0 [.str v0, .str between, .int .i64 least, .list T_api_Expr t43, .int .i64 t44, .int .i64 t45, .int .i64 k's_0, .int .i64 k's_1, .list T_api_Expr k's_2])
noncomputable def l_semigroupref04_Format_2 (C : CallF) (β : Type) (ds : List V) (k : Nat → List V → Option β) : Option β :=
  s_semigroupref04_Format_2 C ((V.nth ds 0).toStr) ((V.nth (ds.drop 1) 0).toStr) ((V.nth ((ds.drop 1).drop 1) 0).toInt) ((V.nth (((ds.drop 1).drop 1).drop 1) 0).toList) ((V.nth ((((ds.drop 1).drop 1).drop 1).drop 1) 0).toInt) ((V.nth (((((ds.drop 1).drop 1).drop 1).drop 1).drop 1) 0).toInt) ((V.nth ((((((ds.drop 1).drop 1).drop 1).drop 1).drop 1).drop 1) 0).toBool) ((V.nth (ds.drop 7) 0).toInt) ((V.nth ((ds.drop 7).drop 1) 0).toInt) ((V.nth (((ds.drop 7).drop 1).drop 1) 0).toList) (w_semigroupref04_Format_2 ((V.nth ds 0).toStr) ((V.nth (ds.drop 1) 0).toStr) ((V.nth ((ds.drop 1).drop 1) 0).toInt) ((V.nth (((ds.drop 1).drop 1).drop 1) 0).toList) ((V.nth ((((ds.drop 1).drop 1).drop 1).drop 1) 0).toInt) ((V.nth (((((ds.drop 1).drop 1).drop 1).drop 1).drop 1) 0).toInt) ((V.nth ((((((ds.drop 1).drop 1).drop 1).drop 1).drop 1).drop 1) 0).toBool) ((V.nth (ds.drop 7) 0).toInt) ((V.nth ((ds.drop 7).drop 1) 0).toInt) ((V.nth (((ds.drop 7).drop 1).drop 1) 0).toList) β k)
noncomputable def s_semigroupref04_Format_3 (C : CallF) (between : List UInt8) (least : Int) (t43 : List V) (t44 : Int) (s : List UInt8) (t45 : Int) {β : Type} (kn : ((List UInt8) × Int) → Option β) (kr : ((List UInt8) × Int × Bool) → Option β) : Option β :=
  bif decide ((t45 : Int) < t44) then
   (idx t43 t45).bind fun x7 =>
   s_semigroupref04_Format_2 C s between least t43 t44 t45 (decide ((t45 : Int) > 0)) ((x7.cell 0).toInt) ((x7.cell 1).toInt) ((x7.cell 2).toList) (fun (s_8 : List UInt8) =>
     (C F_semigroupref04_part [.int .i64 ((x7.cell 0).toInt), .int .i64 ((x7.cell 1).toInt), .list T_api_Expr ((x7.cell 2).toList), .int .i64 least]).bind fun r9 =>
     bif Nat.ble (s_8.length + ((V.nth r9 0).toStr).length) maxStr then
      kn (s_8 ++ ((V.nth r9 0).toStr), IntKind.wrap .i64 (t45 + 1))
     else none)
  else
   kr (s, t45, decide ((t45 : Int) < t44))
noncomputable def s_semigroupref04_Format_3L (C : CallF) (between : List UInt8) (least : Int) (t43 : List V) (t44 : Int) : ((List UInt8) × Int) → Option (((List UInt8) × Int) ⊕ ((List UInt8) × Int × Bool)) := un fun s t45 => s_semigroupref04_Format_3 C between least t43 t44 s t45 (fun y => some (.inl y)) (fun r => some (.inr r))
def w_semigroupref04_Format_3 (between : List UInt8) (least : Int) (t43 : List V) (t44 : Int) (β : Type) (k : Nat → List V → Option β) : ((List UInt8) × Int × Bool) → Option β := (un fun (v0 : List UInt8) => un fun (v5 : Int) (v6 : Bool) => k 0 [.str v0, .str between, .int .i64 least, .list T_api_Expr t43, .int .i64 t44, .int .i64 v5, .bool v6])
noncomputable def l_semigroupref04_Format_3 (C : CallF) (β : Type) (ds : List V) (k : Nat → List V → Option β) : Option β :=
  (Loop (s_semigroupref04_Format_3L C ((V.nth (ds.drop 1) 0).toStr) ((V.nth ((ds.drop 1).drop 1) 0).toInt) ((V.nth (((ds.drop 1).drop 1).drop 1) 0).toList) ((V.nth ((((ds.drop 1).drop 1).drop 1).drop 1) 0).toInt)) ((V.nth ds 0).toStr, (V.nth (((((ds.drop 1).drop 1).drop 1).drop 1).drop 1) 0).toInt)).bind (w_semigroupref04_Format_3 ((V.nth (ds.drop 1) 0).toStr) ((V.nth ((ds.drop 1).drop 1) 0).toInt) ((V.nth (((ds.drop 1).drop 1).drop 1) 0).toList) ((V.nth ((((ds.drop 1).drop 1).drop 1).drop 1) 0).toInt) β k)
noncomputable def LT_semigroupref04_Format (C : CallF) : LTab := fun β n ds k =>
  bif Nat.beq n 623 then l_semigroupref04_Format_1 C β ds k else
  bif Nat.beq n 831 then l_semigroupref04_Format_2 C β ds k else
  bif Nat.beq n 305 then l_semigroupref04_Format_3 C β ds k else
  none
theorem t_semigroupref04_Format_1 (C : CallF) : Tells Try.prog ann C (LT_semigroupref04_Format C) 16 (ntmpsOf Try.prog (ann.fid 16)) (ann.sin 16).blks.length (.cond 38 (codeAt [1, 1, 0, 1, 0, 1, 1, 1, 1, 1, 1, 1, 1, 1, 1, 1, 0] B_semigroupref04_Format) (codeAt [1, 1, 0, 1, 0, 1, 1, 1, 1, 1, 1, 1, 1, 1, 1, 1, 1] B_semigroupref04_Format)) :=
  tells_cond2 (I := (List UInt8) × (List UInt8) × Int × Bool × Int × Int × (List V)) (R := (List UInt8) × Int) (S := (⟨[(1, .one (.ptrC 0 0 0)), (3, .one (.str)), (4, .one (.str)), (9, .one (.int .i64)), (38, .one (.bool))], [.var 24 [.one (.int .i64), .one (.int .i64), .one (.list T_api_Expr)]]⟩, [(.norm, ⟨[(1, .one (.ptrC 0 0 0)), (3, .one (.str)), (4, .one (.str)), (5, .one (.int .i64))], [.var 24 [.one (.int .i64), .one (.int .i64), .one (.list T_api_Expr)]]⟩)])) (by kernel_rfl) (ltok_of (bs := []) (by kernel_rfl) tells_nil) (ltok_of (bs := []) (by kernel_rfl) tells_nil)
    (un fun (s : List UInt8) => un fun (between : List UInt8) => un fun (t9 : Int) => un fun (t38 : Bool) => un fun (es_0 : Int) => un fun (es_1 : Int) (es_2 : List V) => [.str s, .str between, .int .i64 t9, .bool t38, .int .i64 es_0, .int .i64 es_1, .list T_api_Expr es_2]) (un fun (s : List UInt8) => un fun (between : List UInt8) => un fun (t9 : Int) => un fun (t38 : Bool) => un fun (es_0 : Int) => un fun (es_1 : Int) (es_2 : List V) => w_semigroupref04_Format_1 s between t9 t38 es_0 es_1 es_2)
    (fun ds => ((V.nth ds 0).toStr, (V.nth (ds.drop 1) 0).toStr, (V.nth ((ds.drop 1).drop 1) 0).toInt, (V.nth (((ds.drop 1).drop 1).drop 1) 0).toBool, (V.nth (ds.drop 4) 0).toInt, (V.nth ((ds.drop 4).drop 1) 0).toInt, (V.nth (((ds.drop 4).drop 1).drop 1) 0).toList)) (un fun (s : List UInt8) => un fun (between : List UInt8) => un fun (t9 : Int) => un fun (t38 : Bool) => un fun (es_0 : Int) => un fun (es_1 : Int) (es_2 : List V) => fun β kr => s_semigroupref04_Format_1 C s between t9 t38 es_0 es_1 es_2 kr)
    (l_semigroupref04_Format_1 C) (fun ds => by kernel_rfl)
    (fun i β k => by kernel_rfl) (fun β ds k => by kernel_rfl) (fun β ds k => by kernel_rfl) (fun i β k r => by skip <;> kernel_rfl)
theorem t_semigroupref04_Format_2 (C : CallF) : Tells Try.prog ann C (LT_semigroupref04_Format C) 16 (ntmpsOf Try.prog (ann.fid 16)) (ann.sin 16).blks.length (.cond 51 (codeAt [1, 1, 1, 0, 1, 0, 0, 1, 1, 0, 0, 1, 0, 1, 0] B_semigroupref04_Format) (codeAt [1, 1, 1, 0, 1, 0, 0, 1, 1, 0, 0, 1, 0, 1, 1] B_semigroupref04_Format)) :=
  tells_cond2 (I := (List UInt8) × (List UInt8) × Int × (List V) × Int × Int × Bool × Int × Int × (List V)) (R := List UInt8) (S := (⟨[(3, .one (.str)), (4, .one (.str)), (5, .one (.int .i64)), (7, .one (.ptrC 0 0 0)), (43, .one (.list T_api_Expr)), (44, .one (.int .i64)), (45, .one (.int .i64)), (51, .one (.bool))], [.var 24 [.one (.int .i64), .one (.int .i64), .one (.list T_api_Expr)]]⟩, [(.norm, ⟨[(3, .one (.str)), (4, .one (.str)), (5, .one (.int .i64)), (7, .one (.ptrC 0 0 0)), (43, .one (.list T_api_Expr)), (44, .one (.int .i64)), (45, .one (.int .i64))], [.var 24 [.one (.int .i64), .one (.int .i64), .one (.list T_api_Expr)]]⟩)])) (by kernel_rfl) (ltok_of (bs := []) (by kernel_rfl) tells_nil) (ltok_of (bs := []) (by kernel_rfl) tells_nil)
    (un fun (s : List UInt8) => un fun (between : List UInt8) => un fun (least : Int) => un fun (t43 : List V) => un fun (t44 : Int) => un fun (t45 : Int) => un fun (t51 : Bool) => un fun (k's_0 : Int) => un fun (k's_1 : Int) (k's_2 : List V) => [.str s, .str between, .int .i64 least, .list T_api_Expr t43, .int .i64 t44, .int .i64 t45, .bool t51, .int .i64 k's_0, .int .i64 k's_1, .list T_api_Expr k's_2]) (un fun (s : List UInt8) => un fun (between : List UInt8) => un fun (least : Int) => un fun (t43 : List V) => un fun (t44 : Int) => un fun (t45 : Int) => un fun (t51 : Bool) => un fun (k's_0 : Int) => un fun (k's_1 : Int) (k's_2 : List V) => w_semigroupref04_Format_2 s between least t43 t44 t45 t51 k's_0 k's_1 k's_2)
    (fun ds => ((V.nth ds 0).toStr, (V.nth (ds.drop 1) 0).toStr, (V.nth ((ds.drop 1).drop 1) 0).toInt, (V.nth (((ds.drop 1).drop 1).drop 1) 0).toList, (V.nth ((((ds.drop 1).drop 1).drop 1).drop 1) 0).toInt, (V.nth (((((ds.drop 1).drop 1).drop 1).drop 1).drop 1) 0).toInt, (V.nth ((((((ds.drop 1).drop 1).drop 1).drop 1).drop 1).drop 1) 0).toBool, (V.nth (ds.drop 7) 0).toInt, (V.nth ((ds.drop 7).drop 1) 0).toInt, (V.nth (((ds.drop 7).drop 1).drop 1) 0).toList)) (un fun (s : List UInt8) => un fun (between : List UInt8) => un fun (least : Int) => un fun (t43 : List V) => un fun (t44 : Int) => un fun (t45 : Int) => un fun (t51 : Bool) => un fun (k's_0 : Int) => un fun (k's_1 : Int) (k's_2 : List V) => fun β kr => s_semigroupref04_Format_2 C s between least t43 t44 t45 t51 k's_0 k's_1 k's_2 kr)
    (l_semigroupref04_Format_2 C) (fun ds => by kernel_rfl)
    (fun i β k => by kernel_rfl) (fun β ds k => by kernel_rfl) (fun β ds k => by kernel_rfl) (fun i β k r => by skip <;> kernel_rfl)
theorem t_semigroupref04_Format_3 (C : CallF) : Tells Try.prog ann C (LT_semigroupref04_Format C) 16 (ntmpsOf Try.prog (ann.fid 16)) (ann.sin 16).blks.length (.loop (codeAt [1, 1, 1, 0, 1, 0, 0] B_semigroupref04_Format)) :=
  tells_loop2 (I := (List UInt8) × Int × (List V) × Int) (X := (List UInt8) × Int) (R := (List UInt8) × Int × Bool) (S := (⟨[(3, .one (.str)), (4, .one (.str)), (5, .one (.int .i64)), (43, .one (.list T_api_Expr)), (44, .one (.int .i64)), (45, .one (.int .i64))], []⟩, [(.exit 1, ⟨[(3, .one (.str)), (4, .one (.str)), (5, .one (.int .i64)), (43, .one (.list T_api_Expr)), (44, .one (.int .i64)), (45, .one (.int .i64)), (46, .one (.bool))], []⟩)])) (by kernel_rfl) (ltok_of (bs := [.cond 51 (codeAt [1, 1, 1, 0, 1, 0, 0, 1, 1, 0, 0, 1, 0, 1, 0] B_semigroupref04_Format) (codeAt [1, 1, 1, 0, 1, 0, 0, 1, 1, 0, 0, 1, 0, 1, 1] B_semigroupref04_Format)]) (by kernel_rfl) (tells_cons (t_semigroupref04_Format_2 C) tells_nil))
    (un fun (between : List UInt8) => un fun (least : Int) => un fun (t43 : List V) (t44 : Int) => (un fun (s : List UInt8) (t45 : Int) => [.str s, .str between, .int .i64 least, .list T_api_Expr t43, .int .i64 t44, .int .i64 t45] : ((List UInt8) × Int) → List V)) (un fun (between : List UInt8) => un fun (least : Int) => un fun (t43 : List V) (t44 : Int) => w_semigroupref04_Format_3 between least t43 t44)
    (fun ds => ((V.nth (ds.drop 1) 0).toStr, (V.nth ((ds.drop 1).drop 1) 0).toInt, (V.nth (((ds.drop 1).drop 1).drop 1) 0).toList, (V.nth ((((ds.drop 1).drop 1).drop 1).drop 1) 0).toInt)) (fun ds => ((V.nth ds 0).toStr, (V.nth (((((ds.drop 1).drop 1).drop 1).drop 1).drop 1) 0).toInt)) (fun e => ((V.nth e.2 0).toStr, (V.nth (((((e.2.drop 1).drop 1).drop 1).drop 1).drop 1) 0).toInt, (V.nth ((((((e.2.drop 1).drop 1).drop 1).drop 1).drop 1).drop 1) 0).toBool))
    (un fun (between : List UInt8) => un fun (least : Int) => un fun (t43 : List V) (t44 : Int) => (un fun (s : List UInt8) (t45 : Int) => fun β kn kr => s_semigroupref04_Format_3 C between least t43 t44 s t45 kn kr : ((List UInt8) × Int) → (β : Type) → (((List UInt8) × Int) → Option β) → (((List UInt8) × Int × Bool) → Option β) → Option β))
    (l_semigroupref04_Format_3 C) (fun ds => by kernel_rfl) (fun i x => by kernel_rfl) (fun i r => by skip <;> kernel_rfl)
    (fun i x β k => by kernel_rfl) (fun β ds k => by kernel_rfl) (fun β ds k => by kernel_rfl) (fun i β k r => by skip <;> kernel_rfl)
noncomputable def f_semigroupref04_Format (C : CallF) (e_0 e_1 : Int) (e_2 : List V) : Option (List V) :=
  bif (e_0 : Int) == 1 then
   some [.str [48]]
  else
   bif (e_0 : Int) == 2 then
    some [.str [49]]
   else
    bif (e_0 : Int) == 3 then
     some [.str (bytesOfV ([.int .u8 (IntKind.wrap .u8 (IntKind.wrap .i64 (97 + e_1)))] : List V))]
    else
     bif (e_0 : Int) == 8 then
      (e_2[0]?).bind fun x1 =>
      (C F_semigroupref04_part [.int .i64 ((x1.cell 0).toInt), .int .i64 ((x1.cell 1).toInt), .list T_api_Expr ((x1.cell 2).toList), .int .i64 4]).bind fun r2 =>
      bif Nat.ble ([33].length + ((V.nth r2 0).toStr).length) maxStr then
       some [.str ([33] ++ ((V.nth r2 0).toStr))]
      else none
     else
      bif (e_0 : Int) == 7 then
       (e_2[0]?).bind fun x3 =>
       (C F_semigroupref04_part [.int .i64 ((x3.cell 0).toInt), .int .i64 ((x3.cell 1).toInt), .list T_api_Expr ((x3.cell 2).toList), .int .i64 5]).bind fun r4 =>
       bif Nat.ble (((V.nth r4 0).toStr).length + [42].length) maxStr then
        some [.str (((V.nth r4 0).toStr) ++ [42])]
       else none
      else
       s_semigroupref04_Format_1 C [] [] e_0 ((e_0 : Int) == 4) e_0 e_1 e_2 (un fun (between_5 : List UInt8) (least_6 : Int) =>
         (Loop (s_semigroupref04_Format_3L C between_5 least_6 e_2 (e_2.length : Int)) ([], 0)).bind (un fun (s_10 : List UInt8) => un fun (t_11 : Int) (t_12 : Bool) =>
           some [.str s_10]))
theorem f_semigroupref04_Format_eq (C : CallF) (e_0 e_1 : Int) (e_2 : List V) : bodyT Try.prog ann C (LT_semigroupref04_Format C) 16 [.int .i64 e_0, .int .i64 e_1, .list T_api_Expr e_2] = f_semigroupref04_Format C e_0 e_1 e_2 := by kernel_rfl
theorem f_semigroupref04_Format_of {e_0 e_1 : Int} {e_2 : List V} {r : Option (List V)} (h : f_semigroupref04_Format CC e_0 e_1 e_2 = r) : CC F_semigroupref04_Format [.int .i64 e_0, .int .i64 e_1, .list T_api_Expr e_2] = r :=
  func_of (key := 16) (L := LT_semigroupref04_Format CC) (bs := [.cond 38 (codeAt [1, 1, 0, 1, 0, 1, 1, 1, 1, 1, 1, 1, 1, 1, 1, 1, 0] B_semigroupref04_Format) (codeAt [1, 1, 0, 1, 0, 1, 1, 1, 1, 1, 1, 1, 1, 1, 1, 1, 1] B_semigroupref04_Format), .loop (codeAt [1, 1, 1, 0, 1, 0, 0] B_semigroupref04_Format)]) (by kernel_rfl) (tells_cons (t_semigroupref04_Format_1 CC) (tells_cons (t_semigroupref04_Format_3 CC) tells_nil)) ((f_semigroupref04_Format_eq CC e_0 e_1 e_2).trans h)
end Go.AM

set_option maxRecDepth 100000
namespace Go.AM
open Go.Proofs
noncomputable abbrev B_semigroupref04_part : Code := bodyOf Try.prog (ann.fid 42)
noncomputable def LT_semigroupref04_part (C : CallF) : LTab := fun β n ds k =>
  none
noncomputable def f_semigroupref04_part (C : CallF) (e_0 e_1 : Int) (e_2 : List V) (least : Int) : Option (List V) :=
  (C F_semigroupref04_level [.int .i64 e_0]).bind fun r1 =>
  bif decide ((((V.nth r1 0).toInt) : Int) < least) then
   (C F_semigroupref04_Format [.int .i64 e_0, .int .i64 e_1, .list T_api_Expr e_2]).bind fun r2 =>
   bif Nat.ble ([40].length + ((V.nth r2 0).toStr).length) maxStr then
    bif Nat.ble (([40] ++ ((V.nth r2 0).toStr)).length + [41].length) maxStr then
     some [.str (([40] ++ ((V.nth r2 0).toStr)) ++ [41])]
    else none
   else none
  else
   (C F_semigroupref04_Format [.int .i64 e_0, .int .i64 e_1, .list T_api_Expr e_2]).bind fun r3 =>
   some [.str ((V.nth r3 0).toStr)]
theorem f_semigroupref04_part_eq (C : CallF) (e_0 e_1 : Int) (e_2 : List V) (least : Int) : bodyT Try.prog ann C (LT_semigroupref04_part C) 42 [.int .i64 e_0, .int .i64 e_1, .list T_api_Expr e_2, .int .i64 least] = f_semigroupref04_part C e_0 e_1 e_2 least := by kernel_rfl
theorem f_semigroupref04_part_of {e_0 e_1 : Int} {e_2 : List V} {least : Int} {r : Option (List V)} (h : f_semigroupref04_part CC e_0 e_1 e_2 least = r) : CC F_semigroupref04_part [.int .i64 e_0, .int .i64 e_1, .list T_api_Expr e_2, .int .i64 least] = r :=
  func_of (key := 42) (L := LT_semigroupref04_part CC) (bs := []) (by kernel_rfl) tells_nil ((f_semigroupref04_part_eq CC e_0 e_1 e_2 least).trans h)
end Go.AM

set_option maxRecDepth 100000
namespace Go.AM
open Go.Proofs
noncomputable abbrev B_semigroupref04_level : Code := bodyOf Try.prog (ann.fid 59)
noncomputable def LT_semigroupref04_level (C : CallF) : LTab := fun β n ds k =>
  none
noncomputable def f_semigroupref04_level (C : CallF) (op : Int) : Option (List V) :=
  bif (op : Int) == 4 then
   some [.int .i64 1]
  else
   bif (op : Int) == 6 then
    some [.int .i64 2]
   else
    bif (op : Int) == 5 then
     some [.int .i64 3]
    else
     bif (op : Int) == 8 then
      some [.int .i64 4]
     else
      bif (op : Int) == 7 then
       some [.int .i64 5]
      else
       some [.int .i64 6]
theorem f_semigroupref04_level_eq (C : CallF) (op : Int) : bodyT Try.prog ann C (LT_semigroupref04_level C) 59 [.int .i64 op] = f_semigroupref04_level C op := by kernel_rfl
theorem f_semigroupref04_level_of {op : Int} {r : Option (List V)} (h : f_semigroupref04_level CC op = r) : CC F_semigroupref04_level [.int .i64 op] = r :=
  func_of (key := 59) (L := LT_semigroupref04_level CC) (bs := []) (by kernel_rfl) tells_nil ((f_semigroupref04_level_eq CC op).trans h)
end Go.AM
