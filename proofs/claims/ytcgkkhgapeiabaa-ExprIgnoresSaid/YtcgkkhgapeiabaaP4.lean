/-
  Functions of the program, lifted to plain data.
-/
import Derived.Test.YtcgkkhgapeiabaaProg
import Derived.Tactics
import Derived.Tactics2
import Derived.Recover
import Derived.WalkKit
import Derived.StillTactics
import Derived.Laws.Pointers
import Derived.Lib.LazyBuf
import Derived.RegionTactic
import Derived.LoopTactic
import Derived.Laws.Externs
import Derived.Lib.Builder
import Derived.Test.YtcgkkhgapeiabaaP3
set_option linter.unusedVariables false
set_option linter.unusedSimpArgs false
set_option maxRecDepth 100000
namespace Go.AM
open Go.Proofs
abbrev F_semigrouplaw04_ExprValidates : FuncId := 3
abbrev F_semigrouplaw04_ExprFormats : FuncId := 4
abbrev F_semigrouplaw04_ExprRoundTrips : FuncId := 5
abbrev F_semigrouplaw04_ExprCompares : FuncId := 6
abbrev F_semigrouplaw04_ExprMeasures : FuncId := 7
abbrev F_semigrouplaw04_ExprNormalizes : FuncId := 8
abbrev F_semigrouplaw04_ExprIgnores : FuncId := 9
abbrev F_semigrouplaw04_ExprSettles : FuncId := 10
abbrev F_expr_Validate : FuncId := 11
abbrev F_semigroupref04_Validate : FuncId := 12
abbrev F_semigrouplaw04_awake : FuncId := 13
abbrev F_expr_Format : FuncId := 14
abbrev F_semigroupref04_Valid : FuncId := 15
abbrev F_semigroupref04_Format : FuncId := 16
abbrev F_expr_Parse : FuncId := 17
abbrev F_semigrouplaw04_same : FuncId := 18
abbrev F_expr_Compare : FuncId := 19
abbrev F_semigroupref04_Compare : FuncId := 20
abbrev F_expr_Size : FuncId := 21
abbrev F_expr_Depth : FuncId := 22
abbrev F_expr_StarHeight : FuncId := 23
abbrev F_expr_StarFree : FuncId := 24
abbrev F_expr_Nullable : FuncId := 25
abbrev F_semigroupref04_Size : FuncId := 26
abbrev F_semigroupref04_Depth : FuncId := 27
abbrev F_semigroupref04_StarHeight : FuncId := 28
abbrev F_semigroupref04_Uses : FuncId := 29
abbrev F_semigroupref04_Nullable : FuncId := 30
abbrev F_expr_Normal : FuncId := 31
abbrev F_semigroupref04_Normal : FuncId := 32
abbrev F_semigrouplaw04_little : FuncId := 33
abbrev F_expr_withinLimits : FuncId := 34
abbrev F_expr_wellFormed : FuncId := 35
abbrev F_semigroupref01_MayLetters : FuncId := 36
abbrev F_semigroupref04_Within : FuncId := 37
abbrev F_semigroupref04_shaped : FuncId := 38
abbrev F_expr_valid : FuncId := 39
abbrev F_expr_write : FuncId := 40
abbrev F_strings_Builder_String : FuncId := 41
abbrev F_semigroupref04_part : FuncId := 42
abbrev F_expr_parseText : FuncId := 43
abbrev F_cmp_Compare_int_ : FuncId := 44
abbrev F_slices_CompareFunc___api_Expr___api_Expr_api_Expr_api_Expr_ : FuncId := 45
abbrev F_semigroupref04_sign : FuncId := 46
abbrev F_expr_size : FuncId := 47
abbrev F_expr_depth : FuncId := 48
abbrev F_expr_starHeight : FuncId := 49
abbrev F_expr_HasUnit : FuncId := 50
abbrev F_semigroupref04_measure : FuncId := 51
abbrev F_expr_Simplify : FuncId := 52
abbrev F_semigroupref04_Universal : FuncId := 53
abbrev F_semigroupref04_flat : FuncId := 54
abbrev F_semigroupref04_insert : FuncId := 55
abbrev F_expr_fits : FuncId := 56
abbrev F_strings_Builder_WriteByte : FuncId := 57
abbrev F_expr_writeKids : FuncId := 58
abbrev F_semigroupref04_level : FuncId := 59
abbrev F_expr_parser_union : FuncId := 61
abbrev F_expr_parser_peek : FuncId := 62
abbrev F_cmp_isNaN_int_ : FuncId := 64
abbrev F_slices_ContainsFunc___api_Expr_api_Expr_ : FuncId := 65
abbrev F_expr_Join : FuncId := 66
abbrev F_strings_Builder_WriteString : FuncId := 68
abbrev F_expr_level : FuncId := 69
abbrev F_expr_parser_list : FuncId := 70
abbrev F_expr_parser_and : FuncId := 71
abbrev F_slices_IndexFunc___api_Expr_api_Expr_ : FuncId := 72
abbrev F_expr_joinUnion : FuncId := 73
abbrev F_expr_joinConcat : FuncId := 74
abbrev F_expr_joinAnd : FuncId := 75
abbrev F_expr_unit : FuncId := 76
abbrev F_expr_isUniversal : FuncId := 77
abbrev F_expr_node : FuncId := 79
abbrev F_expr_parser_cat : FuncId := 80
abbrev F_expr_universal : FuncId := 81
abbrev F_slices_DeleteFunc___api_Expr_api_Expr_ : FuncId := 82
abbrev F_expr_flatten : FuncId := 83
abbrev F_expr_isEmpty : FuncId := 84
abbrev F_expr_collect : FuncId := 85
abbrev F_expr_ordered : FuncId := 86
abbrev F_expr_empty : FuncId := 87
abbrev F_expr_isUnit : FuncId := 88
abbrev F_expr_parser_unary : FuncId := 89
abbrev F_expr_parser_begins : FuncId := 90
abbrev F_slices_SortFunc___api_Expr_api_Expr_ : FuncId := 91
abbrev F_slices_CompactFunc___api_Expr_api_Expr_ : FuncId := 92
abbrev F_expr_ordered_1 : FuncId := 93
abbrev F_expr_parser_postfix : FuncId := 94
abbrev F_expr_parser_isLetter : FuncId := 95
abbrev F_slices_pdqsortCmpFunc_api_Expr_ : FuncId := 96
abbrev F_bits_Len : FuncId := 97
abbrev F_expr_parser_atom : FuncId := 98
abbrev F_slices_insertionSortCmpFunc_api_Expr_ : FuncId := 99
abbrev F_slices_heapSortCmpFunc_api_Expr_ : FuncId := 100
abbrev F_slices_breakPatternsCmpFunc_api_Expr_ : FuncId := 101
abbrev F_slices_choosePivotCmpFunc_api_Expr_ : FuncId := 102
abbrev F_slices_reverseRangeCmpFunc_api_Expr_ : FuncId := 103
abbrev F_slices_partialInsertionSortCmpFunc_api_Expr_ : FuncId := 104
abbrev F_slices_partitionEqualCmpFunc_api_Expr_ : FuncId := 105
abbrev F_slices_partitionCmpFunc_api_Expr_ : FuncId := 106
abbrev F_bits_Len64 : FuncId := 108
abbrev F_slices_siftDownCmpFunc_api_Expr_ : FuncId := 109
abbrev F_slices_nextPowerOfTwo : FuncId := 110
abbrev F_slices_xorshift_Next : FuncId := 111
abbrev F_slices_medianAdjacentCmpFunc_api_Expr_ : FuncId := 112
abbrev F_slices_medianCmpFunc_api_Expr_ : FuncId := 113
abbrev F_slices_order2CmpFunc_api_Expr_ : FuncId := 114
abbrev T_int : TypeId := 3
abbrev T_uint8 : TypeId := 5
abbrev T_l_api_Expr : TypeId := 22
abbrev T_api_Expr : TypeId := 24
abbrev K_slices_ContainsFunc___api_Expr_api_Expr__k133 : Nat := 133
abbrev K_slices_IndexFunc___api_Expr_api_Expr__k134 : Nat := 134
abbrev K_slices_DeleteFunc___api_Expr_api_Expr__k135 : Nat := 135
abbrev K_slices_IndexFunc___api_Expr_api_Expr__k136 : Nat := 136
abbrev K_slices_DeleteFunc___api_Expr_api_Expr__k137 : Nat := 137
def S9_65 : Shape × List (Out × Shape) := (⟨[(3, .one (.ptrC 0 0 0)), (4, .one (.ptrC 1 0 0)), (5, .one (.ptrC 2 0 0)), (37, .one (.whole T_int 3)), (38, .one (.int .i64)), (39, .one (.int .i64))], [.var 24 [.one (.int .i64), .one (.int .i64), .one (.list T_api_Expr)], .var 24 [.one (.int .i64), .one (.int .i64), .one (.list T_api_Expr)], .var 24 [.one (.int .i64), .one (.int .i64), .one (.list T_api_Expr)], .arr T_int false]⟩, [(.ret, ⟨[(6, .one (.bool))], []⟩), (.exit 0, ⟨[(3, .one (.ptrC 0 0 0)), (4, .one (.ptrC 1 0 0)), (5, .one (.ptrC 2 0 0)), (37, .one (.whole T_int 3)), (38, .one (.int .i64)), (39, .one (.int .i64)), (40, .one (.bool))], [.var 24 [.one (.int .i64), .one (.int .i64), .one (.list T_api_Expr)], .var 24 [.one (.int .i64), .one (.int .i64), .one (.list T_api_Expr)], .var 24 [.one (.int .i64), .one (.int .i64), .one (.list T_api_Expr)], .arr T_int false]⟩)])
def S16_623 : Shape × List (Out × Shape) := (⟨[(1, .one (.ptrC 0 0 0)), (3, .one (.str)), (4, .one (.str)), (9, .one (.int .i64)), (38, .one (.bool))], [.var 24 [.one (.int .i64), .one (.int .i64), .one (.list T_api_Expr)]]⟩, [(.norm, ⟨[(1, .one (.ptrC 0 0 0)), (3, .one (.str)), (4, .one (.str)), (5, .one (.int .i64))], [.var 24 [.one (.int .i64), .one (.int .i64), .one (.list T_api_Expr)]]⟩)])
def S16_831 : Shape × List (Out × Shape) := (⟨[(3, .one (.str)), (4, .one (.str)), (5, .one (.int .i64)), (7, .one (.ptrC 0 0 0)), (43, .one (.list T_api_Expr)), (44, .one (.int .i64)), (45, .one (.int .i64)), (51, .one (.bool))], [.var 24 [.one (.int .i64), .one (.int .i64), .one (.list T_api_Expr)]]⟩, [(.norm, ⟨[(3, .one (.str)), (4, .one (.str)), (5, .one (.int .i64)), (7, .one (.ptrC 0 0 0)), (43, .one (.list T_api_Expr)), (44, .one (.int .i64)), (45, .one (.int .i64))], [.var 24 [.one (.int .i64), .one (.int .i64), .one (.list T_api_Expr)]]⟩)])
def S16_305 : Shape × List (Out × Shape) := (⟨[(3, .one (.str)), (4, .one (.str)), (5, .one (.int .i64)), (43, .one (.list T_api_Expr)), (44, .one (.int .i64)), (45, .one (.int .i64))], []⟩, [(.exit 1, ⟨[(3, .one (.str)), (4, .one (.str)), (5, .one (.int .i64)), (43, .one (.list T_api_Expr)), (44, .one (.int .i64)), (45, .one (.int .i64)), (46, .one (.bool))], []⟩)])
def S20_97 : Shape × List (Out × Shape) := (⟨[(2, .one (.ptrC 0 0 0)), (3, .one (.ptrC 1 0 0)), (5, .one (.int .i64))], [.var 24 [.one (.int .i64), .one (.int .i64), .one (.list T_api_Expr)], .var 24 [.one (.int .i64), .one (.int .i64), .one (.list T_api_Expr)]]⟩, [(.ret, ⟨[(4, .one (.int .i64))], []⟩), (.exit 1, ⟨[(2, .one (.ptrC 0 0 0)), (3, .one (.ptrC 1 0 0)), (5, .one (.int .i64)), (42, .one (.bool))], [.var 24 [.one (.int .i64), .one (.int .i64), .one (.list T_api_Expr)], .var 24 [.one (.int .i64), .one (.int .i64), .one (.list T_api_Expr)]]⟩)])
def S28_49 : Shape × List (Out × Shape) := (⟨[(1, .one (.ptrC 0 0 0)), (3, .one (.int .i64)), (7, .one (.list T_api_Expr)), (8, .one (.int .i64)), (9, .one (.int .i64))], [.var 24 [.one (.int .i64), .one (.int .i64), .one (.list T_api_Expr)]]⟩, [(.exit 0, ⟨[(1, .one (.ptrC 0 0 0)), (3, .one (.int .i64)), (7, .one (.list T_api_Expr)), (8, .one (.int .i64)), (9, .one (.int .i64)), (10, .one (.bool))], [.var 24 [.one (.int .i64), .one (.int .i64), .one (.list T_api_Expr)]]⟩)])
def S29_65 : Shape × List (Out × Shape) := (⟨[(1, .one (.int .i64)), (12, .one (.list T_api_Expr)), (13, .one (.int .i64)), (14, .one (.int .i64))], []⟩, [(.ret, ⟨[(4, .one (.bool))], []⟩), (.exit 0, ⟨[(1, .one (.int .i64)), (12, .one (.list T_api_Expr)), (13, .one (.int .i64)), (14, .one (.int .i64)), (15, .one (.bool))], []⟩)])
def S30_49 : Shape × List (Out × Shape) := (⟨[(1, .one (.ptrC 0 0 0)), (3, .one (.bool)), (4, .one (.bool)), (9, .one (.list T_api_Expr)), (10, .one (.int .i64)), (11, .one (.int .i64))], [.var 24 [.one (.int .i64), .one (.int .i64), .one (.list T_api_Expr)]]⟩, [(.exit 0, ⟨[(1, .one (.ptrC 0 0 0)), (3, .one (.bool)), (4, .one (.bool)), (9, .one (.list T_api_Expr)), (10, .one (.int .i64)), (11, .one (.int .i64)), (12, .one (.bool))], [.var 24 [.one (.int .i64), .one (.int .i64), .one (.list T_api_Expr)]]⟩)])
def S32_49 : Shape × List (Out × Shape) := (⟨[(1, .one (.ptrC 0 0 0)), (2, .one (.ptrC 1 0 0)), (3, .one (.whole T_api_Expr 2)), (19, .one (.list T_api_Expr)), (20, .one (.int .i64)), (21, .one (.int .i64))], [.var 24 [.one (.int .i64), .one (.int .i64), .one (.list T_api_Expr)], .var 24 [.one (.int .i64), .one (.int .i64), .one (.whole T_api_Expr 3)], .arr T_api_Expr false, .arr T_api_Expr false]⟩, [(.exit 0, ⟨[(1, .one (.ptrC 0 0 0)), (2, .one (.ptrC 1 0 0)), (3, .one (.whole T_api_Expr 2)), (19, .one (.list T_api_Expr)), (20, .one (.int .i64)), (21, .one (.int .i64)), (22, .one (.bool))], [.var 24 [.one (.int .i64), .one (.int .i64), .one (.list T_api_Expr)], .var 24 [.one (.int .i64), .one (.int .i64), .one (.whole T_api_Expr 3)], .arr T_api_Expr false, .arr T_api_Expr false]⟩)])
def S32_465 : Shape × List (Out × Shape) := (⟨[(2, .one (.ptrC 0 0 0)), (6, .one (.ptrC 1 0 0)), (9, .one (.ptrC 2 0 0)), (10, .one (.ptrC 3 0 0)), (94, .one (.whole T_api_Expr 4)), (95, .one (.int .i64)), (96, .one (.int .i64))], [.var 24 [.one (.int .i64), .one (.int .i64), .one (.whole T_api_Expr 5)], .var 24 [.one (.int .i64), .one (.int .i64), .one (.list T_api_Expr)], .var 24 [.one (.int .i64), .one (.int .i64), .one (.whole T_api_Expr 6)], .var 24 [.one (.int .i64), .one (.int .i64), .one (.whole T_api_Expr 7)], .arr T_api_Expr false, .arr T_api_Expr false, .arr T_api_Expr false, .arr T_api_Expr false]⟩, [(.ret, ⟨[(2, .one (.ptrC 0 0 0))], [.var 24 [.one (.int .i64), .one (.int .i64), .one (.list T_api_Expr)]]⟩), (.exit 4, ⟨[(2, .one (.ptrC 0 0 0)), (6, .one (.ptrC 1 0 0)), (9, .one (.ptrC 2 0 0)), (10, .one (.ptrC 3 0 0)), (94, .one (.whole T_api_Expr 4)), (95, .one (.int .i64)), (96, .one (.int .i64)), (97, .one (.bool))], [.var 24 [.one (.int .i64), .one (.int .i64), .one (.whole T_api_Expr 5)], .var 24 [.one (.int .i64), .one (.int .i64), .one (.list T_api_Expr)], .var 24 [.one (.int .i64), .one (.int .i64), .one (.whole T_api_Expr 6)], .var 24 [.one (.int .i64), .one (.int .i64), .one (.whole T_api_Expr 7)], .arr T_api_Expr false, .arr T_api_Expr false, .arr T_api_Expr false, .arr T_api_Expr false]⟩)])
def S32_609 : Shape × List (Out × Shape) := (⟨[(2, .one (.ptrC 0 0 0)), (8, .one (.ptrC 1 0 0)), (9, .one (.ptrC 2 0 0)), (10, .one (.ptrC 3 0 0)), (119, .one (.whole T_api_Expr 4)), (120, .one (.int .i64)), (121, .one (.int .i64))], [.var 24 [.one (.int .i64), .one (.int .i64), .one (.whole T_api_Expr 5)], .var 24 [.one (.int .i64), .one (.int .i64), .one (.whole T_api_Expr 6)], .var 24 [.one (.int .i64), .one (.int .i64), .one (.list T_api_Expr)], .var 24 [.one (.int .i64), .one (.int .i64), .one (.list T_api_Expr)], .arr T_api_Expr false, .arr T_api_Expr false, .arr T_api_Expr false]⟩, [(.ret, ⟨[(2, .one (.ptrC 0 0 0))], [.var 24 [.one (.int .i64), .one (.int .i64), .one (.whole T_api_Expr 1)], .arr T_api_Expr false]⟩), (.exit 6, ⟨[(2, .one (.ptrC 0 0 0)), (8, .one (.ptrC 1 0 0)), (9, .one (.ptrC 2 0 0)), (10, .one (.ptrC 3 0 0)), (119, .one (.whole T_api_Expr 4)), (120, .one (.int .i64)), (121, .one (.int .i64)), (122, .one (.bool))], [.var 24 [.one (.int .i64), .one (.int .i64), .one (.whole T_api_Expr 5)], .var 24 [.one (.int .i64), .one (.int .i64), .one (.whole T_api_Expr 6)], .var 24 [.one (.int .i64), .one (.int .i64), .one (.list T_api_Expr)], .var 24 [.one (.int .i64), .one (.int .i64), .one (.list T_api_Expr)], .arr T_api_Expr false, .arr T_api_Expr false, .arr T_api_Expr false]⟩)])
def S32_769 : Shape × List (Out × Shape) := (⟨[(2, .one (.ptrC 0 0 0)), (6, .one (.ptrC 1 0 0)), (9, .one (.ptrC 2 0 0)), (10, .one (.ptrC 3 0 0)), (143, .one (.whole T_api_Expr 4)), (144, .one (.int .i64)), (145, .one (.int .i64))], [.var 24 [.one (.int .i64), .one (.int .i64), .one (.whole T_api_Expr 5)], .var 24 [.one (.int .i64), .one (.int .i64), .one (.list T_api_Expr)], .var 24 [.one (.int .i64), .one (.int .i64), .one (.list T_api_Expr)], .var 24 [.one (.int .i64), .one (.int .i64), .one (.whole T_api_Expr 6)], .arr T_api_Expr false, .arr T_api_Expr false, .arr T_api_Expr false]⟩, [(.ret, ⟨[(2, .one (.ptrC 0 0 0))], [.var 24 [.one (.int .i64), .one (.int .i64), .one (.list T_api_Expr)]]⟩), (.exit 8, ⟨[(2, .one (.ptrC 0 0 0)), (6, .one (.ptrC 1 0 0)), (9, .one (.ptrC 2 0 0)), (10, .one (.ptrC 3 0 0)), (143, .one (.whole T_api_Expr 4)), (144, .one (.int .i64)), (145, .one (.int .i64)), (146, .one (.bool))], [.var 24 [.one (.int .i64), .one (.int .i64), .one (.whole T_api_Expr 5)], .var 24 [.one (.int .i64), .one (.int .i64), .one (.list T_api_Expr)], .var 24 [.one (.int .i64), .one (.int .i64), .one (.list T_api_Expr)], .var 24 [.one (.int .i64), .one (.int .i64), .one (.whole T_api_Expr 6)], .arr T_api_Expr false, .arr T_api_Expr false, .arr T_api_Expr false]⟩)])
def S35_321 : Shape × List (Out × Shape) := (⟨[(1, .one (.int .i64)), (53, .one (.list T_api_Expr)), (54, .one (.int .i64)), (55, .one (.int .i64))], []⟩, [(.ret, ⟨[(4, .one (.bool))], []⟩), (.exit 1, ⟨[(1, .one (.int .i64)), (53, .one (.list T_api_Expr)), (54, .one (.int .i64)), (55, .one (.int .i64)), (56, .one (.bool))], []⟩)])
def S38_639 : Shape × List (Out × Shape) := (⟨[(1, .one (.int .i64)), (2, .one (.ptrC 0 0 0)), (5, .one (.int .i64)), (6, .one (.bool)), (39, .one (.bool))], [.var 24 [.one (.int .i64), .one (.int .i64), .one (.list T_api_Expr)]]⟩, [(.norm, ⟨[(1, .one (.int .i64)), (2, .one (.ptrC 0 0 0)), (5, .one (.int .i64)), (6, .one (.bool))], [.var 24 [.one (.int .i64), .one (.int .i64), .one (.list T_api_Expr)]]⟩)])
def S38_257 : Shape × List (Out × Shape) := (⟨[(1, .one (.int .i64)), (2, .one (.ptrC 0 0 0)), (5, .one (.int .i64)), (6, .one (.bool)), (7, .one (.int .i64))], [.var 24 [.one (.int .i64), .one (.int .i64), .one (.list T_api_Expr)]]⟩, [(.exit 1, ⟨[(1, .one (.int .i64)), (2, .one (.ptrC 0 0 0)), (5, .one (.int .i64)), (6, .one (.bool)), (7, .one (.int .i64)), (63, .one (.bool))], [.var 24 [.one (.int .i64), .one (.int .i64), .one (.list T_api_Expr)]]⟩)])
def S40_463 : Shape × List (Out × Shape) := (⟨[(0, .one (.ptrC 0 0 0)), (3, .one (.ptrC 2 0 0)), (5, .one (.int .i64)), (28, .one (.bool))], [.var 43 [.one (.und), .one (.whole T_uint8 3)], .dead, .var 24 [.one (.int .i64), .one (.int .i64), .one (.list T_api_Expr)], .arr T_uint8 false]⟩, [(.norm, ⟨[], [.var 43 [.one (.und), .one (.whole T_uint8 2)], .dead, .arr T_uint8 false]⟩)])
def S40_367 : Shape × List (Out × Shape) := (⟨[(0, .one (.ptrC 0 0 0)), (3, .one (.ptrC 2 0 0)), (5, .one (.int .i64)), (22, .one (.bool))], [.var 43 [.one (.und), .one (.whole T_uint8 3)], .dead, .var 24 [.one (.int .i64), .one (.int .i64), .one (.list T_api_Expr)], .arr T_uint8 false]⟩, [(.norm, ⟨[], [.var 43 [.one (.und), .one (.whole T_uint8 2)], .dead, .arr T_uint8 false]⟩)])
def S40_239 : Shape × List (Out × Shape) := (⟨[(0, .one (.ptrC 0 0 0)), (3, .one (.ptrC 2 0 0)), (5, .one (.int .i64)), (14, .one (.bool))], [.var 43 [.one (.und), .one (.whole T_uint8 3)], .dead, .var 24 [.one (.int .i64), .one (.int .i64), .one (.list T_api_Expr)], .arr T_uint8 false]⟩, [(.norm, ⟨[], [.var 43 [.one (.und), .one (.whole T_uint8 2)], .dead, .arr T_uint8 false]⟩)])
def S40_175 : Shape × List (Out × Shape) := (⟨[(0, .one (.ptrC 0 0 0)), (3, .one (.ptrC 2 0 0)), (5, .one (.int .i64)), (10, .one (.bool))], [.var 43 [.one (.und), .one (.whole T_uint8 3)], .dead, .var 24 [.one (.int .i64), .one (.int .i64), .one (.list T_api_Expr)], .arr T_uint8 false]⟩, [(.norm, ⟨[], [.var 43 [.one (.und), .one (.whole T_uint8 2)], .dead, .arr T_uint8 false]⟩)])
def S40_111 : Shape × List (Out × Shape) := (⟨[(0, .one (.ptrC 0 0 0)), (3, .one (.ptrC 2 0 0)), (5, .one (.int .i64)), (6, .one (.bool))], [.var 43 [.one (.und), .one (.whole T_uint8 3)], .dead, .var 24 [.one (.int .i64), .one (.int .i64), .one (.list T_api_Expr)], .arr T_uint8 false]⟩, [(.norm, ⟨[], [.var 43 [.one (.und), .one (.whole T_uint8 2)], .dead, .arr T_uint8 false]⟩)])
def S45_33 : Shape × List (Out × Shape) := (⟨[(0, .one (.list T_api_Expr)), (1, .one (.list T_api_Expr)), (2, .fn F_expr_Compare [] []), (11, .one (.list T_api_Expr)), (12, .one (.int .i64)), (13, .one (.int .i64))], []⟩, [(.ret, ⟨[(6, .one (.int .i64))], []⟩), (.exit 0, ⟨[(0, .one (.list T_api_Expr)), (1, .one (.list T_api_Expr)), (2, .fn F_expr_Compare [] []), (11, .one (.list T_api_Expr)), (12, .one (.int .i64)), (13, .one (.int .i64)), (14, .one (.bool))], []⟩)])
def S47_49 : Shape × List (Out × Shape) := (⟨[(3, .one (.int .i64)), (7, .one (.list T_api_Expr)), (8, .one (.int .i64)), (9, .one (.int .i64))], []⟩, [(.exit 0, ⟨[(3, .one (.int .i64)), (7, .one (.list T_api_Expr)), (8, .one (.int .i64)), (9, .one (.int .i64)), (10, .one (.bool))], []⟩)])
def S48_49 : Shape × List (Out × Shape) := (⟨[(3, .one (.int .i64)), (7, .one (.list T_api_Expr)), (8, .one (.int .i64)), (9, .one (.int .i64))], []⟩, [(.exit 0, ⟨[(3, .one (.int .i64)), (7, .one (.list T_api_Expr)), (8, .one (.int .i64)), (9, .one (.int .i64)), (10, .one (.bool))], []⟩)])
def S49_49 : Shape × List (Out × Shape) := (⟨[(1, .one (.ptrC 0 0 0)), (3, .one (.int .i64)), (7, .one (.list T_api_Expr)), (8, .one (.int .i64)), (9, .one (.int .i64))], [.var 24 [.one (.int .i64), .one (.int .i64), .one (.list T_api_Expr)]]⟩, [(.exit 0, ⟨[(1, .one (.ptrC 0 0 0)), (3, .one (.int .i64)), (7, .one (.list T_api_Expr)), (8, .one (.int .i64)), (9, .one (.int .i64)), (10, .one (.bool))], [.var 24 [.one (.int .i64), .one (.int .i64), .one (.list T_api_Expr)]]⟩)])
def S50_161 : Shape × List (Out × Shape) := (⟨[(19, .one (.list T_api_Expr)), (20, .one (.int .i64)), (21, .one (.int .i64))], []⟩, [(.ret, ⟨[(2, .one (.bool))], []⟩), (.exit 1, ⟨[(19, .one (.list T_api_Expr)), (20, .one (.int .i64)), (21, .one (.int .i64)), (22, .one (.bool))], []⟩)])
def S51_49 : Shape × List (Out × Shape) := (⟨[(1, .one (.int .i64)), (2, .one (.ptrC 0 0 0)), (6, .one (.int .i64)), (7, .one (.int .i64)), (8, .one (.int .i64))], [.var 24 [.one (.int .i64), .one (.int .i64), .one (.list T_api_Expr)]]⟩, [(.exit 0, ⟨[(1, .one (.int .i64)), (2, .one (.ptrC 0 0 0)), (6, .one (.int .i64)), (7, .one (.int .i64)), (8, .one (.int .i64)), (20, .one (.bool))], [.var 24 [.one (.int .i64), .one (.int .i64), .one (.list T_api_Expr)]]⟩)])
def S52_81 : Shape × List (Out × Shape) := (⟨[(1, .one (.ptrC 0 0 0)), (2, .one (.ptrC 1 0 0)), (3, .one (.whole T_api_Expr 2)), (20, .one (.list T_api_Expr)), (21, .one (.int .i64)), (22, .one (.int .i64))], [.var 24 [.one (.int .i64), .one (.int .i64), .one (.list T_api_Expr)], .var 24 [.one (.int .i64), .one (.int .i64), .one (.whole T_api_Expr 3)], .arr T_api_Expr false, .arr T_api_Expr false]⟩, [(.exit 0, ⟨[(1, .one (.ptrC 0 0 0)), (2, .one (.ptrC 1 0 0)), (3, .one (.whole T_api_Expr 2)), (20, .one (.list T_api_Expr)), (21, .one (.int .i64)), (22, .one (.int .i64)), (23, .one (.bool))], [.var 24 [.one (.int .i64), .one (.int .i64), .one (.list T_api_Expr)], .var 24 [.one (.int .i64), .one (.int .i64), .one (.whole T_api_Expr 3)], .arr T_api_Expr false, .arr T_api_Expr false]⟩)])
def S54_49 : Shape × List (Out × Shape) := (⟨[(0, .one (.int .i64)), (5, .one (.whole T_api_Expr 0)), (8, .one (.list T_api_Expr)), (9, .one (.int .i64)), (10, .one (.int .i64))], [.arr T_api_Expr false]⟩, [(.exit 0, ⟨[(0, .one (.int .i64)), (5, .one (.whole T_api_Expr 0)), (8, .one (.list T_api_Expr)), (9, .one (.int .i64)), (10, .one (.int .i64)), (11, .one (.bool))], [.arr T_api_Expr false]⟩)])
def S55_33 : Shape × List (Out × Shape) := (⟨[(0, .one (.list T_api_Expr)), (3, .one (.ptrC 0 0 0)), (5, .one (.int .i64))], [.var 24 [.one (.int .i64), .one (.int .i64), .one (.list T_api_Expr)]]⟩, [(.exit 0, ⟨[(0, .one (.list T_api_Expr)), (3, .one (.ptrC 0 0 0)), (5, .one (.int .i64)), (19, .one (.bool))], [.var 24 [.one (.int .i64), .one (.int .i64), .one (.list T_api_Expr)]]⟩)])
def S56_81 : Shape × List (Out × Shape) := (⟨[(1, .one (.int .i64)), (2, .one (.ptrC 0 0 0)), (23, .one (.list T_api_Expr)), (24, .one (.int .i64)), (25, .one (.int .i64))], [.var 3 [.one (.int .i64)]]⟩, [(.ret, ⟨[(6, .one (.bool))], [.var 3 [.one (.int .i64)]]⟩), (.exit 0, ⟨[(1, .one (.int .i64)), (2, .one (.ptrC 0 0 0)), (23, .one (.list T_api_Expr)), (24, .one (.int .i64)), (25, .one (.int .i64)), (26, .one (.bool))], [.var 3 [.one (.int .i64)]]⟩)])
def S58_303 : Shape × List (Out × Shape) := (⟨[(0, .one (.ptrC 0 0 0)), (2, .one (.str)), (3, .one (.int .i64)), (9, .one (.ptrC 2 0 0)), (10, .one (.list T_api_Expr)), (11, .one (.int .i64)), (12, .one (.int .i64)), (18, .one (.bool))], [.var 43 [.one (.und), .one (.whole T_uint8 3)], .dead, .var 24 [.one (.int .i64), .one (.int .i64), .one (.list T_api_Expr)], .arr T_uint8 false]⟩, [(.norm, ⟨[(0, .one (.ptrC 0 0 0)), (2, .one (.str)), (3, .one (.int .i64)), (9, .one (.ptrC 2 0 0)), (10, .one (.list T_api_Expr)), (11, .one (.int .i64)), (12, .one (.int .i64))], [.var 43 [.one (.und), .one (.whole T_uint8 3)], .dead, .var 24 [.one (.int .i64), .one (.int .i64), .one (.list T_api_Expr)], .arr T_uint8 false]⟩)])
def S58_17 : Shape × List (Out × Shape) := (⟨[(0, .one (.ptrC 0 0 0)), (2, .one (.str)), (3, .one (.int .i64)), (10, .one (.list T_api_Expr)), (11, .one (.int .i64)), (12, .one (.int .i64))], [.var 43 [.one (.und), .one (.whole T_uint8 2)], .dead, .arr T_uint8 false]⟩, [(.exit 0, ⟨[(0, .one (.ptrC 0 0 0)), (2, .one (.str)), (3, .one (.int .i64)), (10, .one (.list T_api_Expr)), (11, .one (.int .i64)), (12, .one (.int .i64)), (13, .one (.bool))], [.var 43 [.one (.und), .one (.whole T_uint8 2)], .dead, .arr T_uint8 false]⟩)])
def S62_17 : Shape × List (Out × Shape) := (⟨[(0, .one (.ptrC 0 0 0))], [.var 68 [.one (.str), .one (.int .i64), .one (.int .i64)]]⟩, [(.exit 0, ⟨[(0, .one (.ptrC 0 0 0)), (24, .one (.bool))], [.var 68 [.one (.str), .one (.int .i64), .one (.int .i64)]]⟩)])
def S70_33 : Shape × List (Out × Shape) := (⟨[(0, .one (.ptrC 0 0 0)), (1, .one (.int .i64)), (2, .one (.int .u8)), (3, .fn F_expr_parser_and [.ptrC 0 0 0] []), (8, .one (.ptrC 1 0 0)), (9, .one (.whole T_api_Expr 2))], [.var 68 [.one (.str), .one (.int .i64), .one (.int .i64)], .var 24 [.one (.int .i64), .one (.int .i64), .one (.whole T_api_Expr 3)], .arr T_api_Expr false, .arr T_api_Expr false]⟩, [(.exit 0, ⟨[(0, .one (.ptrC 0 0 0)), (1, .one (.int .i64)), (2, .one (.int .u8)), (3, .fn F_expr_parser_and [.ptrC 0 0 0] []), (8, .one (.ptrC 1 0 0)), (9, .one (.whole T_api_Expr 2)), (16, .one (.bool))], [.var 68 [.one (.str), .one (.int .i64), .one (.int .i64)], .var 24 [.one (.int .i64), .one (.int .i64), .one (.whole T_api_Expr 3)], .arr T_api_Expr false, .arr T_api_Expr false]⟩)])
def S72_33 : Shape × List (Out × Shape) := (⟨[(0, .one (.list T_api_Expr)), (1, .fn F_expr_isEmpty [] []), (7, .one (.int .i64)), (8, .one (.int .i64))], []⟩, [(.ret, ⟨[(4, .one (.int .i64))], []⟩), (.exit 0, ⟨[(0, .one (.list T_api_Expr)), (1, .fn F_expr_isEmpty [] []), (7, .one (.int .i64)), (8, .one (.int .i64)), (9, .one (.bool))], []⟩)])
def S80_33 : Shape × List (Out × Shape) := (⟨[(0, .one (.ptrC 0 0 0)), (2, .one (.ptrC 1 0 0)), (3, .one (.whole T_api_Expr 2))], [.var 68 [.one (.str), .one (.int .i64), .one (.int .i64)], .var 24 [.one (.int .i64), .one (.int .i64), .one (.whole T_api_Expr 3)], .arr T_api_Expr false, .arr T_api_Expr false]⟩, [(.exit 0, ⟨[(0, .one (.ptrC 0 0 0)), (2, .one (.ptrC 1 0 0)), (3, .one (.whole T_api_Expr 2)), (8, .one (.bool))], [.var 68 [.one (.str), .one (.int .i64), .one (.int .i64)], .var 24 [.one (.int .i64), .one (.int .i64), .one (.whole T_api_Expr 3)], .arr T_api_Expr false, .arr T_api_Expr false]⟩)])
def S82_81 : Shape × List (Out × Shape) := (⟨[(0, .one (.whole T_api_Expr 0)), (1, .fn F_expr_isUniversal [] []), (5, .one (.int .i64)), (6, .one (.int .i64))], [.arr T_api_Expr false]⟩, [(.exit 0, ⟨[(0, .one (.whole T_api_Expr 0)), (1, .fn F_expr_isUniversal [] []), (5, .one (.int .i64)), (6, .one (.int .i64)), (19, .one (.bool))], [.arr T_api_Expr false]⟩)])
def S83_49 : Shape × List (Out × Shape) := (⟨[(0, .one (.int .i64)), (5, .one (.whole T_api_Expr 0)), (8, .one (.list T_api_Expr)), (9, .one (.int .i64)), (10, .one (.int .i64))], [.arr T_api_Expr false]⟩, [(.exit 0, ⟨[(0, .one (.int .i64)), (5, .one (.whole T_api_Expr 0)), (8, .one (.list T_api_Expr)), (9, .one (.int .i64)), (10, .one (.int .i64)), (11, .one (.bool))], [.arr T_api_Expr false]⟩)])
def S92_145 : Shape × List (Out × Shape) := (⟨[(0, .one (.whole T_api_Expr 0)), (1, .fn F_expr_ordered_1 [] []), (5, .one (.int .i64)), (6, .one (.sub T_api_Expr 0)), (7, .one (.int .i64))], [.arr T_api_Expr false]⟩, [(.exit 2, ⟨[(0, .one (.whole T_api_Expr 0)), (1, .fn F_expr_ordered_1 [] []), (5, .one (.int .i64)), (6, .one (.sub T_api_Expr 0)), (7, .one (.int .i64)), (35, .one (.bool))], [.arr T_api_Expr false]⟩)])
def S92_65 : Shape × List (Out × Shape) := (⟨[(0, .one (.whole T_api_Expr 0)), (1, .fn F_expr_ordered_1 [] []), (5, .one (.int .i64))], [.arr T_api_Expr false]⟩, [(.ret, ⟨[(4, .one (.whole T_api_Expr 1))], [.dead, .arr T_api_Expr false]⟩), (.exit 0, ⟨[(0, .one (.whole T_api_Expr 0)), (1, .fn F_expr_ordered_1 [] []), (5, .one (.int .i64)), (15, .one (.bool))], [.arr T_api_Expr false]⟩)])
def S94_33 : Shape × List (Out × Shape) := (⟨[(0, .one (.ptrC 0 0 0)), (2, .one (.ptrC 1 0 0)), (3, .one (.ptrC 2 0 0))], [.var 68 [.one (.str), .one (.int .i64), .one (.int .i64)], .var 24 [.one (.int .i64), .one (.int .i64), .one (.whole T_api_Expr 3)], .var 24 [.one (.int .i64), .one (.int .i64), .one (.list T_api_Expr)], .arr T_api_Expr false]⟩, [(.exit 0, ⟨[(0, .one (.ptrC 0 0 0)), (2, .one (.ptrC 1 0 0)), (3, .one (.ptrC 2 0 0)), (8, .one (.bool))], [.var 68 [.one (.str), .one (.int .i64), .one (.int .i64)], .var 24 [.one (.int .i64), .one (.int .i64), .one (.whole T_api_Expr 3)], .var 24 [.one (.int .i64), .one (.int .i64), .one (.list T_api_Expr)], .arr T_api_Expr false]⟩)])
def S96_639 : Shape × List (Out × Shape) := (⟨[(0, .one (.whole T_api_Expr 0)), (1, .one (.int .i64)), (2, .one (.int .i64)), (3, .one (.int .i64)), (4, .fn F_expr_Compare [] []), (10, .one (.bool)), (11, .one (.bool)), (12, .one (.int .i64)), (39, .one (.bool))], [.arr T_api_Expr false]⟩, [(.norm, ⟨[(0, .one (.whole T_api_Expr 0)), (1, .one (.int .i64)), (2, .one (.int .i64)), (3, .one (.int .i64)), (4, .fn F_expr_Compare [] []), (10, .one (.bool)), (11, .one (.bool)), (12, .one (.int .i64))], [.arr T_api_Expr false]⟩)])
def S96_911 : Shape × List (Out × Shape) := (⟨[(0, .one (.whole T_api_Expr 0)), (1, .one (.int .i64)), (2, .one (.int .i64)), (3, .one (.int .i64)), (4, .fn F_expr_Compare [] []), (10, .one (.bool)), (11, .one (.bool)), (12, .one (.int .i64)), (13, .one (.int .i64)), (14, .one (.int .i64)), (56, .one (.bool))], [.arr T_api_Expr false]⟩, [(.norm, ⟨[(0, .one (.whole T_api_Expr 0)), (1, .one (.int .i64)), (2, .one (.int .i64)), (3, .one (.int .i64)), (4, .fn F_expr_Compare [] []), (10, .one (.bool)), (11, .one (.bool)), (12, .one (.int .i64)), (13, .one (.int .i64)), (14, .one (.int .i64))], [.arr T_api_Expr false]⟩)])
def S96_1215 : Shape × List (Out × Shape) := (⟨[(0, .one (.whole T_api_Expr 0)), (1, .one (.int .i64)), (2, .one (.int .i64)), (3, .one (.int .i64)), (4, .fn F_expr_Compare [] []), (10, .one (.bool)), (11, .one (.bool)), (12, .one (.int .i64)), (13, .one (.int .i64)), (75, .one (.bool))], [.arr T_api_Expr false]⟩, [(.ret, ⟨[(0, .one (.whole T_api_Expr 0)), (1, .one (.int .i64)), (2, .one (.int .i64)), (3, .one (.int .i64)), (4, .fn F_expr_Compare [] []), (10, .one (.bool)), (11, .one (.bool)), (12, .one (.int .i64)), (13, .one (.int .i64)), (80, .one (.bool))], [.arr T_api_Expr false]⟩), (.norm, ⟨[(0, .one (.whole T_api_Expr 0)), (1, .one (.int .i64)), (2, .one (.int .i64)), (3, .one (.int .i64)), (4, .fn F_expr_Compare [] []), (10, .one (.bool)), (11, .one (.bool)), (12, .one (.int .i64)), (13, .one (.int .i64))], [.arr T_api_Expr false]⟩)])
def S96_33 : Shape × List (Out × Shape) := (⟨[(0, .one (.whole T_api_Expr 0)), (1, .one (.int .i64)), (2, .one (.int .i64)), (3, .one (.int .i64)), (4, .fn F_expr_Compare [] []), (10, .one (.bool)), (11, .one (.bool))], [.arr T_api_Expr false]⟩, [(.ret, ⟨[], [.arr T_api_Expr false]⟩)])
def S98_223 : Shape × List (Out × Shape) := (⟨[(0, .one (.ptrC 0 0 0)), (2, .one (.ptrC 1 0 0)), (3, .one (.ptrC 2 0 0)), (4, .one (.int .u8)), (13, .one (.bool))], [.var 68 [.one (.str), .one (.int .i64), .one (.int .i64)], .var 24 [.one (.int .i64), .one (.int .i64), .one (.whole T_api_Expr 3)], .var 24 [.one (.int .i64), .one (.int .i64), .one (.list T_api_Expr)], .arr T_api_Expr false]⟩, [(.norm, ⟨[(0, .one (.ptrC 0 0 0)), (2, .one (.ptrC 1 0 0)), (3, .one (.ptrC 2 0 0))], [.var 68 [.one (.str), .one (.int .i64), .one (.int .i64)], .var 24 [.one (.int .i64), .one (.int .i64), .one (.whole T_api_Expr 3)], .var 24 [.one (.int .i64), .one (.int .i64), .one (.list T_api_Expr)], .arr T_api_Expr false]⟩)])
def S98_159 : Shape × List (Out × Shape) := (⟨[(0, .one (.ptrC 0 0 0)), (2, .one (.ptrC 1 0 0)), (3, .one (.ptrC 2 0 0)), (4, .one (.int .u8)), (9, .one (.bool))], [.var 68 [.one (.str), .one (.int .i64), .one (.int .i64)], .var 24 [.one (.int .i64), .one (.int .i64), .one (.whole T_api_Expr 3)], .var 24 [.one (.int .i64), .one (.int .i64), .one (.list T_api_Expr)], .arr T_api_Expr false]⟩, [(.norm, ⟨[(0, .one (.ptrC 0 0 0)), (2, .one (.ptrC 1 0 0)), (3, .one (.ptrC 2 0 0))], [.var 68 [.one (.str), .one (.int .i64), .one (.int .i64)], .var 24 [.one (.int .i64), .one (.int .i64), .one (.whole T_api_Expr 3)], .var 24 [.one (.int .i64), .one (.int .i64), .one (.list T_api_Expr)], .arr T_api_Expr false]⟩)])
def S99_65 : Shape × List (Out × Shape) := (⟨[(0, .one (.whole T_api_Expr 0)), (1, .one (.int .i64)), (2, .one (.int .i64)), (3, .fn F_expr_Compare [] []), (8, .one (.int .i64)), (9, .one (.int .i64))], [.arr T_api_Expr false]⟩, [(.exit 2, ⟨[(0, .one (.whole T_api_Expr 0)), (1, .one (.int .i64)), (2, .one (.int .i64)), (3, .fn F_expr_Compare [] []), (8, .one (.int .i64)), (9, .one (.int .i64)), (34, .one (.bool))], [.arr T_api_Expr false]⟩)])
def S99_17 : Shape × List (Out × Shape) := (⟨[(0, .one (.whole T_api_Expr 0)), (1, .one (.int .i64)), (2, .one (.int .i64)), (3, .fn F_expr_Compare [] []), (8, .one (.int .i64))], [.arr T_api_Expr false]⟩, [(.exit 0, ⟨[(0, .one (.whole T_api_Expr 0)), (1, .one (.int .i64)), (2, .one (.int .i64)), (3, .fn F_expr_Compare [] []), (8, .one (.int .i64)), (14, .one (.bool))], [.arr T_api_Expr false]⟩)])
def S100_65 : Shape × List (Out × Shape) := (⟨[(0, .one (.whole T_api_Expr 0)), (3, .fn F_expr_Compare [] []), (8, .one (.int .i64)), (9, .one (.int .i64)), (10, .one (.int .i64)), (11, .one (.int .i64))], [.arr T_api_Expr false]⟩, [(.exit 0, ⟨[(0, .one (.whole T_api_Expr 0)), (3, .fn F_expr_Compare [] []), (8, .one (.int .i64)), (9, .one (.int .i64)), (10, .one (.int .i64)), (11, .one (.int .i64)), (21, .one (.bool))], [.arr T_api_Expr false]⟩)])
def S100_129 : Shape × List (Out × Shape) := (⟨[(0, .one (.whole T_api_Expr 0)), (3, .fn F_expr_Compare [] []), (8, .one (.int .i64)), (9, .one (.int .i64)), (12, .one (.int .i64))], [.arr T_api_Expr false]⟩, [(.exit 2, ⟨[(0, .one (.whole T_api_Expr 0)), (3, .fn F_expr_Compare [] []), (8, .one (.int .i64)), (9, .one (.int .i64)), (12, .one (.int .i64)), (33, .one (.bool))], [.arr T_api_Expr false]⟩)])
def S101_735 : Shape × List (Out × Shape) := (⟨[(0, .one (.whole T_api_Expr 0)), (1, .one (.int .i64)), (8, .one (.int .i64)), (9, .one (.ptrC 1 0 0)), (10, .one (.int .u64)), (11, .one (.int .i64)), (12, .one (.int .i64)), (45, .one (.bool))], [.arr T_api_Expr false, .var 103 [.one (.int .u64)]]⟩, [(.norm, ⟨[(0, .one (.whole T_api_Expr 0)), (1, .one (.int .i64)), (8, .one (.int .i64)), (9, .one (.ptrC 1 0 0)), (10, .one (.int .u64)), (11, .one (.int .i64)), (12, .one (.int .i64))], [.arr T_api_Expr false, .var 103 [.one (.int .u64)]]⟩)])
def S101_81 : Shape × List (Out × Shape) := (⟨[(0, .one (.whole T_api_Expr 0)), (1, .one (.int .i64)), (8, .one (.int .i64)), (9, .one (.ptrC 1 0 0)), (10, .one (.int .u64)), (11, .one (.int .i64))], [.arr T_api_Expr false, .var 103 [.one (.int .u64)]]⟩, [(.exit 0, ⟨[(0, .one (.whole T_api_Expr 0)), (1, .one (.int .i64)), (8, .one (.int .i64)), (9, .one (.ptrC 1 0 0)), (10, .one (.int .u64)), (11, .one (.int .i64)), (35, .one (.bool))], [.arr T_api_Expr false, .var 103 [.one (.int .u64)]]⟩)])
def S102_591 : Shape × List (Out × Shape) := (⟨[(0, .one (.list T_api_Expr)), (3, .fn F_expr_Compare [] []), (11, .one (.ptrC 0 0 0)), (12, .one (.int .i64)), (13, .one (.int .i64)), (14, .one (.int .i64)), (36, .one (.bool))], [.var 3 [.one (.int .i64)]]⟩, [(.norm, ⟨[(0, .one (.list T_api_Expr)), (3, .fn F_expr_Compare [] []), (11, .one (.ptrC 0 0 0)), (12, .one (.int .i64)), (13, .one (.int .i64)), (14, .one (.int .i64))], [.var 3 [.one (.int .i64)]]⟩)])
def S102_559 : Shape × List (Out × Shape) := (⟨[(0, .one (.list T_api_Expr)), (3, .fn F_expr_Compare [] []), (10, .one (.int .i64)), (11, .one (.ptrC 0 0 0)), (12, .one (.int .i64)), (13, .one (.int .i64)), (14, .one (.int .i64)), (34, .one (.bool))], [.var 3 [.one (.int .i64)]]⟩, [(.norm, ⟨[(11, .one (.ptrC 0 0 0)), (13, .one (.int .i64))], [.var 3 [.one (.int .i64)]]⟩)])
def S103_33 : Shape × List (Out × Shape) := (⟨[(0, .one (.whole T_api_Expr 0)), (8, .one (.int .i64)), (9, .one (.int .i64))], [.arr T_api_Expr false]⟩, [(.exit 0, ⟨[(0, .one (.whole T_api_Expr 0)), (8, .one (.int .i64)), (9, .one (.int .i64)), (15, .one (.bool))], [.arr T_api_Expr false]⟩)])
def S104_81 : Shape × List (Out × Shape) := (⟨[(0, .one (.whole T_api_Expr 0)), (1, .one (.int .i64)), (2, .one (.int .i64)), (3, .fn F_expr_Compare [] []), (9, .one (.int .i64)), (10, .one (.int .i64))], [.arr T_api_Expr false]⟩, [(.exit 2, ⟨[(0, .one (.whole T_api_Expr 0)), (1, .one (.int .i64)), (2, .one (.int .i64)), (3, .fn F_expr_Compare [] []), (9, .one (.int .i64)), (10, .one (.int .i64)), (36, .one (.bool))], [.arr T_api_Expr false]⟩)])
def S104_225 : Shape × List (Out × Shape) := (⟨[(0, .one (.whole T_api_Expr 0)), (1, .one (.int .i64)), (2, .one (.int .i64)), (3, .fn F_expr_Compare [] []), (9, .one (.int .i64)), (10, .one (.int .i64)), (11, .one (.int .i64))], [.arr T_api_Expr false]⟩, [(.exit 4, ⟨[(0, .one (.whole T_api_Expr 0)), (1, .one (.int .i64)), (2, .one (.int .i64)), (3, .fn F_expr_Compare [] []), (9, .one (.int .i64)), (10, .one (.int .i64)), (11, .one (.int .i64))], [.arr T_api_Expr false]⟩)])
def S104_1055 : Shape × List (Out × Shape) := (⟨[(0, .one (.whole T_api_Expr 0)), (1, .one (.int .i64)), (2, .one (.int .i64)), (3, .fn F_expr_Compare [] []), (9, .one (.int .i64)), (10, .one (.int .i64)), (65, .one (.bool))], [.arr T_api_Expr false]⟩, [(.norm, ⟨[(0, .one (.whole T_api_Expr 0)), (1, .one (.int .i64)), (2, .one (.int .i64)), (3, .fn F_expr_Compare [] []), (9, .one (.int .i64)), (10, .one (.int .i64))], [.arr T_api_Expr false]⟩)])
def S104_321 : Shape × List (Out × Shape) := (⟨[(0, .one (.whole T_api_Expr 0)), (1, .one (.int .i64)), (2, .one (.int .i64)), (3, .fn F_expr_Compare [] []), (9, .one (.int .i64)), (10, .one (.int .i64)), (12, .one (.int .i64))], [.arr T_api_Expr false]⟩, [(.exit 6, ⟨[(0, .one (.whole T_api_Expr 0)), (1, .one (.int .i64)), (2, .one (.int .i64)), (3, .fn F_expr_Compare [] []), (9, .one (.int .i64)), (10, .one (.int .i64)), (12, .one (.int .i64))], [.arr T_api_Expr false]⟩)])
def S104_49 : Shape × List (Out × Shape) := (⟨[(0, .one (.whole T_api_Expr 0)), (1, .one (.int .i64)), (2, .one (.int .i64)), (3, .fn F_expr_Compare [] []), (9, .one (.int .i64)), (10, .one (.int .i64))], [.arr T_api_Expr false]⟩, [(.ret, ⟨[(8, .one (.bool))], [.arr T_api_Expr false]⟩), (.exit 0, ⟨[(0, .one (.whole T_api_Expr 0)), (1, .one (.int .i64)), (2, .one (.int .i64)), (3, .fn F_expr_Compare [] []), (9, .one (.int .i64)), (10, .one (.int .i64)), (16, .one (.bool))], [.arr T_api_Expr false]⟩)])
def S105_49 : Shape × List (Out × Shape) := (⟨[(0, .one (.whole T_api_Expr 0)), (1, .one (.int .i64)), (4, .fn F_expr_Compare [] []), (11, .one (.int .i64)), (12, .one (.int .i64))], [.arr T_api_Expr false]⟩, [(.exit 2, ⟨[(0, .one (.whole T_api_Expr 0)), (1, .one (.int .i64)), (4, .fn F_expr_Compare [] []), (11, .one (.int .i64)), (12, .one (.int .i64)), (47, .one (.bool))], [.arr T_api_Expr false]⟩)])
def S105_81 : Shape × List (Out × Shape) := (⟨[(0, .one (.whole T_api_Expr 0)), (1, .one (.int .i64)), (4, .fn F_expr_Compare [] []), (11, .one (.int .i64)), (12, .one (.int .i64))], [.arr T_api_Expr false]⟩, [(.exit 4, ⟨[(0, .one (.whole T_api_Expr 0)), (1, .one (.int .i64)), (4, .fn F_expr_Compare [] []), (11, .one (.int .i64)), (12, .one (.int .i64)), (65, .one (.bool))], [.arr T_api_Expr false]⟩)])
def S105_50 : Shape × List (Out × Shape) := (⟨[(0, .one (.whole T_api_Expr 0)), (1, .one (.int .i64)), (4, .fn F_expr_Compare [] []), (11, .one (.int .i64)), (12, .one (.int .i64))], [.arr T_api_Expr false]⟩, [(.exit 0, ⟨[(0, .one (.whole T_api_Expr 0)), (1, .one (.int .i64)), (4, .fn F_expr_Compare [] []), (11, .one (.int .i64)), (12, .one (.int .i64)), (70, .one (.bool))], [.arr T_api_Expr false]⟩)])
def S106_49 : Shape × List (Out × Shape) := (⟨[(0, .one (.whole T_api_Expr 0)), (1, .one (.int .i64)), (4, .fn F_expr_Compare [] []), (12, .one (.int .i64)), (13, .one (.int .i64))], [.arr T_api_Expr false]⟩, [(.exit 0, ⟨[(0, .one (.whole T_api_Expr 0)), (1, .one (.int .i64)), (4, .fn F_expr_Compare [] []), (12, .one (.int .i64)), (13, .one (.int .i64)), (47, .one (.bool))], [.arr T_api_Expr false]⟩)])
def S106_81 : Shape × List (Out × Shape) := (⟨[(0, .one (.whole T_api_Expr 0)), (1, .one (.int .i64)), (4, .fn F_expr_Compare [] []), (12, .one (.int .i64)), (13, .one (.int .i64))], [.arr T_api_Expr false]⟩, [(.exit 2, ⟨[(0, .one (.whole T_api_Expr 0)), (1, .one (.int .i64)), (4, .fn F_expr_Compare [] []), (12, .one (.int .i64)), (13, .one (.int .i64)), (66, .one (.bool))], [.arr T_api_Expr false]⟩)])
def S106_209 : Shape × List (Out × Shape) := (⟨[(0, .one (.whole T_api_Expr 0)), (1, .one (.int .i64)), (4, .fn F_expr_Compare [] []), (12, .one (.int .i64)), (13, .one (.int .i64))], [.arr T_api_Expr false]⟩, [(.exit 6, ⟨[(0, .one (.whole T_api_Expr 0)), (1, .one (.int .i64)), (4, .fn F_expr_Compare [] []), (12, .one (.int .i64)), (13, .one (.int .i64)), (120, .one (.bool))], [.arr T_api_Expr false]⟩)])
def S106_241 : Shape × List (Out × Shape) := (⟨[(0, .one (.whole T_api_Expr 0)), (1, .one (.int .i64)), (4, .fn F_expr_Compare [] []), (12, .one (.int .i64)), (13, .one (.int .i64))], [.arr T_api_Expr false]⟩, [(.exit 8, ⟨[(0, .one (.whole T_api_Expr 0)), (1, .one (.int .i64)), (4, .fn F_expr_Compare [] []), (12, .one (.int .i64)), (13, .one (.int .i64)), (139, .one (.bool))], [.arr T_api_Expr false]⟩)])
def S106_210 : Shape × List (Out × Shape) := (⟨[(0, .one (.whole T_api_Expr 0)), (1, .one (.int .i64)), (4, .fn F_expr_Compare [] []), (12, .one (.int .i64)), (13, .one (.int .i64))], [.arr T_api_Expr false]⟩, [(.exit 4, ⟨[(0, .one (.whole T_api_Expr 0)), (1, .one (.int .i64)), (4, .fn F_expr_Compare [] []), (12, .one (.int .i64)), (13, .one (.int .i64)), (144, .one (.bool))], [.arr T_api_Expr false]⟩)])
def S108_79 : Shape × List (Out × Shape) := (⟨[(0, .one (.int .u64)), (2, .one (.int .i64)), (4, .one (.bool))], []⟩, [(.norm, ⟨[(0, .one (.int .u64)), (2, .one (.int .i64))], []⟩)])
def S108_143 : Shape × List (Out × Shape) := (⟨[(0, .one (.int .u64)), (2, .one (.int .i64)), (8, .one (.bool))], []⟩, [(.norm, ⟨[(0, .one (.int .u64)), (2, .one (.int .i64))], []⟩)])
def S109_655 : Shape × List (Out × Shape) := (⟨[(0, .one (.whole T_api_Expr 0)), (2, .one (.int .i64)), (3, .one (.int .i64)), (4, .fn F_expr_Compare [] []), (10, .one (.int .i64)), (11, .one (.int .i64)), (40, .one (.bool))], [.arr T_api_Expr false]⟩, [(.norm, ⟨[(0, .one (.whole T_api_Expr 0)), (2, .one (.int .i64)), (3, .one (.int .i64)), (4, .fn F_expr_Compare [] []), (10, .one (.int .i64)), (11, .one (.int .i64))], [.arr T_api_Expr false]⟩)])
def S109_17 : Shape × List (Out × Shape) := (⟨[(0, .one (.whole T_api_Expr 0)), (2, .one (.int .i64)), (3, .one (.int .i64)), (4, .fn F_expr_Compare [] []), (10, .one (.int .i64))], [.arr T_api_Expr false]⟩, [(.exit 0, ⟨[(0, .one (.whole T_api_Expr 0)), (2, .one (.int .i64)), (3, .one (.int .i64)), (4, .fn F_expr_Compare [] []), (10, .one (.int .i64)), (11, .one (.int .i64)), (18, .one (.bool))], [.arr T_api_Expr false]⟩), (.ret, ⟨[(0, .one (.whole T_api_Expr 0)), (2, .one (.int .i64)), (3, .one (.int .i64)), (4, .fn F_expr_Compare [] []), (10, .one (.int .i64)), (11, .one (.int .i64)), (58, .one (.bool))], [.arr T_api_Expr false]⟩)])
def S132_33 : Shape × List (Out × Shape) := (⟨[(0, .one (.ptrC 0 0 0)), (1, .one (.int .i64)), (2, .one (.int .u8)), (3, .fn F_expr_parser_cat [.ptrC 0 0 0] []), (8, .one (.ptrC 1 0 0)), (9, .one (.whole T_api_Expr 2))], [.var 68 [.one (.str), .one (.int .i64), .one (.int .i64)], .var 24 [.one (.int .i64), .one (.int .i64), .one (.whole T_api_Expr 3)], .arr T_api_Expr false, .arr T_api_Expr false]⟩, [(.exit 0, ⟨[(0, .one (.ptrC 0 0 0)), (1, .one (.int .i64)), (2, .one (.int .u8)), (3, .fn F_expr_parser_cat [.ptrC 0 0 0] []), (8, .one (.ptrC 1 0 0)), (9, .one (.whole T_api_Expr 2)), (16, .one (.bool))], [.var 68 [.one (.str), .one (.int .i64), .one (.int .i64)], .var 24 [.one (.int .i64), .one (.int .i64), .one (.whole T_api_Expr 3)], .arr T_api_Expr false, .arr T_api_Expr false]⟩)])
def S134_33 : Shape × List (Out × Shape) := (⟨[(0, .one (.list T_api_Expr)), (1, .fn F_expr_isUniversal [] []), (7, .one (.int .i64)), (8, .one (.int .i64))], []⟩, [(.ret, ⟨[(4, .one (.int .i64))], []⟩), (.exit 0, ⟨[(0, .one (.list T_api_Expr)), (1, .fn F_expr_isUniversal [] []), (7, .one (.int .i64)), (8, .one (.int .i64)), (9, .one (.bool))], []⟩)])
def S135_81 : Shape × List (Out × Shape) := (⟨[(0, .one (.whole T_api_Expr 0)), (1, .fn F_expr_isUnit [] []), (5, .one (.int .i64)), (6, .one (.int .i64))], [.arr T_api_Expr false]⟩, [(.exit 0, ⟨[(0, .one (.whole T_api_Expr 0)), (1, .fn F_expr_isUnit [] []), (5, .one (.int .i64)), (6, .one (.int .i64)), (19, .one (.bool))], [.arr T_api_Expr false]⟩)])
def S136_33 : Shape × List (Out × Shape) := (⟨[(0, .one (.list T_api_Expr)), (1, .fn F_expr_isUnit [] []), (7, .one (.int .i64)), (8, .one (.int .i64))], []⟩, [(.ret, ⟨[(4, .one (.int .i64))], []⟩), (.exit 0, ⟨[(0, .one (.list T_api_Expr)), (1, .fn F_expr_isUnit [] []), (7, .one (.int .i64)), (8, .one (.int .i64)), (9, .one (.bool))], []⟩)])
def S137_81 : Shape × List (Out × Shape) := (⟨[(0, .one (.whole T_api_Expr 0)), (1, .fn F_expr_isEmpty [] []), (5, .one (.int .i64)), (6, .one (.int .i64))], [.arr T_api_Expr false]⟩, [(.exit 0, ⟨[(0, .one (.whole T_api_Expr 0)), (1, .fn F_expr_isEmpty [] []), (5, .one (.int .i64)), (6, .one (.int .i64)), (19, .one (.bool))], [.arr T_api_Expr false]⟩)])
def S139_33 : Shape × List (Out × Shape) := (⟨[(0, .one (.list T_api_Expr)), (1, .fn F_expr_HasUnit [] []), (7, .one (.int .i64)), (8, .one (.int .i64))], []⟩, [(.ret, ⟨[(4, .one (.int .i64))], []⟩), (.exit 0, ⟨[(0, .one (.list T_api_Expr)), (1, .fn F_expr_HasUnit [] []), (7, .one (.int .i64)), (8, .one (.int .i64)), (9, .one (.bool))], []⟩)])
def annFid : List (Nat × FuncId) := [(3, F_semigrouplaw04_ExprValidates), (4, F_semigrouplaw04_ExprFormats), (5, F_semigrouplaw04_ExprRoundTrips), (6, F_semigrouplaw04_ExprCompares), (7, F_semigrouplaw04_ExprMeasures), (8, F_semigrouplaw04_ExprNormalizes), (9, F_semigrouplaw04_ExprIgnores), (10, F_semigrouplaw04_ExprSettles), (11, F_expr_Validate), (12, F_semigroupref04_Validate), (13, F_semigrouplaw04_awake), (14, F_expr_Format), (15, F_semigroupref04_Valid), (16, F_semigroupref04_Format), (17, F_expr_Parse), (18, F_semigrouplaw04_same), (19, F_expr_Compare), (20, F_semigroupref04_Compare), (21, F_expr_Size), (22, F_expr_Depth), (23, F_expr_StarHeight), (24, F_expr_StarFree), (25, F_expr_Nullable), (26, F_semigroupref04_Size), (27, F_semigroupref04_Depth), (28, F_semigroupref04_StarHeight), (29, F_semigroupref04_Uses), (30, F_semigroupref04_Nullable), (31, F_expr_Normal), (32, F_semigroupref04_Normal), (33, F_semigrouplaw04_little), (34, F_expr_withinLimits), (35, F_expr_wellFormed), (36, F_semigroupref01_MayLetters), (37, F_semigroupref04_Within), (38, F_semigroupref04_shaped), (39, F_expr_valid), (40, F_expr_write), (41, F_strings_Builder_String), (42, F_semigroupref04_part), (43, F_expr_parseText), (44, F_cmp_Compare_int_), (45, F_slices_CompareFunc___api_Expr___api_Expr_api_Expr_api_Expr_), (46, F_semigroupref04_sign), (47, F_expr_size), (48, F_expr_depth), (49, F_expr_starHeight), (50, F_expr_HasUnit), (51, F_semigroupref04_measure), (52, F_expr_Simplify), (53, F_semigroupref04_Universal), (54, F_semigroupref04_flat), (55, F_semigroupref04_insert), (56, F_expr_fits), (57, F_strings_Builder_WriteByte), (58, F_expr_writeKids), (59, F_semigroupref04_level), (61, F_expr_parser_union), (62, F_expr_parser_peek), (64, F_cmp_isNaN_int_), (65, F_slices_ContainsFunc___api_Expr_api_Expr_), (66, F_expr_Join), (68, F_strings_Builder_WriteString), (69, F_expr_level), (70, F_expr_parser_list), (71, F_expr_parser_and), (72, F_slices_IndexFunc___api_Expr_api_Expr_), (73, F_expr_joinUnion), (74, F_expr_joinConcat), (75, F_expr_joinAnd), (76, F_expr_unit), (77, F_expr_isUniversal), (79, F_expr_node), (80, F_expr_parser_cat), (81, F_expr_universal), (82, F_slices_DeleteFunc___api_Expr_api_Expr_), (83, F_expr_flatten), (84, F_expr_isEmpty), (85, F_expr_collect), (86, F_expr_ordered), (87, F_expr_empty), (88, F_expr_isUnit), (89, F_expr_parser_unary), (90, F_expr_parser_begins), (91, F_slices_SortFunc___api_Expr_api_Expr_), (92, F_slices_CompactFunc___api_Expr_api_Expr_), (93, F_expr_ordered_1), (94, F_expr_parser_postfix), (95, F_expr_parser_isLetter), (96, F_slices_pdqsortCmpFunc_api_Expr_), (97, F_bits_Len), (98, F_expr_parser_atom), (99, F_slices_insertionSortCmpFunc_api_Expr_), (100, F_slices_heapSortCmpFunc_api_Expr_), (101, F_slices_breakPatternsCmpFunc_api_Expr_), (102, F_slices_choosePivotCmpFunc_api_Expr_), (103, F_slices_reverseRangeCmpFunc_api_Expr_), (104, F_slices_partialInsertionSortCmpFunc_api_Expr_), (105, F_slices_partitionEqualCmpFunc_api_Expr_), (106, F_slices_partitionCmpFunc_api_Expr_), (108, F_bits_Len64), (109, F_slices_siftDownCmpFunc_api_Expr_), (110, F_slices_nextPowerOfTwo), (111, F_slices_xorshift_Next), (112, F_slices_medianAdjacentCmpFunc_api_Expr_), (113, F_slices_medianCmpFunc_api_Expr_), (114, F_slices_order2CmpFunc_api_Expr_), (132, F_expr_parser_list), (133, F_slices_ContainsFunc___api_Expr_api_Expr_), (134, F_slices_IndexFunc___api_Expr_api_Expr_), (135, F_slices_DeleteFunc___api_Expr_api_Expr_), (136, F_slices_IndexFunc___api_Expr_api_Expr_), (137, F_slices_DeleteFunc___api_Expr_api_Expr_), (138, F_slices_ContainsFunc___api_Expr_api_Expr_), (139, F_slices_IndexFunc___api_Expr_api_Expr_)]
def annSin : List (Nat × Shape) := [(3, ⟨[(0, .agg [.int .i64, .int .i64, .list T_api_Expr]), (1, .one (.int .i64))], []⟩),
 (4, ⟨[(0, .agg [.int .i64, .int .i64, .list T_api_Expr])], []⟩),
 (5, ⟨[(0, .agg [.int .i64, .int .i64, .list T_api_Expr])], []⟩),
 (6, ⟨[(0, .agg [.int .i64, .int .i64, .list T_api_Expr]), (1, .agg [.int .i64, .int .i64, .list T_api_Expr]), (2, .agg [.int .i64, .int .i64, .list T_api_Expr])], []⟩),
 (7, ⟨[(0, .agg [.int .i64, .int .i64, .list T_api_Expr])], []⟩),
 (8, ⟨[(0, .agg [.int .i64, .int .i64, .list T_api_Expr])], []⟩),
 (9, ⟨[(0, .agg [.int .i64, .int .i64, .list T_api_Expr]), (1, .agg [.int .i64, .int .i64, .list T_api_Expr]), (2, .agg [.int .i64, .int .i64, .list T_api_Expr])], []⟩),
 (10, ⟨[(0, .agg [.int .i64, .int .i64, .list T_api_Expr])], []⟩),
 (11, ⟨[(0, .agg [.int .i64, .int .i64, .list T_api_Expr]), (1, .one (.int .i64))], []⟩),
 (12, ⟨[(0, .agg [.int .i64, .int .i64, .list T_api_Expr]), (1, .one (.int .i64))], []⟩),
 (13, ⟨[], []⟩),
 (14, ⟨[(0, .agg [.int .i64, .int .i64, .list T_api_Expr])], []⟩),
 (15, ⟨[(0, .agg [.int .i64, .int .i64, .list T_api_Expr])], []⟩),
 (16, ⟨[(0, .agg [.int .i64, .int .i64, .list T_api_Expr])], []⟩),
 (17, ⟨[(0, .one (.str)), (1, .one (.int .i64))], []⟩),
 (18, ⟨[(0, .agg [.int .i64, .int .i64, .list T_api_Expr]), (1, .agg [.int .i64, .int .i64, .list T_api_Expr])], []⟩),
 (19, ⟨[(0, .agg [.int .i64, .int .i64, .list T_api_Expr]), (1, .agg [.int .i64, .int .i64, .list T_api_Expr])], []⟩),
 (20, ⟨[(0, .agg [.int .i64, .int .i64, .list T_api_Expr]), (1, .agg [.int .i64, .int .i64, .list T_api_Expr])], []⟩),
 (21, ⟨[(0, .agg [.int .i64, .int .i64, .list T_api_Expr])], []⟩),
 (22, ⟨[(0, .agg [.int .i64, .int .i64, .list T_api_Expr])], []⟩),
 (23, ⟨[(0, .agg [.int .i64, .int .i64, .list T_api_Expr])], []⟩),
 (24, ⟨[(0, .agg [.int .i64, .int .i64, .list T_api_Expr])], []⟩),
 (25, ⟨[(0, .agg [.int .i64, .int .i64, .list T_api_Expr])], []⟩),
 (26, ⟨[(0, .agg [.int .i64, .int .i64, .list T_api_Expr])], []⟩),
 (27, ⟨[(0, .agg [.int .i64, .int .i64, .list T_api_Expr])], []⟩),
 (28, ⟨[(0, .agg [.int .i64, .int .i64, .list T_api_Expr])], []⟩),
 (29, ⟨[(0, .agg [.int .i64, .int .i64, .list T_api_Expr]), (1, .one (.int .i64))], []⟩),
 (30, ⟨[(0, .agg [.int .i64, .int .i64, .list T_api_Expr])], []⟩),
 (31, ⟨[(0, .agg [.int .i64, .int .i64, .list T_api_Expr])], []⟩),
 (32, ⟨[(0, .agg [.int .i64, .int .i64, .list T_api_Expr])], []⟩),
 (33, ⟨[(0, .agg [.int .i64, .int .i64, .list T_api_Expr]), (1, .one (.int .i64))], []⟩),
 (34, ⟨[(0, .agg [.int .i64, .int .i64, .list T_api_Expr])], []⟩),
 (35, ⟨[(0, .agg [.int .i64, .int .i64, .list T_api_Expr]), (1, .one (.int .i64))], []⟩),
 (36, ⟨[(0, .one (.int .i64))], []⟩),
 (37, ⟨[(0, .agg [.int .i64, .int .i64, .list T_api_Expr])], []⟩),
 (38, ⟨[(0, .agg [.int .i64, .int .i64, .list T_api_Expr]), (1, .one (.int .i64))], []⟩),
 (39, ⟨[(0, .agg [.int .i64, .int .i64, .list T_api_Expr])], []⟩),
 (40, ⟨[(0, .one (.ptrC 0 0 0)), (1, .agg [.int .i64, .int .i64, .list T_api_Expr])], [.var 43 [.one (.und), .one (.whole T_uint8 1)], .arr T_uint8 false]⟩),
 (41, ⟨[(0, .one (.ptrC 0 0 0))], [.var 43 [.one (.und), .one (.whole T_uint8 1)], .arr T_uint8 false]⟩),
 (42, ⟨[(0, .agg [.int .i64, .int .i64, .list T_api_Expr]), (1, .one (.int .i64))], []⟩),
 (43, ⟨[(0, .one (.str)), (1, .one (.int .i64))], []⟩),
 (44, ⟨[(0, .one (.int .i64)), (1, .one (.int .i64))], []⟩),
 (45, ⟨[(0, .one (.list T_api_Expr)), (1, .one (.list T_api_Expr)), (2, .fn F_expr_Compare [] [])], []⟩),
 (46, ⟨[(0, .one (.bool))], []⟩),
 (47, ⟨[(0, .agg [.int .i64, .int .i64, .list T_api_Expr])], []⟩),
 (48, ⟨[(0, .agg [.int .i64, .int .i64, .list T_api_Expr])], []⟩),
 (49, ⟨[(0, .agg [.int .i64, .int .i64, .list T_api_Expr])], []⟩),
 (50, ⟨[(0, .agg [.int .i64, .int .i64, .list T_api_Expr])], []⟩),
 (51, ⟨[(0, .agg [.int .i64, .int .i64, .list T_api_Expr]), (1, .one (.int .i64))], []⟩),
 (52, ⟨[(0, .agg [.int .i64, .int .i64, .list T_api_Expr])], []⟩),
 (53, ⟨[(0, .agg [.int .i64, .int .i64, .list T_api_Expr])], []⟩),
 (54, ⟨[(0, .one (.int .i64)), (1, .one (.list T_api_Expr))], []⟩),
 (55, ⟨[(0, .one (.list T_api_Expr)), (1, .agg [.int .i64, .int .i64, .list T_api_Expr])], []⟩),
 (56, ⟨[(0, .agg [.int .i64, .int .i64, .list T_api_Expr]), (1, .one (.int .i64)), (2, .one (.ptrC 0 0 0))], [.var 3 [.one (.int .i64)]]⟩),
 (57, ⟨[(0, .one (.ptrC 0 0 0)), (1, .one (.int .u8))], [.var 43 [.one (.und), .one (.whole T_uint8 1)], .arr T_uint8 false]⟩),
 (58, ⟨[(0, .one (.ptrC 0 0 0)), (1, .one (.list T_api_Expr)), (2, .one (.str)), (3, .one (.int .i64))], [.var 43 [.one (.und), .one (.whole T_uint8 1)], .arr T_uint8 false]⟩),
 (59, ⟨[(0, .one (.int .i64))], []⟩),
 (61, ⟨[(0, .one (.ptrC 0 0 0))], [.var 68 [.one (.str), .one (.int .i64), .one (.int .i64)]]⟩),
 (62, ⟨[(0, .one (.ptrC 0 0 0))], [.var 68 [.one (.str), .one (.int .i64), .one (.int .i64)]]⟩),
 (64, ⟨[(0, .one (.int .i64))], []⟩),
 (65, ⟨[(0, .one (.list T_api_Expr)), (1, .fn F_expr_isEmpty [] [])], []⟩),
 (66, ⟨[(0, .one (.int .i64)), (1, .one (.list T_api_Expr))], []⟩),
 (68, ⟨[(0, .one (.ptrC 0 0 0)), (1, .one (.str))], [.var 43 [.one (.und), .one (.whole T_uint8 1)], .arr T_uint8 false]⟩),
 (69, ⟨[(0, .one (.int .i64))], []⟩),
 (70, ⟨[(0, .one (.ptrC 0 0 0)), (1, .one (.int .i64)), (2, .one (.int .u8)), (3, .fn F_expr_parser_and [.ptrC 0 0 0] [])], [.var 68 [.one (.str), .one (.int .i64), .one (.int .i64)]]⟩),
 (71, ⟨[(0, .one (.ptrC 0 0 0))], [.var 68 [.one (.str), .one (.int .i64), .one (.int .i64)]]⟩),
 (72, ⟨[(0, .one (.list T_api_Expr)), (1, .fn F_expr_isEmpty [] [])], []⟩),
 (73, ⟨[(0, .one (.list T_api_Expr))], []⟩),
 (74, ⟨[(0, .one (.list T_api_Expr))], []⟩),
 (75, ⟨[(0, .one (.list T_api_Expr))], []⟩),
 (76, ⟨[], []⟩),
 (77, ⟨[(0, .agg [.int .i64, .int .i64, .list T_api_Expr])], []⟩),
 (79, ⟨[(0, .one (.int .i64)), (1, .one (.list T_api_Expr))], []⟩),
 (80, ⟨[(0, .one (.ptrC 0 0 0))], [.var 68 [.one (.str), .one (.int .i64), .one (.int .i64)]]⟩),
 (81, ⟨[], []⟩),
 (82, ⟨[(0, .one (.whole T_api_Expr 0)), (1, .fn F_expr_isUniversal [] [])], [.arr T_api_Expr false]⟩),
 (83, ⟨[(0, .one (.int .i64)), (1, .one (.list T_api_Expr))], []⟩),
 (84, ⟨[(0, .agg [.int .i64, .int .i64, .list T_api_Expr])], []⟩),
 (85, ⟨[(0, .one (.int .i64)), (1, .one (.list T_api_Expr)), (2, .agg [.int .i64, .int .i64, .list T_api_Expr])], []⟩),
 (86, ⟨[(0, .one (.whole T_api_Expr 0))], [.arr T_api_Expr false]⟩),
 (87, ⟨[], []⟩),
 (88, ⟨[(0, .agg [.int .i64, .int .i64, .list T_api_Expr])], []⟩),
 (89, ⟨[(0, .one (.ptrC 0 0 0))], [.var 68 [.one (.str), .one (.int .i64), .one (.int .i64)]]⟩),
 (90, ⟨[(0, .one (.ptrC 0 0 0))], [.var 68 [.one (.str), .one (.int .i64), .one (.int .i64)]]⟩),
 (91, ⟨[(0, .one (.whole T_api_Expr 0)), (1, .fn F_expr_Compare [] [])], [.arr T_api_Expr false]⟩),
 (92, ⟨[(0, .one (.whole T_api_Expr 0)), (1, .fn F_expr_ordered_1 [] [])], [.arr T_api_Expr false]⟩),
 (93, ⟨[(0, .agg [.int .i64, .int .i64, .list T_api_Expr]), (1, .agg [.int .i64, .int .i64, .list T_api_Expr])], []⟩),
 (94, ⟨[(0, .one (.ptrC 0 0 0))], [.var 68 [.one (.str), .one (.int .i64), .one (.int .i64)]]⟩),
 (95, ⟨[(0, .one (.ptrC 0 0 0)), (1, .one (.int .u8))], [.var 68 [.one (.str), .one (.int .i64), .one (.int .i64)]]⟩),
 (96, ⟨[(0, .one (.whole T_api_Expr 0)), (1, .one (.int .i64)), (2, .one (.int .i64)), (3, .one (.int .i64)), (4, .fn F_expr_Compare [] [])], [.arr T_api_Expr false]⟩),
 (97, ⟨[(0, .one (.int .u64))], []⟩),
 (98, ⟨[(0, .one (.ptrC 0 0 0))], [.var 68 [.one (.str), .one (.int .i64), .one (.int .i64)]]⟩),
 (99, ⟨[(0, .one (.whole T_api_Expr 0)), (1, .one (.int .i64)), (2, .one (.int .i64)), (3, .fn F_expr_Compare [] [])], [.arr T_api_Expr false]⟩),
 (100, ⟨[(0, .one (.whole T_api_Expr 0)), (1, .one (.int .i64)), (2, .one (.int .i64)), (3, .fn F_expr_Compare [] [])], [.arr T_api_Expr false]⟩),
 (101, ⟨[(0, .one (.whole T_api_Expr 0)), (1, .one (.int .i64)), (2, .one (.int .i64)), (3, .fn F_expr_Compare [] [])], [.arr T_api_Expr false]⟩),
 (102, ⟨[(0, .one (.list T_api_Expr)), (1, .one (.int .i64)), (2, .one (.int .i64)), (3, .fn F_expr_Compare [] [])], []⟩),
 (103, ⟨[(0, .one (.whole T_api_Expr 0)), (1, .one (.int .i64)), (2, .one (.int .i64)), (3, .fn F_expr_Compare [] [])], [.arr T_api_Expr false]⟩),
 (104, ⟨[(0, .one (.whole T_api_Expr 0)), (1, .one (.int .i64)), (2, .one (.int .i64)), (3, .fn F_expr_Compare [] [])], [.arr T_api_Expr false]⟩),
 (105, ⟨[(0, .one (.whole T_api_Expr 0)), (1, .one (.int .i64)), (2, .one (.int .i64)), (3, .one (.int .i64)), (4, .fn F_expr_Compare [] [])], [.arr T_api_Expr false]⟩),
 (106, ⟨[(0, .one (.whole T_api_Expr 0)), (1, .one (.int .i64)), (2, .one (.int .i64)), (3, .one (.int .i64)), (4, .fn F_expr_Compare [] [])], [.arr T_api_Expr false]⟩),
 (108, ⟨[(0, .one (.int .u64))], []⟩),
 (109, ⟨[(0, .one (.whole T_api_Expr 0)), (1, .one (.int .i64)), (2, .one (.int .i64)), (3, .one (.int .i64)), (4, .fn F_expr_Compare [] [])], [.arr T_api_Expr false]⟩),
 (110, ⟨[(0, .one (.int .i64))], []⟩),
 (111, ⟨[(0, .one (.ptrC 0 0 0))], [.var 103 [.one (.int .u64)]]⟩),
 (112, ⟨[(0, .one (.list T_api_Expr)), (1, .one (.int .i64)), (2, .one (.ptrC 0 0 0)), (3, .fn F_expr_Compare [] [])], [.var 3 [.one (.int .i64)]]⟩),
 (113, ⟨[(0, .one (.list T_api_Expr)), (1, .one (.int .i64)), (2, .one (.int .i64)), (3, .one (.int .i64)), (4, .one (.ptrC 0 0 0)), (5, .fn F_expr_Compare [] [])], [.var 3 [.one (.int .i64)]]⟩),
 (114, ⟨[(0, .one (.list T_api_Expr)), (1, .one (.int .i64)), (2, .one (.int .i64)), (3, .one (.ptrC 0 0 0)), (4, .fn F_expr_Compare [] [])], [.var 3 [.one (.int .i64)]]⟩),
 (132, ⟨[(0, .one (.ptrC 0 0 0)), (1, .one (.int .i64)), (2, .one (.int .u8)), (3, .fn F_expr_parser_cat [.ptrC 0 0 0] [])], [.var 68 [.one (.str), .one (.int .i64), .one (.int .i64)]]⟩),
 (133, ⟨[(0, .one (.list T_api_Expr)), (1, .fn F_expr_isUniversal [] [])], []⟩),
 (134, ⟨[(0, .one (.list T_api_Expr)), (1, .fn F_expr_isUniversal [] [])], []⟩),
 (135, ⟨[(0, .one (.whole T_api_Expr 0)), (1, .fn F_expr_isUnit [] [])], [.arr T_api_Expr false]⟩),
 (136, ⟨[(0, .one (.list T_api_Expr)), (1, .fn F_expr_isUnit [] [])], []⟩),
 (137, ⟨[(0, .one (.whole T_api_Expr 0)), (1, .fn F_expr_isEmpty [] [])], [.arr T_api_Expr false]⟩),
 (138, ⟨[(0, .one (.list T_api_Expr)), (1, .fn F_expr_HasUnit [] [])], []⟩),
 (139, ⟨[(0, .one (.list T_api_Expr)), (1, .fn F_expr_HasUnit [] [])], []⟩)]
def annSout : List (Nat × Shape) := [(3, ⟨[(0, .one (.bool))], []⟩),
 (4, ⟨[(0, .one (.bool))], []⟩),
 (5, ⟨[(0, .one (.bool))], []⟩),
 (6, ⟨[(0, .one (.bool))], []⟩),
 (7, ⟨[(0, .one (.bool))], []⟩),
 (8, ⟨[(0, .one (.bool))], []⟩),
 (9, ⟨[(0, .one (.bool))], []⟩),
 (10, ⟨[(0, .one (.bool))], []⟩),
 (11, ⟨[(0, .one (.int .i64))], []⟩),
 (12, ⟨[(0, .one (.int .i64))], []⟩),
 (13, ⟨[(0, .one (.bool))], []⟩),
 (14, ⟨[(0, .one (.str))], []⟩),
 (15, ⟨[(0, .one (.bool))], []⟩),
 (16, ⟨[(0, .one (.str))], []⟩),
 (17, ⟨[(0, .agg [.int .i64, .int .i64, .list T_api_Expr]), (1, .one (.int .i64)), (2, .one (.int .i64))], []⟩),
 (18, ⟨[(0, .one (.bool))], []⟩),
 (19, ⟨[(0, .one (.int .i64))], []⟩),
 (20, ⟨[(0, .one (.int .i64))], []⟩),
 (21, ⟨[(0, .one (.int .i64))], []⟩),
 (22, ⟨[(0, .one (.int .i64))], []⟩),
 (23, ⟨[(0, .one (.int .i64))], []⟩),
 (24, ⟨[(0, .one (.bool))], []⟩),
 (25, ⟨[(0, .one (.bool))], []⟩),
 (26, ⟨[(0, .one (.int .i64))], []⟩),
 (27, ⟨[(0, .one (.int .i64))], []⟩),
 (28, ⟨[(0, .one (.int .i64))], []⟩),
 (29, ⟨[(0, .one (.bool))], []⟩),
 (30, ⟨[(0, .one (.bool))], []⟩),
 (31, ⟨[(0, .agg [.int .i64, .int .i64, .list T_api_Expr])], []⟩),
 (32, ⟨[(0, .agg [.int .i64, .int .i64, .list T_api_Expr])], []⟩),
 (33, ⟨[(0, .one (.bool))], []⟩),
 (34, ⟨[(0, .one (.bool))], []⟩),
 (35, ⟨[(0, .one (.bool))], []⟩),
 (36, ⟨[(0, .one (.bool))], []⟩),
 (37, ⟨[(0, .one (.bool))], []⟩),
 (38, ⟨[(0, .one (.bool))], []⟩),
 (39, ⟨[(0, .one (.bool))], []⟩),
 (40, ⟨[], [.var 43 [.one (.und), .one (.whole T_uint8 2)], .dead, .arr T_uint8 false]⟩),
 (41, ⟨[(0, .one (.str))], [.var 43 [.one (.und), .one (.und)], .dead]⟩),
 (42, ⟨[(0, .one (.str))], []⟩),
 (43, ⟨[(0, .agg [.int .i64, .int .i64, .list T_api_Expr]), (1, .one (.int .i64)), (2, .one (.bool))], []⟩),
 (44, ⟨[(0, .one (.int .i64))], []⟩),
 (45, ⟨[(0, .one (.int .i64))], []⟩),
 (46, ⟨[(0, .one (.int .i64))], []⟩),
 (47, ⟨[(0, .one (.int .i64))], []⟩),
 (48, ⟨[(0, .one (.int .i64))], []⟩),
 (49, ⟨[(0, .one (.int .i64))], []⟩),
 (50, ⟨[(0, .one (.bool))], []⟩),
 (51, ⟨[(0, .one (.int .i64)), (1, .one (.int .i64))], []⟩),
 (52, ⟨[(0, .agg [.int .i64, .int .i64, .list T_api_Expr])], []⟩),
 (53, ⟨[(0, .one (.bool))], []⟩),
 (54, ⟨[(0, .one (.whole T_api_Expr 0))], [.arr T_api_Expr false]⟩),
 (55, ⟨[(0, .one (.list T_api_Expr))], []⟩),
 (56, ⟨[(0, .one (.bool))], [.var 3 [.one (.int .i64)]]⟩),
 (57, ⟨[(0, .one (.und))], [.var 43 [.one (.und), .one (.whole T_uint8 2)], .dead, .arr T_uint8 false]⟩),
 (58, ⟨[], [.var 43 [.one (.und), .one (.whole T_uint8 2)], .dead, .arr T_uint8 false]⟩),
 (59, ⟨[(0, .one (.int .i64))], []⟩),
 (61, ⟨[(0, .agg [.int .i64, .int .i64, .list T_api_Expr])], [.var 68 [.one (.str), .one (.int .i64), .one (.int .i64)]]⟩),
 (62, ⟨[(0, .one (.int .u8))], [.var 68 [.one (.str), .one (.int .i64), .one (.int .i64)]]⟩),
 (64, ⟨[(0, .one (.bool))], []⟩),
 (65, ⟨[(0, .one (.bool))], []⟩),
 (66, ⟨[(0, .agg [.int .i64, .int .i64, .list T_api_Expr])], []⟩),
 (68, ⟨[(0, .one (.int .i64)), (1, .one (.und))], [.var 43 [.one (.und), .one (.whole T_uint8 2)], .dead, .arr T_uint8 false]⟩),
 (69, ⟨[(0, .one (.int .i64))], []⟩),
 (70, ⟨[(0, .agg [.int .i64, .int .i64, .list T_api_Expr])], [.var 68 [.one (.str), .one (.int .i64), .one (.int .i64)]]⟩),
 (71, ⟨[(0, .agg [.int .i64, .int .i64, .list T_api_Expr])], [.var 68 [.one (.str), .one (.int .i64), .one (.int .i64)]]⟩),
 (72, ⟨[(0, .one (.int .i64))], []⟩),
 (73, ⟨[(0, .agg [.int .i64, .int .i64, .list T_api_Expr])], []⟩),
 (74, ⟨[(0, .agg [.int .i64, .int .i64, .list T_api_Expr])], []⟩),
 (75, ⟨[(0, .agg [.int .i64, .int .i64, .list T_api_Expr])], []⟩),
 (76, ⟨[(0, .agg [.int .i64, .int .i64, .whole T_api_Expr 0])], [.arr T_api_Expr false]⟩),
 (77, ⟨[(0, .one (.bool))], []⟩),
 (79, ⟨[(0, .agg [.int .i64, .int .i64, .list T_api_Expr])], []⟩),
 (80, ⟨[(0, .agg [.int .i64, .int .i64, .list T_api_Expr])], [.var 68 [.one (.str), .one (.int .i64), .one (.int .i64)]]⟩),
 (81, ⟨[(0, .agg [.int .i64, .int .i64, .whole T_api_Expr 0])], [.arr T_api_Expr false]⟩),
 (82, ⟨[(0, .one (.whole T_api_Expr 1))], [.dead, .arr T_api_Expr false]⟩),
 (83, ⟨[(0, .one (.whole T_api_Expr 0))], [.arr T_api_Expr false]⟩),
 (84, ⟨[(0, .one (.bool))], []⟩),
 (85, ⟨[(0, .agg [.int .i64, .int .i64, .list T_api_Expr])], []⟩),
 (86, ⟨[(0, .one (.whole T_api_Expr 1))], [.dead, .arr T_api_Expr false]⟩),
 (87, ⟨[(0, .agg [.int .i64, .int .i64, .whole T_api_Expr 0])], [.arr T_api_Expr false]⟩),
 (88, ⟨[(0, .one (.bool))], []⟩),
 (89, ⟨[(0, .agg [.int .i64, .int .i64, .list T_api_Expr])], [.var 68 [.one (.str), .one (.int .i64), .one (.int .i64)]]⟩),
 (90, ⟨[(0, .one (.bool))], [.var 68 [.one (.str), .one (.int .i64), .one (.int .i64)]]⟩),
 (91, ⟨[], [.arr T_api_Expr false]⟩),
 (92, ⟨[(0, .one (.whole T_api_Expr 1))], [.dead, .arr T_api_Expr false]⟩),
 (93, ⟨[(0, .one (.bool))], []⟩),
 (94, ⟨[(0, .agg [.int .i64, .int .i64, .list T_api_Expr])], [.var 68 [.one (.str), .one (.int .i64), .one (.int .i64)]]⟩),
 (95, ⟨[(0, .one (.bool))], [.var 68 [.one (.str), .one (.int .i64), .one (.int .i64)]]⟩),
 (96, ⟨[], [.arr T_api_Expr false]⟩),
 (97, ⟨[(0, .one (.int .i64))], []⟩),
 (98, ⟨[(0, .agg [.int .i64, .int .i64, .list T_api_Expr])], [.var 68 [.one (.str), .one (.int .i64), .one (.int .i64)]]⟩),
 (99, ⟨[], [.arr T_api_Expr false]⟩),
 (100, ⟨[], [.arr T_api_Expr false]⟩),
 (101, ⟨[], [.arr T_api_Expr false]⟩),
 (102, ⟨[(0, .one (.int .i64)), (1, .one (.int .i64))], []⟩),
 (103, ⟨[], [.arr T_api_Expr false]⟩),
 (104, ⟨[(0, .one (.bool))], [.arr T_api_Expr false]⟩),
 (105, ⟨[(0, .one (.int .i64))], [.arr T_api_Expr false]⟩),
 (106, ⟨[(0, .one (.int .i64)), (1, .one (.bool))], [.arr T_api_Expr false]⟩),
 (108, ⟨[(0, .one (.int .i64))], []⟩),
 (109, ⟨[], [.arr T_api_Expr false]⟩),
 (110, ⟨[(0, .one (.int .u64))], []⟩),
 (111, ⟨[(0, .one (.int .u64))], [.var 103 [.one (.int .u64)]]⟩),
 (112, ⟨[(0, .one (.int .i64))], [.var 3 [.one (.int .i64)]]⟩),
 (113, ⟨[(0, .one (.int .i64))], [.var 3 [.one (.int .i64)]]⟩),
 (114, ⟨[(0, .one (.int .i64)), (1, .one (.int .i64))], [.var 3 [.one (.int .i64)]]⟩),
 (132, ⟨[(0, .agg [.int .i64, .int .i64, .list T_api_Expr])], [.var 68 [.one (.str), .one (.int .i64), .one (.int .i64)]]⟩),
 (133, ⟨[(0, .one (.bool))], []⟩),
 (134, ⟨[(0, .one (.int .i64))], []⟩),
 (135, ⟨[(0, .one (.whole T_api_Expr 1))], [.dead, .arr T_api_Expr false]⟩),
 (136, ⟨[(0, .one (.int .i64))], []⟩),
 (137, ⟨[(0, .one (.whole T_api_Expr 1))], [.dead, .arr T_api_Expr false]⟩),
 (138, ⟨[(0, .one (.bool))], []⟩),
 (139, ⟨[(0, .one (.int .i64))], []⟩)]
def annAlt : List (Nat × Shape) := [(82, ⟨[(0, .one (.whole T_api_Expr 0))], [.arr T_api_Expr false]⟩),
 (86, ⟨[(0, .one (.whole T_api_Expr 0))], [.arr T_api_Expr false]⟩),
 (92, ⟨[(0, .one (.whole T_api_Expr 0))], [.arr T_api_Expr false]⟩),
 (135, ⟨[(0, .one (.whole T_api_Expr 0))], [.arr T_api_Expr false]⟩),
 (137, ⟨[(0, .one (.whole T_api_Expr 0))], [.arr T_api_Expr false]⟩)]
def annLive : List (Nat × List (Nat × List Nat)) := [(3, [(0, [1, 2]), (1, [4])]),
 (4, [(0, [1]), (1, [1, 3]), (2, [1, 3, 8]), (3, [2]), (4, [2])]),
 (5, [(0, [1]), (1, [1, 9]), (2, [2]), (3, [1, 3]), (4, [1, 3, 4, 6]), (5, [1, 4, 6, 21]), (6, [2]), (7, [2])]),
 (6, [(0, [3, 4, 5]), (1, [3, 4, 5, 7]), (2, [3, 4, 5, 7, 29]), (3, [6]), (4, [43]), (5, [6]), (6, [6])]),
 (7, [(0, [1]), (1, [1, 5]), (2, [2]), (3, [2])]),
 (8, [(0, [1]), (1, [1, 3]), (2, [1, 3, 8]), (3, [2]), (4, [2])]),
 (9, [(0, [3, 4, 5]), (1, [3, 4, 5, 35]), (2, [6]), (3, [3, 4, 5, 37, 38, 39]), (4, [3, 4, 5, 37, 38, 39, 40]), (5, [3, 4, 5, 8, 37, 38, 39]), (6, [3, 4, 5, 8, 9, 37, 38, 39]), (7, [3, 4, 5, 9, 10, 37, 38, 39]), (8, [3, 4, 5, 37, 38, 39, 69]), (9, [6]), (10, [3, 4, 5, 37, 38, 39]), (11, [3, 4, 5, 11]), (12, [11, 12]), (13, [6])]),
 (10, [(0, [1]), (1, [1, 6]), (2, [2]), (3, [1, 3]), (4, [2])]),
 (11, [(0, [1, 2]), (1, [1, 2, 10]), (2, [4]), (3, [1, 2, 13]), (4, [4]), (5, [17]), (6, [4]), (7, [4])]),
 (12, [(0, [1, 2]), (1, [1, 2, 5]), (2, [4]), (3, [1, 2, 9]), (4, [4]), (5, [13]), (6, [4]), (7, [4])]),
 (13, [(0, []), (1, [1, 2, 3]), (2, [0])]),
 (14, [(0, [1]), (1, [1, 6]), (2, [2]), (3, [1, 3]), (4, [3]), (5, [2])]),
 (15, [(0, [1]), (1, [2])]),
 (16, [(0, [1]), (1, [1, 3, 4]), (2, [1, 3, 4, 9]), (3, [1, 3, 4, 5]), (4, [1, 3, 4, 9, 10]), (5, [2]), (6, [1, 3, 4, 9, 12]), (7, [2]), (8, [1, 3, 4, 9, 14]), (9, [2]), (10, [1, 3, 4, 9, 22]), (11, [2]), (12, [1, 3, 4, 9, 30]), (13, [2]), (14, [1, 3, 4, 9, 38]), (15, [1, 3, 4, 5]), (16, [1, 3, 4, 40]), (17, [1, 3, 4, 5]), (18, [3, 4, 5, 43, 44, 45]), (19, [3, 4, 5, 43, 44, 45, 46]), (20, [3, 4, 5, 6, 7, 43, 44, 45]), (21, [3, 4, 5, 7, 43, 44, 45, 51]), (22, [3, 4, 5, 7, 43, 44, 45]), (23, [3, 4, 5, 43, 44, 45]), (24, [3, 4, 5, 43, 44, 45]), (25, [2])]),
 (17, [(0, [0, 1, 4]), (1, [0, 1, 4, 15]), (2, [4, 5, 6]), (3, [0, 1, 4, 19]), (4, [4, 5, 6]), (5, [4, 7, 8, 9]), (6, [4, 7, 8, 29]), (7, [4, 5, 6]), (8, [4, 7, 34]), (9, [4, 5, 6]), (10, [4, 5, 6])]),
 (18, [(0, [2, 3]), (1, [4])]),
 (19, [(0, [2, 3]), (1, [2, 3, 9]), (2, [4]), (3, [2, 3, 19]), (4, [4]), (5, [4])]),
 (20, [(0, [2, 3]), (1, [2, 3, 7]), (2, [4]), (3, [2, 3, 19]), (4, [4]), (5, [2, 3, 5]), (6, [2, 3, 5, 42]), (7, [2, 3, 5]), (8, [2, 3, 5, 6]), (9, [2, 3, 5, 6, 57]), (10, [4]), (11, [2, 3, 65]), (12, [4]), (13, [4])]),
 (21, [(0, [1]), (1, [1, 5]), (2, [2]), (3, [2])]),
 (22, [(0, [1]), (1, [1, 5]), (2, [2]), (3, [2])]),
 (23, [(0, [1]), (1, [1, 5]), (2, [2]), (3, [2])]),
 (24, [(0, [1]), (1, [2])]),
 (25, [(0, [1]), (1, [2])]),
 (26, [(0, [1]), (1, [3]), (2, [2])]),
 (27, [(0, [1]), (1, [4]), (2, [2])]),
 (28, [(0, [1]), (1, [1, 3]), (2, [1, 3, 7, 8, 9]), (3, [1, 3, 7, 8, 9, 10]), (4, [1, 3, 5, 7, 8, 9]), (5, [1, 3, 7, 8, 9]), (6, [1, 3, 7, 8, 9]), (7, [3, 20]), (8, [3]), (9, [2])]),
 (29, [(0, [1, 2]), (1, [1, 2, 10]), (2, [4]), (3, [1, 12, 13, 14]), (4, [1, 12, 13, 14, 15]), (5, [1, 6, 12, 13, 14]), (6, [1, 12, 13, 14, 20]), (7, [4]), (8, [1, 12, 13, 14]), (9, [4])]),
 (30, [(0, [1]), (1, [1, 3, 4]), (2, [1, 3, 4, 9, 10, 11]), (3, [1, 3, 4, 9, 10, 11, 12]), (4, [1, 3, 4, 6, 9, 10, 11]), (5, [1, 3, 4, 7, 9, 10, 11]), (6, [1, 3, 4, 9, 10, 11]), (7, [1, 3, 4, 9, 10, 11]), (8, [3, 4, 27]), (9, [3, 4, 27, 28]), (10, [3, 4, 27, 28]), (11, [2]), (12, [3, 4, 27, 31]), (13, [2]), (14, [3, 4, 27, 34]), (15, [3, 4, 27, 34]), (16, [2]), (17, [4, 38]), (18, [2]), (19, [2])]),
 (31, [(0, [1, 2]), (1, [1, 2, 5]), (2, [2]), (3, [2])]),
 (32, [(0, [1, 2]), (1, [1, 2, 3]), (2, [1, 2, 3, 19, 20, 21]), (3, [1, 2, 3, 19, 20, 21, 22]), (4, [1, 2, 3, 5, 19, 20, 21]), (5, [1, 2, 3, 19, 20, 21]), (6, [1, 2, 3, 19, 20, 21]), (7, [1, 2, 3, 6, 7]), (8, [1, 2, 3, 6, 7, 8]), (9, [1, 2, 3, 6, 7, 8, 9]), (10, [1, 2, 3, 6, 7, 8, 9, 10]), (11, [1, 2, 3, 6, 7, 8, 9, 10, 43]), (12, [2]), (13, [1, 2, 3, 6, 7, 8, 9, 10, 43, 45]), (14, [2, 3, 9, 51]), (15, [2]), (16, [2, 9]), (17, [2]), (18, [1, 2, 3, 6, 7, 8, 9, 10, 43, 61]), (19, [2, 3, 7, 9, 11]), (20, [2, 3, 7, 9, 11, 66]), (21, [2]), (22, [2, 3, 9, 11, 76]), (23, [2]), (24, [2, 9]), (25, [2]), (26, [1, 2, 3, 6, 7, 8, 9, 10, 43, 88]), (27, [1, 2, 3, 6, 9, 10]), (28, [2, 6, 9, 10, 94, 95, 96]), (29, [2, 6, 9, 10, 94, 95, 96, 97]), (30, [2, 6, 9, 10, 13, 94, 95, 96]), (31, [2, 6, 9, 10, 13, 94, 95, 96, 102]), (32, [2]), (33, [2, 6, 9, 10, 13, 94, 95, 96, 106]), (34, [2, 6, 9, 10, 94, 95, 96]), (35, [2, 6, 9, 10, 94, 95, 96]), (36, [1, 2, 3, 6, 8, 9, 10, 43, 114]), (37, [2, 8, 9, 10, 119, 120, 121]), (38, [2, 8, 9, 10, 119, 120, 121, 122]), (39, [2, 8, 9, 10, 15, 119, 120, 121]), (40, [2, 8, 9, 10, 15, 119, 120, 121, 126]), (41, [2]), (42, [2, 8, 9, 10, 15, 119, 120, 121, 130]), (43, [2, 8, 9, 10, 119, 120, 121]), (44, [2, 8, 9, 10, 119, 120, 121]), (45, [1, 2, 3, 6, 8, 9, 10, 137]), (46, [1, 2, 3, 6, 9, 10]), (47, [2, 6, 9, 10, 143, 144, 145]), (48, [2, 6, 9, 10, 143, 144, 145, 146]), (49, [2, 6, 9, 10, 17, 143, 144, 145]), (50, [2, 6, 9, 10, 17, 143, 144, 145, 151]), (51, [2]), (52, [2, 6, 9, 10, 17, 143, 144, 145, 155]), (53, [2, 6, 9, 10, 143, 144, 145]), (54, [2, 6, 9, 10, 143, 144, 145]), (55, [2, 9, 10, 164]), (56, [2, 9, 10, 164, 165]), (57, [2]), (58, [2, 9, 168]), (59, [2]), (60, [2])]),
 (33, [(0, [1, 2]), (1, [4])]),
 (34, [(0, [1]), (1, [1, 3]), (2, [2])]),
 (35, [(0, [1, 2]), (1, [1, 2, 9]), (2, [4]), (3, [1, 2, 27]), (4, [4]), (5, [1, 2, 29]), (6, [4]), (7, [1, 2, 29, 30]), (8, [1, 2, 29, 30]), (9, [4]), (10, [1, 2, 29, 37]), (11, [1, 2, 29, 37]), (12, [1, 2, 29, 37]), (13, [1, 2, 44]), (14, [4]), (15, [1, 2, 29, 45]), (16, [1, 2, 45]), (17, [1, 2, 51]), (18, [4]), (19, [1, 53, 54, 55]), (20, [1, 53, 54, 55, 56]), (21, [1, 6, 53, 54, 55]), (22, [1, 53, 54, 55, 62]), (23, [4]), (24, [1, 53, 54, 55]), (25, [4])]),
 (36, [(0, [0]), (1, [2])]),
 (37, [(0, [1]), (1, [3, 4]), (2, [2])]),
 (38, [(0, [1, 2]), (1, [1, 2, 5]), (2, [1, 2, 5, 6]), (3, [1, 2, 5, 6, 20]), (4, [1, 2, 5, 6]), (5, [1, 2, 5, 6, 20, 26]), (6, [1, 2, 5, 6, 20, 26]), (7, [1, 2, 5, 6, 20, 26]), (8, [1, 2, 5, 6]), (9, [1, 2, 5, 6, 20, 32]), (10, [1, 2, 5, 6, 32]), (11, [1, 2, 5, 6]), (12, [1, 2, 5, 6, 39]), (13, [1, 2, 5, 6]), (14, [1, 2, 5, 6]), (15, [1, 2, 5, 6, 7]), (16, [1, 2, 5, 6, 7, 63]), (17, [1, 2, 5, 6, 7]), (18, [1, 2, 5, 6, 7]), (19, [4])]),
 (39, [(0, [1]), (1, [2])]),
 (40, [(0, [0, 3]), (1, [0, 3, 5]), (2, [0, 3, 5, 6]), (3, []), (4, [0, 3, 5, 10]), (5, []), (6, [0, 3, 5, 14]), (7, []), (8, [0, 3, 5, 22]), (9, []), (10, [0, 3, 5, 28]), (11, []), (12, [0, 3, 5, 34]), (13, []), (14, [0, 3, 5, 40]), (15, [0, 3]), (16, []), (17, [0, 3, 48]), (18, [0]), (19, [])]),
 (41, [(0, [0]), (1, [2])]),
 (42, [(0, [1, 2]), (1, [2, 9]), (2, [4]), (3, [4])]),
 (43, [(0, [0, 1, 4, 5, 6]), (1, [0, 1, 4, 5, 6]), (2, [0, 4, 5, 6, 7]), (3, [0, 4, 5, 6, 7]), (4, [0, 4, 5, 6, 7]), (5, [4, 5, 6, 7, 18]), (6, [4, 5, 6]), (7, [4, 5, 6])]),
 (44, [(0, [0, 1]), (1, [0, 1, 5]), (2, [0, 1, 5, 6]), (3, [0, 1, 6, 11]), (4, [12]), (5, [4]), (6, [4]), (7, [0, 1, 13]), (8, [4]), (9, [0, 1, 16]), (10, [4]), (11, [19]), (12, [4]), (13, [4])]),
 (45, [(0, [0, 1, 2]), (1, [0, 1, 2, 11, 12, 13]), (2, [0, 1, 2, 11, 12, 13, 14]), (3, [0, 1, 2, 7, 8, 11, 12, 13]), (4, [0, 1, 2, 7, 8, 11, 12, 13, 21]), (5, [6]), (6, [0, 1, 2, 8, 9, 11, 12, 13]), (7, [0, 1, 2, 10, 11, 12, 13]), (8, [0, 1, 2, 10, 11, 12, 13, 31]), (9, [6]), (10, [0, 1, 2, 11, 12, 13]), (11, [38]), (12, [6]), (13, [6])]),
 (46, [(0, [0]), (1, [3]), (2, [2]), (3, [2])]),
 (47, [(0, [1]), (1, [1, 3]), (2, [3, 7, 8, 9]), (3, [3, 7, 8, 9, 10]), (4, [3, 5, 7, 8, 9]), (5, [3, 7, 8, 9]), (6, [3, 7, 8, 9]), (7, [2])]),
 (48, [(0, [1]), (1, [1, 3]), (2, [3, 7, 8, 9]), (3, [3, 7, 8, 9, 10]), (4, [3, 5, 7, 8, 9]), (5, [3, 7, 8, 9]), (6, [3, 7, 8, 9]), (7, [2])]),
 (49, [(0, [1]), (1, [1, 3]), (2, [1, 3, 7, 8, 9]), (3, [1, 3, 7, 8, 9, 10]), (4, [1, 3, 5, 7, 8, 9]), (5, [1, 3, 7, 8, 9]), (6, [1, 3, 7, 8, 9]), (7, [3, 20]), (8, [3]), (9, [2])]),
 (50, [(0, [1]), (1, [1, 6]), (2, [1, 6, 7]), (3, [1, 6, 7]), (4, [2]), (5, [1, 6, 10]), (6, [2]), (7, [1, 6, 15]), (8, [1, 6, 15]), (9, [19, 20, 21]), (10, [19, 20, 21, 22]), (11, [4, 19, 20, 21]), (12, [19, 20, 21, 27]), (13, [2]), (14, [19, 20, 21]), (15, [2]), (16, [1, 29]), (17, [2]), (18, [2])]),
 (51, [(0, [1, 2]), (1, [1, 2, 6, 7]), (2, [1, 2, 6, 7, 8]), (3, [1, 2, 6, 7, 8, 20]), (4, [1, 2, 6, 7, 8]), (5, [1, 2, 6, 7, 8, 9, 10]), (6, [1, 2, 6, 7, 8]), (7, [4, 5])]),
 (52, [(0, [1, 2]), (1, [1, 2, 9]), (2, [2]), (3, [1, 2, 3]), (4, [1, 2, 3, 20, 21, 22]), (5, [1, 2, 3, 20, 21, 22, 23]), (6, [1, 2, 3, 4, 5, 20, 21, 22]), (7, [1, 2, 3, 20, 21, 22]), (8, [1, 2, 3, 20, 21, 22]), (9, [2])]),
 (53, [(0, [1]), (1, [2])]),
 (54, [(0, [0, 1]), (1, [0, 1, 5]), (2, [0, 5, 8, 9, 10]), (3, [0, 5, 8, 9, 10, 11]), (4, [0, 5, 7, 8, 9, 10]), (5, [0, 5, 7, 8, 9, 10, 17]), (6, [0, 5, 8, 9, 10]), (7, [0, 5, 8, 9, 10]), (8, [0, 5, 8, 9, 10]), (9, [4])]),
 (55, [(0, [0, 3]), (1, [0, 3, 5]), (2, [0, 3, 5, 19]), (3, [0, 3, 5]), (4, [0, 3, 5, 33]), (5, [4]), (6, [4])]),
 (56, [(0, [1, 2, 3]), (1, [1, 2, 3, 16]), (2, [6]), (3, [1, 2, 3]), (4, [1, 2, 23, 24, 25]), (5, [1, 2, 23, 24, 25, 26]), (6, [1, 2, 8, 23, 24, 25]), (7, [1, 2, 23, 24, 25, 34]), (8, [6]), (9, [1, 2, 23, 24, 25]), (10, [6])]),
 (57, [(0, [0, 1]), (1, [0, 1]), (2, []), (3, [4])]),
 (58, [(0, [0, 2, 3, 10, 11, 12]), (1, [0, 2, 3, 10, 11, 12, 13]), (2, [0, 2, 3, 8, 9, 10, 11, 12]), (3, [0, 2, 3, 9, 10, 11, 12, 18]), (4, [0, 2, 3, 9, 10, 11, 12]), (5, [0, 2, 3, 9, 10, 11, 12, 26]), (6, [0, 2, 3, 10, 11, 12]), (7, [0, 2, 3, 9, 10, 11, 12]), (8, [0, 2, 3, 10, 11, 12]), (9, [0, 2, 3, 10, 11, 12]), (10, [0, 2, 3, 10, 11, 12])]),
 (59, [(0, [0]), (1, [3]), (2, [3, 4]), (3, [2]), (4, [3, 6]), (5, [2]), (6, [3, 8]), (7, [2]), (8, [3, 10]), (9, [2]), (10, [12]), (11, [2]), (12, [2])]),
 (61, [(0, [0, 2]), (1, [2])]),
 (62, [(0, [0]), (1, [0, 24]), (2, [0]), (3, [0, 41]), (4, [2]), (5, [2])]),
 (64, [(0, [0]), (1, [2])]),
 (65, [(0, [0, 1]), (1, [4])]),
 (66, [(0, [0, 1, 4]), (1, [0, 1, 4, 6]), (2, [0, 1, 4, 6, 7]), (3, [4]), (4, [0, 1, 4, 6, 11]), (5, [4]), (6, [0, 1, 4, 15]), (7, [4]), (8, [0, 1, 4, 21]), (9, [4]), (10, [0, 4, 5]), (11, [4, 5, 26]), (12, [4, 5, 26, 27]), (13, [4, 5, 37]), (14, [4]), (15, [4]), (16, [4, 5, 45]), (17, [4, 5, 47]), (18, [4]), (19, [4, 5, 57]), (20, [4]), (21, [4]), (22, [4])]),
 (68, [(0, [0, 1]), (1, [0, 1]), (2, [1]), (3, [4, 5])]),
 (69, [(0, [0]), (1, [3]), (2, [3, 4]), (3, [2]), (4, [3, 6]), (5, [2]), (6, [3, 8]), (7, [2]), (8, [3, 10]), (9, [2]), (10, [12]), (11, [2]), (12, [2])]),
 (70, [(0, [0, 1, 2, 3, 8]), (1, [0, 1, 2, 3, 8, 9]), (2, [0, 1, 2, 3, 8, 9, 16]), (3, [0, 1, 2, 3, 8, 9]), (4, [0, 1, 2, 3, 8, 9]), (5, [8])]),
 (71, [(0, [0, 2]), (1, [2])]),
 (72, [(0, [0, 1]), (1, [0, 1, 7, 8]), (2, [0, 1, 7, 8, 9]), (3, [0, 1, 5, 7, 8]), (4, [0, 1, 5, 7, 8, 16]), (5, [4]), (6, [0, 1, 7, 8]), (7, [4])]),
 (73, [(0, [0, 2]), (1, [0, 2, 5]), (2, [2]), (3, [2, 3]), (4, [2])]),
 (74, [(0, [0, 2]), (1, [0, 2, 5]), (2, [2]), (3, [2, 3]), (4, [2])]),
 (75, [(0, [0, 2]), (1, [0, 2, 5]), (2, [2]), (3, [2, 3]), (4, [2])]),
 (76, [(0, [0]), (1, [0])]),
 (77, [(0, [1]), (1, [2])]),
 (79, [(0, [0, 1, 4]), (1, [0, 1, 4, 7]), (2, [4]), (3, [4])]),
 (80, [(0, [0, 2]), (1, [0, 2, 3]), (2, [0, 2, 3, 8]), (3, [0, 2, 3]), (4, [2])]),
 (81, [(0, [0]), (1, [0])]),
 (82, [(0, [0, 1]), (1, [0, 1, 5]), (2, [0, 1, 5, 12]), (3, [4]), (4, [0, 1, 5, 6]), (5, [0, 1, 5, 6, 19]), (6, [0, 1, 5, 6]), (7, [0, 1, 5, 6, 7]), (8, [0, 1, 5, 6, 7, 29]), (9, [0, 1, 5, 6]), (10, [0, 1, 5, 6]), (11, [0, 5]), (12, [4])]),
 (83, [(0, [0, 1]), (1, [0, 1, 5]), (2, [0, 5, 8, 9, 10]), (3, [0, 5, 8, 9, 10, 11]), (4, [0, 5, 7, 8, 9, 10]), (5, [0, 5, 7, 8, 9, 10, 17]), (6, [0, 5, 8, 9, 10]), (7, [0, 5, 8, 9, 10]), (8, [0, 5, 8, 9, 10]), (9, [4])]),
 (84, [(0, [1]), (1, [2])]),
 (85, [(0, [0, 1, 5, 6]), (1, [0, 1, 5, 6, 8]), (2, [0, 1, 5, 6, 8, 9]), (3, [6]), (4, [0, 1, 6, 12]), (5, [6]), (6, [6])]),
 (86, [(0, [0]), (1, [0]), (2, [2])]),
 (87, [(0, [0]), (1, [0])]),
 (88, [(0, [1]), (1, [2])]),
 (89, [(0, [0, 2]), (1, [0, 2, 5]), (2, [2]), (3, [0, 2]), (4, [2])]),
 (90, [(0, [0]), (1, [0, 3]), (2, [2])]),
 (91, [(0, [0, 1, 4]), (1, [])]),
 (92, [(0, [0, 1]), (1, [0, 1, 10]), (2, [4]), (3, [0, 1, 5]), (4, [0, 1, 5, 15]), (5, [0, 1, 5]), (6, [0, 1, 5, 28]), (7, [0, 1, 5, 6]), (8, [0, 1, 5, 6, 7]), (9, [0, 1, 5, 6, 7, 35]), (10, [0, 1, 5, 6, 7]), (11, [0, 1, 5, 6, 7, 49]), (12, [0, 1, 5, 6, 7]), (13, [0, 1, 5, 6, 7]), (14, [0, 5]), (15, [4]), (16, [4])]),
 (93, [(0, [2, 3]), (1, [4])]),
 (94, [(0, [0, 2]), (1, [0, 2, 3]), (2, [0, 2, 3, 8]), (3, [0, 2, 3]), (4, [0, 2, 3]), (5, [2])]),
 (95, [(0, [0, 1]), (1, [4])]),
 (96, [(0, [0, 1, 2, 3, 4, 10]), (1, [0, 1, 2, 3, 4, 10, 11]), (2, [0, 1, 2, 3, 4, 10, 11, 12]), (3, [0, 1, 2, 3, 4, 10, 11, 12, 25]), (4, []), (5, [0, 1, 2, 3, 4, 10, 11, 12, 32]), (6, []), (7, [0, 1, 2, 3, 4, 10, 11, 12, 39]), (8, [0, 1, 2, 3, 4, 10, 11, 12]), (9, [0, 1, 2, 3, 4, 10, 11, 12]), (10, [0, 1, 2, 3, 4, 10, 11, 12, 13, 14]), (11, [0, 1, 2, 3, 4, 10, 11, 12, 13, 14, 56]), (12, [0, 1, 2, 3, 4, 10, 11, 12, 13]), (13, [0, 1, 2, 3, 4, 10, 11, 12, 13]), (14, [0, 1, 2, 3, 4, 10, 11, 12, 13, 14]), (15, [0, 1, 2, 3, 4, 10, 11, 12, 13, 75]), (16, [0, 1, 2, 3, 4, 10, 11, 12, 13, 80]), (17, [0, 1, 2, 3, 4, 10, 11, 12, 13, 97]), (18, [0, 2, 3, 4, 10, 11, 15]), (19, [0, 1, 2, 3, 4, 10, 11]), (20, [0, 1, 2, 3, 4, 12, 16, 17]), (21, [0, 1, 2, 3, 4, 11, 12, 16]), (22, [0, 1, 2, 3, 4, 11, 12, 16, 18, 19]), (23, [0, 1, 2, 3, 4, 11, 16, 18, 19, 20]), (24, [0, 1, 2, 3, 4, 11, 16, 18, 19, 20, 125]), (25, [0, 1, 2, 3, 4, 10, 11, 16]), (26, [0, 2, 3, 4, 10, 11, 16]), (27, [0, 1, 2, 3, 4, 10, 11]), (28, [0, 1, 2, 3, 4, 10, 11, 16]), (29, [0, 1, 3, 4, 10, 11, 16]), (30, [0, 1, 2, 3, 4, 10, 11])]),
 (97, [(0, [0]), (1, [2]), (2, [2])]),
 (98, [(0, [0, 2]), (1, [0, 2, 3]), (2, [0, 2, 3, 4]), (3, [0, 2, 3]), (4, [0, 2, 3, 4, 9]), (5, [0, 2, 3]), (6, [0, 2, 3, 4, 13]), (7, [0, 2, 3]), (8, [0, 2, 3, 4, 17]), (9, [0, 2, 3]), (10, [0, 2, 3, 26]), (11, [0, 2, 3]), (12, [0, 2, 3]), (13, [0, 2, 3, 40]), (14, [0, 2, 3]), (15, [2, 3]), (16, [2])]),
 (99, [(0, [0, 1, 2, 3, 8]), (1, [0, 1, 2, 3, 8, 14]), (2, [0, 1, 2, 3, 8]), (3, [0, 1, 2, 3, 8, 9]), (4, [0, 1, 2, 3, 8, 9, 34]), (5, [0, 1, 2, 3, 8, 9]), (6, [0, 1, 2, 3, 8, 9])]),
 (100, [(0, [0, 1, 2, 3, 8]), (1, [0, 1, 2, 3, 8, 9]), (2, [0, 3, 8, 9, 10]), (3, [0, 3, 8, 9, 10, 11]), (4, [0, 3, 8, 9, 10, 11, 21]), (5, [0, 3, 8, 9, 10, 11]), (6, [0, 3, 8, 9, 10, 11]), (7, [0, 3, 8, 9, 12]), (8, [0, 3, 8, 9, 12, 33]), (9, [0, 3, 8, 9, 12]), (10, [0, 3, 8, 9, 12]), (11, [0, 3, 8, 9, 12])]),
 (101, [(0, [0, 1, 8]), (1, [0, 1, 8, 17]), (2, [0, 1, 8, 9]), (3, [0, 1, 8, 9, 10]), (4, [0, 1, 8, 9, 10, 11]), (5, [0, 1, 8, 9, 10, 11, 35]), (6, [0, 1, 8, 9, 10, 11]), (7, [0, 1, 8, 9, 10, 11, 12]), (8, [0, 1, 8, 9, 10, 11, 12, 45]), (9, [0, 1, 8, 9, 10, 11, 12]), (10, [0, 1, 8, 9, 10, 11])]),
 (102, [(0, [0, 1, 2, 3]), (1, [0, 1, 3, 10]), (2, [0, 1, 3, 10, 11]), (3, [0, 1, 3, 10, 11, 12]), (4, [0, 1, 3, 10, 11, 12, 13]), (5, [0, 3, 10, 11, 12, 13, 14]), (6, [0, 3, 10, 11, 12, 13, 14, 34]), (7, [0, 3, 11, 12, 13, 14, 36]), (8, [0, 3, 11, 12, 13, 14]), (9, [0, 3, 11, 12, 13, 14]), (10, [0, 3, 11, 12, 13, 14]), (11, [11, 13]), (12, [13, 55]), (13, [8, 9]), (14, [13, 55, 57]), (15, [8, 9]), (16, [13, 60]), (17, [8, 9])]),
 (103, [(0, [0, 2, 8]), (1, [0, 8, 9]), (2, [0, 8, 9, 15]), (3, [0, 8, 9]), (4, [0, 8, 9]), (5, [0, 8, 9])]),
 (104, [(0, [0, 1, 2, 3]), (1, [0, 1, 2, 3, 9]), (2, [0, 1, 2, 3, 9, 10]), (3, [0, 1, 2, 3, 9, 10, 16]), (4, [0, 1, 2, 3, 9, 10]), (5, [0, 1, 2, 3, 9, 10, 36]), (6, [0, 1, 2, 3, 9, 10]), (7, [0, 1, 2, 3, 9, 10, 41]), (8, [8]), (9, [0, 1, 2, 3, 9, 10, 45]), (10, [8]), (11, [0, 1, 2, 3, 9, 10]), (12, [0, 1, 2, 3, 9, 10, 65]), (13, [0, 1, 2, 3, 9, 10, 11]), (14, [0, 1, 2, 3, 9, 10, 11, 69]), (15, [0, 1, 2, 3, 9, 10, 11]), (16, [0, 1, 2, 3, 9, 10, 11, 84]), (17, [0, 1, 2, 3, 9, 10, 11]), (18, [0, 1, 2, 3, 9, 10, 104]), (19, [0, 1, 2, 3, 9, 10, 12]), (20, [0, 1, 2, 3, 9, 10, 12, 109]), (21, [0, 1, 2, 3, 9, 10, 12]), (22, [0, 1, 2, 3, 9, 10, 12, 124]), (23, [0, 1, 2, 3, 9, 10, 12]), (24, [8])]),
 (105, [(0, [0, 1, 2, 3, 4]), (1, [0, 1, 2, 4]), (2, [0, 1, 4, 11, 12]), (3, [0, 1, 4, 11, 12, 47]), (4, [0, 1, 4, 11, 12]), (5, [0, 1, 4, 11, 12, 65]), (6, [0, 1, 4, 11, 12]), (7, [0, 1, 4, 11, 12, 70]), (8, [0, 1, 4, 11, 12]), (9, [0, 1, 4, 11, 12]), (10, [0, 1, 4, 11, 12]), (11, [10])]),
 (106, [(0, [0, 1, 2, 3, 4]), (1, [0, 1, 2, 4]), (2, [0, 1, 4, 12, 13]), (3, [0, 1, 4, 12, 13, 47]), (4, [0, 1, 4, 12, 13]), (5, [0, 1, 4, 12, 13, 66]), (6, [0, 1, 4, 12, 13]), (7, [0, 1, 4, 12, 13, 71]), (8, [13]), (9, [10, 11]), (10, [0, 1, 4, 12, 13]), (11, [0, 1, 4, 12, 13]), (12, [0, 1, 4, 12, 13]), (13, [0, 1, 4, 12, 13, 120]), (14, [0, 1, 4, 12, 13]), (15, [0, 1, 4, 12, 13, 139]), (16, [0, 1, 4, 12, 13]), (17, [0, 1, 4, 12, 13, 144]), (18, [0, 1, 4, 12, 13]), (19, [0, 1, 4, 12, 13]), (20, [0, 1, 4, 12, 13]), (21, [13]), (22, [10, 11])]),
 (108, [(0, [0, 2]), (1, [0, 2, 4]), (2, [0]), (3, [0, 2]), (4, [0, 2, 8]), (5, [0, 2]), (6, [0, 2]), (7, [0, 2, 14]), (8, [0, 2]), (9, [0, 2]), (10, [2])]),
 (109, [(0, [0, 2, 3, 4, 10]), (1, [0, 2, 3, 4, 10, 11]), (2, [0, 2, 3, 4, 10, 11, 18]), (3, [0, 2, 3, 4, 10, 11, 40]), (4, [0, 2, 3, 4, 10, 11]), (5, [0, 2, 3, 4, 10, 11, 58]), (6, [0, 2, 3, 4, 11]), (7, [0, 2, 3, 4, 10])]),
 (110, [(0, [0]), (1, [2])]),
 (111, [(0, [0]), (1, [0]), (2, [0]), (3, [0]), (4, [2])]),
 (112, [(0, [0, 1, 2, 3]), (1, [8])]),
 (113, [(0, [0, 1, 2, 3, 4, 5]), (1, [0, 1, 2, 3, 4, 5]), (2, [0, 1, 2, 4, 5]), (3, [2]), (4, [12])]),
 (114, [(0, [0, 1, 2, 3, 4]), (1, [1, 2, 3, 22]), (2, [1, 2]), (3, [10, 11]), (4, [10, 11])])]
def annJoin : List (Nat × List (Nat × List Nat)) := [(3, []),
 (4, [(8, [1, 3])]),
 (5, [(9, [1]), (21, [1, 4, 6])]),
 (6, [(29, [3, 4, 5, 7]), (43, [])]),
 (7, [(5, [1])]),
 (8, [(8, [1, 3])]),
 (9, [(35, [3, 4, 5]), (40, [3, 4, 5, 37, 38, 39]), (69, [3, 4, 5, 37, 38, 39])]),
 (10, [(6, [1])]),
 (11, [(10, [1, 2]), (13, [1, 2]), (17, [])]),
 (12, [(5, []), (9, []), (13, [])]),
 (13, []),
 (14, [(6, [1])]),
 (15, []),
 (16, [(10, [1, 3, 4, 5]), (12, [1, 3, 4, 5]), (14, [1, 3, 4, 5]), (22, [1, 3, 4, 5]), (30, [1, 3, 4, 5]), (38, [1, 3, 4, 5]), (40, [1, 3, 4, 5]), (46, [3, 4, 5, 43, 44, 45]), (51, [3, 4, 5, 7, 43, 44, 45])]),
 (17, [(15, [0, 1, 4]), (19, [0, 1, 4]), (29, [4, 7]), (34, [4, 7])]),
 (18, []),
 (19, [(9, [2, 3]), (19, [2, 3])]),
 (20, [(7, [2, 3]), (19, [2, 3]), (42, [2, 3, 5]), (57, [2, 3, 5]), (65, [2, 3])]),
 (21, [(5, [1])]),
 (22, [(5, [1])]),
 (23, [(5, [1])]),
 (24, []),
 (25, []),
 (26, []),
 (27, []),
 (28, [(10, [1, 3, 7, 8, 9]), (20, [3])]),
 (29, [(10, [1, 2]), (15, [1, 12, 13, 14]), (20, [1, 12, 13, 14])]),
 (30, [(12, [1, 3, 4, 9, 10, 11]), (28, [3, 4, 27, 28]), (31, []), (34, [3, 4, 27, 34]), (38, [])]),
 (31, [(5, [1, 2])]),
 (32, [(22, [1, 2, 3, 19, 20, 21]), (45, [2, 9, 10]), (51, [2, 3, 9]), (61, [2, 9, 10]), (66, [2, 3, 9]), (76, [2, 3, 9]), (88, [2, 9, 10]), (97, [2, 6, 9, 10, 94, 95, 96]), (102, [2, 6, 9, 10, 13, 94, 95, 96]), (106, [2, 6, 9, 10, 94, 95, 96]), (114, [2, 9, 10]), (122, [2, 8, 9, 10, 119, 120, 121]), (126, [2, 8, 9, 10, 15, 119, 120, 121]), (130, [2, 8, 9, 10, 119, 120, 121]), (137, [2, 9, 10]), (146, [2, 6, 9, 10, 143, 144, 145]), (151, [2, 6, 9, 10, 17, 143, 144, 145]), (155, [2, 6, 9, 10, 143, 144, 145]), (165, [2, 9]), (168, [2, 9])]),
 (33, []),
 (34, []),
 (35, [(9, [1, 2]), (27, [1, 2]), (30, [1, 2, 29, 30]), (37, [1, 2, 29, 37]), (44, [1, 2]), (45, [1, 2, 45]), (51, [1, 2]), (56, [1, 53, 54, 55]), (62, [1, 53, 54, 55])]),
 (36, []),
 (37, []),
 (38, [(26, [1, 2, 5, 6, 20, 26]), (32, [1, 2, 5, 6, 32]), (39, [1, 2, 5, 6]), (63, [1, 2, 5, 7])]),
 (39, []),
 (40, [(6, []), (10, []), (14, []), (22, []), (28, []), (34, []), (40, []), (48, [])]),
 (41, []),
 (42, [(9, [2])]),
 (43, [(18, [4, 5, 6])]),
 (44, [(11, [0, 1, 6]), (12, []), (13, [0, 1]), (16, [0, 1]), (19, [])]),
 (45, [(14, [0, 1, 2, 11, 12, 13]), (21, [0, 1, 2, 7, 8, 11, 12, 13]), (31, [0, 1, 2, 11, 12, 13]), (38, [])]),
 (46, [(3, [])]),
 (47, [(10, [3, 7, 8, 9])]),
 (48, [(10, [3, 7, 8, 9])]),
 (49, [(10, [1, 3, 7, 8, 9]), (20, [3])]),
 (50, [(7, [1, 6, 7]), (10, []), (15, [1, 6, 15]), (22, [19, 20, 21]), (27, [19, 20, 21]), (29, [])]),
 (51, [(20, [1, 2, 6, 7, 8])]),
 (52, [(9, [1, 2]), (23, [1, 2, 3, 20, 21, 22])]),
 (53, []),
 (54, [(11, [0, 5, 8, 9, 10]), (17, [0, 5, 8, 9, 10])]),
 (55, [(19, [0, 3, 5]), (33, [0, 3, 5])]),
 (56, [(16, [1, 2, 3]), (26, [1, 2, 23, 24, 25]), (34, [1, 2, 23, 24, 25])]),
 (57, []),
 (58, [(13, [0, 2, 3, 10, 11, 12]), (18, [0, 2, 3, 9, 10, 11, 12]), (26, [0, 2, 3, 9, 10, 11, 12])]),
 (59, [(4, []), (6, []), (8, []), (10, []), (12, [])]),
 (61, []),
 (62, [(24, [0]), (41, [0])]),
 (64, []),
 (65, []),
 (66, [(7, [0, 1, 4]), (11, [0, 1, 4]), (15, [0, 1, 4]), (21, [0, 1, 4]), (27, [4]), (37, [4, 5]), (45, [4]), (47, [4, 5]), (57, [4, 5])]),
 (68, []),
 (69, [(4, []), (6, []), (8, []), (10, []), (12, [])]),
 (70, [(16, [0, 1, 2, 3, 8, 9])]),
 (71, []),
 (72, [(9, [0, 1, 7, 8]), (16, [0, 1, 7, 8])]),
 (73, [(5, [0, 2])]),
 (74, [(5, [0, 2])]),
 (75, [(5, [0, 2])]),
 (76, []),
 (77, []),
 (79, [(7, [0, 1, 4])]),
 (80, [(8, [0, 2, 3])]),
 (81, []),
 (82, [(12, [0, 1, 5]), (19, [0, 1, 5, 6]), (29, [0, 1, 5, 6])]),
 (83, [(11, [0, 5, 8, 9, 10]), (17, [0, 5, 8, 9, 10])]),
 (84, []),
 (85, [(9, [0, 1, 6]), (12, [0, 1, 6])]),
 (86, []),
 (87, []),
 (88, []),
 (89, [(5, [0, 2])]),
 (90, []),
 (91, []),
 (92, [(10, [0, 1]), (15, [0, 1, 5]), (28, [0, 1, 5]), (35, [0, 1, 5, 6, 7]), (49, [0, 1, 5, 6, 7])]),
 (93, []),
 (94, [(8, [0, 2, 3])]),
 (95, []),
 (96, [(25, [0, 1, 2, 3, 4, 10, 11, 12]), (32, [0, 1, 2, 3, 4, 10, 11, 12]), (39, [0, 1, 2, 3, 4, 10, 11, 12]), (56, [0, 1, 2, 3, 4, 10, 11, 12, 13, 14]), (75, [0, 1, 2, 3, 4, 10, 11, 12, 13]), (80, [0, 1, 2, 3, 4, 10, 11, 12, 13]), (97, [0, 1, 2, 3, 4, 12, 13]), (125, [0, 1, 2, 3, 4, 10, 11])]),
 (97, []),
 (98, [(9, [0, 2, 3]), (13, [0, 2, 3]), (17, [0, 2, 3]), (26, [0, 2, 3]), (40, [0, 2, 3])]),
 (99, [(14, [0, 1, 2, 3, 8]), (34, [0, 1, 2, 3, 8, 9])]),
 (100, [(21, [0, 3, 8, 9, 10, 11]), (33, [0, 3, 8, 9, 12])]),
 (101, [(17, []), (35, [0, 1, 8, 9, 10, 11]), (45, [0, 1, 8, 9, 10, 11, 12])]),
 (102, [(34, [11, 13]), (36, [0, 3, 11, 12, 13, 14]), (57, [8, 9]), (60, [8, 9])]),
 (103, [(15, [0, 8, 9])]),
 (104, [(16, [0, 1, 2, 3, 9, 10]), (36, [0, 1, 2, 3, 9, 10]), (41, [0, 1, 2, 3, 9, 10]), (45, [0, 1, 2, 3, 9, 10]), (65, [0, 1, 2, 3, 9, 10]), (69, [0, 1, 2, 3, 9, 10, 11]), (84, [0, 1, 2, 3, 9, 10, 11]), (104, [0, 1, 2, 3, 9, 10]), (109, [0, 1, 2, 3, 9, 10, 12]), (124, [0, 1, 2, 3, 9, 10, 12])]),
 (105, [(47, [0, 1, 4, 11, 12]), (65, [0, 1, 4, 11, 12]), (70, [0, 1, 4, 11, 12])]),
 (106, [(47, [0, 1, 4, 12, 13]), (66, [0, 1, 4, 12, 13]), (71, [0, 1, 4, 12, 13]), (120, [0, 1, 4, 12, 13]), (139, [0, 1, 4, 12, 13]), (144, [0, 1, 4, 12, 13])]),
 (108, [(4, [0, 2]), (8, [0, 2]), (14, [0, 2])]),
 (109, [(18, [0, 2, 3, 4, 10, 11]), (40, [0, 2, 3, 4, 10, 11]), (58, [0, 2, 3, 4, 10, 11])]),
 (110, []),
 (111, []),
 (112, []),
 (113, []),
 (114, [(22, [1, 2])])]
def annBlk : List (Nat × List (Nat × List Nat)) := [(3, []),
 (4, []),
 (5, []),
 (6, []),
 (7, []),
 (8, []),
 (9, [(0, [3, 4, 5]), (1, [3, 4, 5, 37, 38, 39])]),
 (10, []),
 (11, []),
 (12, [(0, [])]),
 (13, []),
 (14, []),
 (15, []),
 (16, [(0, [1, 3, 4, 5]), (1, [3]), (2, [3, 4, 5, 43, 44, 45])]),
 (17, []),
 (18, []),
 (19, []),
 (20, [(0, [2, 3]), (1, [2, 3]), (2, [2, 3, 5])]),
 (21, []),
 (22, []),
 (23, []),
 (24, []),
 (25, []),
 (26, []),
 (27, []),
 (28, [(0, [1, 3]), (1, [1, 3, 7, 8, 9])]),
 (29, [(0, []), (1, [1, 12, 13, 14])]),
 (30, [(0, [1, 3, 4]), (1, [1, 3, 4, 9, 10, 11]), (2, [])]),
 (31, []),
 (32, [(0, [1, 2, 3]), (1, [1, 2, 3, 19, 20, 21]), (2, [2, 9, 10]), (3, [2, 3, 9]), (4, [2, 9, 10]), (5, [2, 6, 9, 10, 94, 95, 96]), (6, [2, 9, 10]), (7, [2, 8, 9, 10, 119, 120, 121]), (8, [2, 9, 10]), (9, [2, 6, 9, 10, 143, 144, 145]), (10, [2, 9])]),
 (33, []),
 (34, []),
 (35, [(0, [1, 2]), (1, []), (2, [1, 53, 54, 55])]),
 (36, []),
 (37, []),
 (38, [(0, [1, 2, 5, 6]), (1, [6]), (2, [1, 2, 5, 6, 7])]),
 (39, []),
 (40, [(0, [])]),
 (41, []),
 (42, []),
 (43, []),
 (44, []),
 (45, [(0, [0, 1]), (1, [0, 1, 2, 11, 12, 13])]),
 (46, []),
 (47, [(0, [3]), (1, [3, 7, 8, 9])]),
 (48, [(0, [3]), (1, [3, 7, 8, 9])]),
 (49, [(0, [1, 3]), (1, [1, 3, 7, 8, 9])]),
 (50, [(0, []), (1, []), (2, [19, 20, 21])]),
 (51, [(0, [6, 7]), (1, [1, 2, 6, 7, 8])]),
 (52, [(0, [1, 2, 3]), (1, [1, 2, 3, 20, 21, 22])]),
 (53, []),
 (54, [(0, [5]), (1, [0, 5, 8, 9, 10])]),
 (55, [(0, [0, 3, 5]), (1, [0, 3, 5])]),
 (56, [(0, []), (1, [1, 2, 23, 24, 25])]),
 (57, []),
 (58, [(0, []), (1, [0, 2, 3, 10, 11, 12])]),
 (59, [(0, [])]),
 (61, []),
 (62, [(0, [0]), (1, [0])]),
 (64, []),
 (65, []),
 (66, [(0, [0, 1, 4]), (1, [4]), (2, [4, 5])]),
 (68, []),
 (69, [(0, [])]),
 (70, [(0, [1, 8, 9]), (1, [0, 1, 2, 3, 8, 9])]),
 (71, []),
 (72, [(0, []), (1, [0, 1, 7, 8])]),
 (73, []),
 (74, []),
 (75, []),
 (76, []),
 (77, []),
 (79, []),
 (80, [(0, [2, 3]), (1, [0, 2, 3])]),
 (81, []),
 (82, [(0, [0, 5]), (1, [0, 1, 5, 6])]),
 (83, [(0, [5]), (1, [0, 5, 8, 9, 10])]),
 (84, []),
 (85, [(0, [0, 1, 6])]),
 (86, []),
 (87, []),
 (88, []),
 (89, []),
 (90, []),
 (91, []),
 (92, [(0, [0]), (1, [0, 1, 5]), (2, [0, 5]), (3, [0, 1, 5, 6, 7])]),
 (93, []),
 (94, [(0, [2, 3]), (1, [0, 2, 3])]),
 (95, []),
 (96, [(0, []), (1, [0, 1, 2, 3, 4, 10, 11])]),
 (97, []),
 (98, [(0, [0, 2, 3])]),
 (99, [(0, []), (1, [0, 1, 2, 3, 8]), (2, [0, 1, 2, 3, 8]), (3, [0, 1, 2, 3, 8, 9])]),
 (100, [(0, [0, 3, 8, 9, 10]), (1, [0, 3, 8, 9, 10, 11]), (2, []), (3, [0, 3, 8, 9, 12])]),
 (101, [(0, []), (1, [0, 1, 8, 9, 10, 11])]),
 (102, [(0, [8, 9])]),
 (103, [(0, []), (1, [0, 8, 9])]),
 (104, [(0, []), (1, [0, 1, 2, 3, 9, 10]), (2, [0, 1, 2, 3, 9, 10]), (3, [0, 1, 2, 3, 9, 10]), (4, [0, 1, 2, 3, 9, 10]), (5, [0, 1, 2, 3, 9, 10, 11]), (6, [0, 1, 2, 3, 9, 10]), (7, [0, 1, 2, 3, 9, 10, 12])]),
 (105, [(0, [11]), (1, [0, 1, 4, 11, 12]), (2, [0, 1, 4, 11, 12]), (3, [0, 1, 4, 11, 12]), (4, [0, 1, 4, 11, 12]), (5, [0, 1, 4, 11, 12])]),
 (106, [(0, [0, 1, 4, 12, 13]), (1, [0, 1, 4, 12, 13]), (2, [0, 1, 4, 12, 13]), (3, [0, 1, 4, 12, 13]), (4, [0, 1, 13]), (5, [0, 1, 4, 12, 13]), (6, [0, 1, 4, 12, 13]), (7, [0, 1, 4, 12, 13]), (8, [0, 1, 4, 12, 13]), (9, [0, 1, 4, 12, 13])]),
 (108, []),
 (109, [(0, []), (1, [0, 2, 3, 4, 10])]),
 (110, []),
 (111, []),
 (112, []),
 (113, []),
 (114, [])]
def annPur : List (Nat × List (Nat × List Nat)) := [(32, [(37, [9]), (47, [9]), (55, [9])]),
 (94, [(1, [3]), (2, [3]), (3, [3]), (4, [3])]),
 (98, [(1, [3]), (2, [3]), (3, [3]), (4, [3]), (5, [3]), (6, [3]), (7, [3]), (8, [3]), (9, [3]), (10, [3]), (11, [3]), (12, [3]), (13, [3]), (14, [3]), (15, [3])])]
def annOutp : List (Nat × List Nat) := [(17, [0]),
 (31, [0]),
 (32, [0]),
 (52, [0]),
 (55, [0]),
 (66, [0]),
 (73, [0]),
 (74, [0]),
 (75, [0]),
 (89, [0])]
def annCk : List (Nat × List (Nat × List (Nat × Nat))) := [(3, [(1, [(2, 11), (5, 12), (8, 13)])]),
 (4, [(1, [(1, 14)]), (2, [(1, 15)]), (3, [(3, 13)]), (4, [(2, 16), (5, 13)])]),
 (5, [(1, [(1, 15)]), (2, [(0, 13)]), (3, [(1, 14)]), (4, [(1, 17)]), (6, [(3, 13)]), (7, [(5, 18), (8, 13)])]),
 (6, [(1, [(2, 19)]), (2, [(3, 20), (8, 19), (16, 19)]), (4, [(5, 19), (11, 19)]), (6, [(0, 13)])]),
 (7, [(1, [(1, 15)]), (2, [(1, 21), (5, 22), (10, 23), (15, 24), (20, 25), (24, 13)]), (3, [(1, 21), (3, 26), (7, 22), (9, 27), (14, 23), (16, 28), (21, 24), (23, 29), (29, 25), (31, 30), (35, 13)])]),
 (8, [(1, [(1, 31)]), (2, [(1, 15)]), (3, [(2, 18), (4, 13)]), (4, [(2, 32), (3, 18), (5, 13)])]),
 (9, [(1, [(1, 33), (5, 33), (10, 33), (15, 27), (17, 27), (19, 27)]), (2, [(0, 13)]), (6, [(6, 31)]), (7, [(10, 31)]), (8, [(1, 11), (6, 18)]), (11, [(7, 31)]), (12, [(7, 31)]), (13, [(2, 18), (4, 13)])]),
 (10, [(1, [(1, 15)]), (2, [(0, 13)]), (3, [(1, 31)]), (4, [(1, 11), (5, 21), (7, 21), (12, 31), (14, 18), (17, 13)])]),
 (11, [(3, [(1, 34)]), (5, [(2, 35)])]),
 (12, [(1, [(1, 36)]), (3, [(1, 37)]), (5, [(2, 38)])]),
 (13, [(1, [(0, 17)]), (2, [(19, 14)])]),
 (14, [(1, [(1, 39)]), (4, [(1, 40)]), (5, [(0, 41)])]),
 (15, [(1, [(1, 12)])]),
 (16, [(11, [(4, 42)]), (13, [(4, 42)]), (23, [(3, 42)])]),
 (17, [(5, [(2, 43)]), (8, [(1, 34)])]),
 (18, [(1, [(2, 20)])]),
 (19, [(2, [(4, 44)]), (4, [(4, 44)]), (5, [(4, 45)])]),
 (20, [(2, [(5, 46)]), (4, [(5, 46)]), (8, [(10, 20)]), (13, [(7, 46)])]),
 (21, [(1, [(1, 39)]), (3, [(1, 47)])]),
 (22, [(1, [(1, 39)]), (3, [(1, 48)])]),
 (23, [(1, [(1, 39)]), (3, [(1, 49)])]),
 (24, [(1, [(1, 39), (4, 49)])]),
 (25, [(1, [(1, 39), (4, 50)])]),
 (26, [(1, [(1, 51)])]),
 (27, [(1, [(1, 51)])]),
 (28, [(5, [(2, 28)])]),
 (29, [(6, [(2, 29)])]),
 (30, [(5, [(1, 30)])]),
 (31, [(1, [(1, 39)]), (3, [(1, 52)])]),
 (32, [(5, [(2, 32)]), (22, [(5, 53)]), (28, [(3, 54)]), (37, [(3, 54)]), (40, [(1, 53)]), (43, [(3, 55)]), (47, [(3, 54)]), (52, [(1, 53)]), (53, [(3, 55)])]),
 (33, [(1, [(1, 15), (4, 26), (10, 27)])]),
 (34, [(2, [(1, 56)])]),
 (35, [(22, [(2, 35)])]),
 (37, [(1, [(1, 51)])]),
 (38, [(18, [(6, 38)])]),
 (39, [(1, [(1, 11)])]),
 (40, [(3, [(1, 57)]), (5, [(1, 57)]), (7, [(5, 57)]), (9, [(3, 58)]), (11, [(3, 58)]), (13, [(3, 58)]), (15, [(1, 57)]), (16, [(3, 58)]), (18, [(3, 58)]), (19, [(1, 57)])]),
 (42, [(1, [(2, 59)]), (2, [(1, 16)]), (3, [(1, 16)])]),
 (43, [(3, [(0, 61)]), (4, [(0, 62)])]),
 (44, [(1, [(1, 64)]), (2, [(1, 64)])]),
 (45, [(7, [(3, 19)])]),
 (47, [(5, [(2, 47)])]),
 (48, [(5, [(2, 48)])]),
 (49, [(5, [(2, 49)])]),
 (50, [(6, [(2, 138)]), (12, [(1, 50)]), (17, [(9, 50)])]),
 (51, [(5, [(6, 51)])]),
 (52, [(7, [(3, 52)]), (9, [(3, 66)])]),
 (55, [(2, [(9, 20)]), (4, [(9, 20)])]),
 (56, [(7, [(4, 56)])]),
 (58, [(4, [(2, 68)]), (5, [(2, 69)]), (6, [(2, 40)]), (7, [(1, 57)]), (8, [(2, 40)]), (9, [(1, 57)])]),
 (61, [(1, [(3, 70)])]),
 (65, [(1, [(2, 72)])]),
 (66, [(3, [(1, 73)]), (5, [(1, 74)]), (7, [(1, 75)]), (18, [(0, 76)]), (19, [(5, 77)])]),
 (70, [(1, [(1, 71)]), (2, [(1, 62)]), (4, [(2, 71)]), (5, [(2, 79)])]),
 (71, [(1, [(3, 132)])]),
 (72, [(4, [(5, 84)])]),
 (73, [(1, [(1, 133)]), (2, [(0, 81)]), (3, [(1, 83), (2, 137)]), (4, [(1, 86), (2, 87), (3, 85)])]),
 (74, [(1, [(1, 65)]), (2, [(0, 87)]), (3, [(1, 83), (2, 135)]), (4, [(1, 76), (2, 85)])]),
 (75, [(1, [(1, 65)]), (2, [(0, 87)]), (3, [(1, 83), (2, 82)]), (4, [(1, 86), (2, 81), (3, 85)])]),
 (77, [(1, [(14, 84)])]),
 (80, [(1, [(1, 89)]), (2, [(1, 90)]), (3, [(2, 89)]), (4, [(1, 79)])]),
 (81, [(1, [(0, 87)])]),
 (82, [(1, [(2, 134)]), (8, [(2, 77)])]),
 (86, [(1, [(1, 91)]), (2, [(1, 92)])]),
 (89, [(1, [(1, 62)]), (2, [(1, 94)]), (4, [(1, 89)])]),
 (90, [(1, [(1, 62)]), (2, [(17, 95)])]),
 (91, [(1, [(4, 97), (6, 96)])]),
 (92, [(6, [(10, 93)]), (11, [(10, 93)])]),
 (93, [(1, [(2, 19)])]),
 (94, [(1, [(1, 98)]), (2, [(1, 62)])]),
 (96, [(4, [(4, 99)]), (6, [(4, 100)]), (8, [(4, 101)]), (10, [(4, 102)]), (12, [(4, 103)]), (16, [(4, 104)]), (17, [(13, 19)]), (18, [(5, 105)]), (20, [(5, 106)]), (26, [(5, 96)]), (29, [(6, 96)])]),
 (97, [(2, [(1, 108)])]),
 (98, [(2, [(1, 62)]), (8, [(2, 95)]), (12, [(1, 61)]), (13, [(1, 62)])]),
 (99, [(4, [(14, 19)])]),
 (100, [(6, [(5, 109)]), (11, [(5, 109)])]),
 (101, [(3, [(1, 110)]), (7, [(0, 111)])]),
 (102, [(8, [(3, 112)]), (9, [(3, 112)]), (10, [(3, 112)]), (11, [(5, 113)])]),
 (104, [(5, [(14, 19)]), (16, [(10, 19)]), (22, [(10, 19)])]),
 (105, [(3, [(13, 19)]), (5, [(13, 19)])]),
 (106, [(3, [(13, 19)]), (5, [(13, 19)]), (13, [(13, 19)]), (15, [(13, 19)])]),
 (109, [(3, [(19, 19)]), (5, [(13, 19)])]),
 (110, [(1, [(2, 97)])]),
 (112, [(1, [(8, 113)])]),
 (113, [(1, [(5, 114)]), (2, [(5, 114)]), (3, [(5, 114)])]),
 (114, [(1, [(9, 19)])]),
 (132, [(1, [(1, 80)]), (2, [(1, 62)]), (4, [(2, 80)]), (5, [(2, 79)])]),
 (133, [(1, [(2, 134)])]),
 (134, [(4, [(5, 77)])]),
 (135, [(1, [(2, 136)]), (8, [(2, 88)])]),
 (136, [(4, [(5, 88)])]),
 (137, [(1, [(2, 72)]), (8, [(2, 84)])]),
 (138, [(1, [(2, 139)])]),
 (139, [(4, [(5, 50)])])]
def annShp : List (Nat × List (Nat × (Shape × List (Out × Shape)))) := [(9, [(65, S9_65)]),
 (16, [(623, S16_623), (831, S16_831), (305, S16_305)]),
 (20, [(97, S20_97)]),
 (28, [(49, S28_49)]),
 (29, [(65, S29_65)]),
 (30, [(49, S30_49)]),
 (32, [(49, S32_49), (465, S32_465), (609, S32_609), (769, S32_769)]),
 (35, [(321, S35_321)]),
 (38, [(639, S38_639), (257, S38_257)]),
 (40, [(463, S40_463), (367, S40_367), (239, S40_239), (175, S40_175), (111, S40_111)]),
 (45, [(33, S45_33)]),
 (47, [(49, S47_49)]),
 (48, [(49, S48_49)]),
 (49, [(49, S49_49)]),
 (50, [(161, S50_161)]),
 (51, [(49, S51_49)]),
 (52, [(81, S52_81)]),
 (54, [(49, S54_49)]),
 (55, [(33, S55_33)]),
 (56, [(81, S56_81)]),
 (58, [(303, S58_303), (17, S58_17)]),
 (62, [(17, S62_17)]),
 (70, [(33, S70_33)]),
 (72, [(33, S72_33)]),
 (80, [(33, S80_33)]),
 (82, [(81, S82_81)]),
 (83, [(49, S83_49)]),
 (92, [(145, S92_145), (65, S92_65)]),
 (94, [(33, S94_33)]),
 (96, [(639, S96_639), (911, S96_911), (1215, S96_1215), (33, S96_33)]),
 (98, [(223, S98_223), (159, S98_159)]),
 (99, [(65, S99_65), (17, S99_17)]),
 (100, [(65, S100_65), (129, S100_129)]),
 (101, [(735, S101_735), (81, S101_81)]),
 (102, [(591, S102_591), (559, S102_559)]),
 (103, [(33, S103_33)]),
 (104, [(81, S104_81), (225, S104_225), (1055, S104_1055), (321, S104_321), (49, S104_49)]),
 (105, [(49, S105_49), (81, S105_81), (50, S105_50)]),
 (106, [(49, S106_49), (81, S106_81), (209, S106_209), (241, S106_241), (210, S106_210)]),
 (108, [(79, S108_79), (143, S108_143)]),
 (109, [(655, S109_655), (17, S109_17)]),
 (132, [(33, S132_33)]),
 (134, [(33, S134_33)]),
 (135, [(81, S135_81)]),
 (136, [(33, S136_33)]),
 (137, [(81, S137_81)]),
 (139, [(33, S139_33)])]
def annNst : List (Nat × List (Nat × List Nat)) := [(82, [(12, [41])]),
 (92, [(15, [64])]),
 (135, [(12, [41])]),
 (137, [(12, [41])])]
def annF (k : Nat) : FuncId := (lookupN annFid k).getD 0
def ann : Ann where
  fid := annF
  sin := fun k => (lookupN annSin k).getD ⟨[], []⟩
  sout := fun k => (lookupN annSout k).getD ⟨[], []⟩
  live := fun k r => (lookupN ((lookupN annLive (annF k)).getD []) r).getD []
  join := fun k r => (lookupN ((lookupN annJoin (annF k)).getD []) r).getD []
  blk := fun k r => (lookupN ((lookupN annBlk (annF k)).getD []) r).getD []
  pur := fun k r => (lookupN ((lookupN annPur k).getD []) r).getD []
  outp := fun k => (lookupN annOutp k).getD []
  alt := fun k => lookupN annAlt k
  nst := fun k r => (lookupN ((lookupN annNst k).getD []) r).getD []
  ck := fun k r i => (lookupN ((lookupN ((lookupN annCk k).getD []) r).getD []) i).getD 0
  shp := fun k x => lookupN ((lookupN annShp k).getD []) x
  nstNow := []
  ckNow := fun _ => 0
  ext := fun f => bif Nat.beq f 67 then some 43 else none
  cln := fun f => none
  idle := fun f => Nat.beq f 60
  mv := fun k => (lookupN ([(40, [1]), (41, [1]), (57, [1]), (58, [1]), (68, [1])] : List (Nat × List Nat)) k).getD []
  glob := fun g => .undef
noncomputable abbrev PG : Program := Try.prog
noncomputable abbrev CC : CallF := Call Try.prog ann
end Go.AM
set_option maxRecDepth 100000
set_option linter.unusedVariables false
namespace Go.AM
open Go.Proofs Go.RowKit
theorem sz_le (args : Array Value) (n : Nat) : n ≤ (args ++ Array.replicate (n - args.size) undef).size := by simp; omega
def opsOf : Code → Array Oper
  | .region _ ops _ => ops
  | _ => #[]
def ridOf : Code → Nat
  | .region id _ _ => id
  | _ => 0
section
variable {P : Program} {ops : Array Oper} {Q : Exit → Act → List Frame → World → Prop} {a : Act} {cs : List Frame} {w : World} {i : Nat} {rest : List Nat} {o : Oper}
theorem opsS_rec (ho : ops[i]? = some o) (hg : o.guard = none) (he : (execOp a.eval o).run P w = .ok .recover w) (hr : recoverD cs = none) (h : wpOpsS P ops Q rest (a.put o.dst .nilIface) cs w) : wpOpsS P ops Q (i :: rest) a cs w := by
  simp only [wpOpsS, ho, Region.wanted, hg, if_true, he, hr]
  exact h
theorem opsS_val {v : Value} (ho : ops[i]? = some o) (hg : o.guard = none) (he : (execOp a.eval o).run P w = .ok (.value v) w) (h : wpOpsS P ops Q rest (a.put o.dst v) cs w) : wpOpsS P ops Q (i :: rest) a cs w := by
  simp only [wpOpsS, ho, Region.wanted, hg, if_true, he, Oper.upon_value]
  exact h
end
theorem neq_nil (w : World) : (binOp .neq 20 .nilIface .nilIface).run Try.prog w = .ok (.bool false) w := by
  have hd : Try.prog.underlying 20 = some (.interface #[]) := by kernel_rfl
  have h0 : ∀ k : Nat, (Op.equalIn (k + 1) 20 .nilIface .nilIface).run Try.prog w = .ok true w := fun k => by simp [Op.equalIn, run_underlying hd]
  simp only [binOp]
  simp [Op.equal, Op.maxDepth, h0 9999]
theorem idle_0 (args : Array Value) (w : World) : CallsD Try.prog 60 args .returning w fun e u' w' => (∃ v, e = .returned v) ∧ u' = .returning ∧ w' = w := by
  refine callsD_of_wpS (c := (bodyOf Try.prog 60)) Try.func60 (by kernel_rfl) fun c₀ cs hu => ?_
  rw [show Try.f60.ntmps = 20 by kernel_rfl]
  have hsz := sz_le args 20
  generalize args ++ Array.replicate (20 - args.size) undef = tm at hsz
  have hb : bodyOf Try.prog 60 = .seq (.region (ridOf (codeAt [0] (bodyOf Try.prog 60))) (opsOf (codeAt [0] (bodyOf Try.prog 60))) false) (.seq (.region (ridOf (codeAt [1, 0] (bodyOf Try.prog 60))) (opsOf (codeAt [1, 0] (bodyOf Try.prog 60))) false) (.cond (.tmp 8) (codeAt [1, 1, 0] (bodyOf Try.prog 60)) .skip)) := by kernel_rfl
  have hr : recoverD (c₀ :: cs) = none := by simp [recoverD, hu]
  have o0 : (opsOf (codeAt [0] (bodyOf Try.prog 60))).map (fun o => (o.dst, o.op, o.guard)) = #[(some 6, .call ⟨.builtin .recover, #[], #[]⟩, none), (some 3, .assign (.tmp 6), none)] := by kernel_rfl
  have o1 : (opsOf (codeAt [1, 0] (bodyOf Try.prog 60))).map (fun o => (o.dst, o.op, o.guard)) = #[(some 7, .move (.tmp 3), none), (some 8, .binOp .neq 20 (.tmp 7) (.const .nilIface) 20, none)] := by kernel_rfl
  rw [hb]
  generalize opsOf (codeAt [0] (bodyOf Try.prog 60)) = ops0 at o0 ⊢
  generalize opsOf (codeAt [1, 0] (bodyOf Try.prog 60)) = ops1 at o1 ⊢
  generalize codeAt [1, 1, 0] (bodyOf Try.prog 60) = c2
  have get : ∀ (ops : Array Oper) (l : Array (Option Nat × Op × Option (Nat × Bool))), ops.map (fun o => (o.dst, o.op, o.guard)) = l → ops.size = l.size ∧ ∀ (i : Nat) d p g, l[i]? = some (d, p, g) → ∃ o, ops[i]? = some o ∧ o.dst = d ∧ o.op = p ∧ o.guard = g := by
    intro ops l h
    subst h
    refine ⟨by simp, fun i d p g h => ?_⟩
    rw [Array.getElem?_map] at h
    cases ho : ops[i]? with
    | none => rw [ho] at h; cases h
    | some o => rw [ho] at h; simp at h; exact ⟨o, rfl, h⟩
  obtain ⟨s0, g0⟩ := get _ _ o0
  obtain ⟨s1, g1⟩ := get _ _ o1
  obtain ⟨x0, a0, b0, c0, d0⟩ := g0 0 _ _ _ rfl
  obtain ⟨x1, a1, b1, c1, d1⟩ := g0 1 _ _ _ rfl
  obtain ⟨y0, e0, f0, p0, q0⟩ := g1 0 _ _ _ rfl
  obtain ⟨y1, e1, f1, p1, q1⟩ := g1 1 _ _ _ rfl
  refine wpS_seq (wpS_region ?_)
  rw [s0]
  change wpOpsS _ _ _ [0, 1] _ _ _
  refine opsS_rec a0 d0 (by simp [execOp, c0, resolve, invoke, builtin]) hr ?_
  refine opsS_val (v := .nilIface) a1 d1 ?_ ?_
  · simp [execOp, c1, Act.eval, Act.put, b0, show 6 < tm.size by omega]
  rw [b0, b1]
  change Exit.thenS _ _ .normal _ _ _
  simp only [Exit.thenS]
  refine wpS_seq (wpS_region ?_)
  rw [s1]
  change wpOpsS _ _ _ [0, 1] _ _ _
  refine opsS_val (v := .nilIface) e0 q0 ?_ ?_
  · simp [execOp, p0, Act.eval, Act.put, show 3 < tm.size by omega]
  rw [f0]
  refine opsS_val (v := .bool false) e1 q1 ?_ ?_
  · simp [execOp, p1, Act.eval, Act.put, show 7 < tm.size by omega]
    simp [eqGuard, neq_nil]
  rw [f1]
  change Exit.thenS _ _ .normal _ _ _
  simp only [Exit.thenS]
  refine wpS_cond (t := false) (by simp [Act.eval, Act.put, show 8 < tm.size by omega]) ?_
  simp only [Bool.false_eq_true, if_false]
  refine wpS_of_wp (wp_skip ?_)
  refine ⟨rfl, .returning, by rw [← hu], .tuple #[], ?_, ⟨_, rfl⟩, rfl, rfl⟩
  simp [results, show Try.f60.results = #[] by kernel_rfl]
end Go.AM
set_option maxRecDepth 100000
namespace Go.AM
open Go.Proofs Go.RowKit
theorem cln_ok (hP : NoCount PG) (f : FuncId) (e : TypeId) (h : ann.cln f = some e) : CloneOk PG f e := by
  have h1 : ann.cln f = none := by kernel_rfl
  rw [h1] at h
  cases h
end Go.AM
set_option maxRecDepth 100000
set_option linter.unusedVariables false
namespace Go.AM
open Go.Proofs Go.RowKit
theorem setCell_heap {w : World} {b : Nat} {C : Array Value} {T : TypeId} (h : w.heap[b]? = some (.cells C T (0, 0))) : w.shape? b = some (T, C.size) ∧ w.frozen? ⟨b, 0, none⟩ = false ∧ w.cell? ⟨b, 0, none⟩ = C[0]? := by
  refine ⟨by simp [World.shape?, h], by simp [World.frozen?, h], cell?_cells h⟩
set_option maxHeartbeats 1000000 in
theorem copy_used (b : Nat) (w : World) (h0 : w.cell? ⟨b, 0, none⟩ = some (.pointer (some ⟨b, 0, none⟩))) :
    Calls Try.prog 67 #[.pointer (some ⟨b, 0, none⟩)] w fun e w' => e = .returned (.tuple #[]) ∧ w' = w := by
  obtain ⟨j, hj⟩ := Option.isSome_iff_exists.1 (show (Try.prog.info? 43).isSome = true by kernel_rfl)
  have hu : Try.prog.underlying 40 = some (.pointer 43) := by kernel_rfl
  go_enter Try.func67, Try.ntmps67
  go_wp2
  rw [Lib.run_neq_ptr_same w _ hu hj]
  go_wp2
  go_end0
  exact ⟨rfl, rfl⟩
set_option maxHeartbeats 1000000 in
theorem copy_fresh (b n : Nat) (w : World) (hn : 0 < n) (h0 : w.cell? ⟨b, 0, none⟩ = some (.pointer none)) (hsh : w.shape? b = some (43, n)) (hfz : w.frozen? ⟨b, 0, none⟩ = false) (hl : liesAt Try.prog Try.prog.depth 43 (n / Try.prog.cellsOf 43) 0 43 1 = true) :
    Calls Try.prog 67 #[.pointer (some ⟨b, 0, none⟩)] w fun e w' => e = .returned (.tuple #[]) ∧ w' = w.setCell ⟨b, 0, none⟩ (.pointer (some ⟨b, 0, none⟩)) := by
  obtain ⟨j, hj⟩ := Option.isSome_iff_exists.1 (show (Try.prog.info? 43).isSome = true by kernel_rfl)
  have hjs : j.size ≠ 0 := by
    have h2 : (Try.prog.info? 43).map (·.size) = some 2 := by kernel_rfl
    rw [hj] at h2
    simp at h2
    omega
  have hu : Try.prog.underlying 40 = some (.pointer 43) := by kernel_rfl
  have hu2 : Try.prog.underlying 79 = some .unsafePointer := by kernel_rfl
  go_enter Try.func67, Try.ntmps67
  go_wp2
  rw [Lib.run_to_unsafe w ⟨b, 0, none⟩ hu hu2 hj hjs hsh hn]
  simp only [Result.andThen]
  rw [Oper.upon_value]
  go_wp2
  rw [run_callFunc_extern Try.func78 (by kernel_rfl) (by kernel_rfl) (by kernel_rfl) (e := Extern.AbiNoEscape.same) (by kernel_rfl)]
  rw [Lib.run_noEscape]
  simp only [Result.andThen]
  rw [Oper.upon_value]
  go_wp2
  rw [Lib.run_from_unsafe w ⟨b, 0, none⟩ hu2 hu hj hsh hl]
  simp only [Result.andThen]
  rw [Oper.upon_value]
  go_wp2
  go_end0
  exact ⟨rfl, rfl⟩
theorem fine (hP : NoCount Try.prog) : Fine Try.prog ann where
  count := hP
  cln := cln_ok hP
  ext := by
    intro f T h b C w hh hs hc
    have hf : f = 67 ∧ T = 43 := by
      have h1 : ann.ext f = bif Nat.beq f 67 then some 43 else none := by kernel_rfl
      rw [h1] at h
      cases hb : Nat.beq f 67 with
      | true => rw [hb] at h; rw [Nat.beq_eq] at hb; exact ⟨hb, (Option.some.inj h).symm⟩
      | false => rw [hb] at h; cases h
    obtain ⟨rfl, rfl⟩ := hf
    obtain ⟨h1, h2, h3⟩ := setCell_heap hh
    refine ⟨MuLone.run_callFunc_enter Try.func67 (hP _ _ Try.func67) (by kernel_rfl : Try.f67.body = some (bodyOf Try.prog 67)) _ _, ?_⟩
    have hc2 : Try.prog.cellsOf 43 = 2 := by kernel_rfl
    rcases hc with hc | hc
    · refine (copy_fresh b C.size w (by omega) (h3.trans hc) h1 h2 (by rw [hs, hc2]; kernel_rfl)).mono ?_
      rintro e w' ⟨rfl, rfl⟩
      exact ⟨rfl, .inr rfl⟩
    · refine (copy_used b w (h3.trans hc)).mono ?_
      rintro e w' ⟨rfl, rfl⟩
      exact ⟨rfl, .inl rfl⟩
  idle := by
    intro f h
    have hf : f = 60 := by
      have h1 : ann.idle f = Nat.beq f 60 := by kernel_rfl
      rw [h1, Nat.beq_eq] at h
      exact h
    subst hf
    exact ⟨MuLone.run_callFunc_enter Try.func60 (hP _ _ Try.func60) (by kernel_rfl : Try.f60.body = some (bodyOf Try.prog 60)), idle_0⟩
end Go.AM
namespace Go.AM
theorem wrap_u64 (n : Int) : IntKind.u64.wrap n = n % 18446744073709551616 := by simp [IntKind.wrap, IntKind.bits, IntKind.signed]
theorem wrapu64 {A : Nat} (h : A < 2 ^ 64) : IntKind.wrap .u64 (A : Int) = A := by
  rw [wrap_u64]; omega
theorem bv_toNat {n A : Nat} (h : A < 2 ^ n) : (BitVec.ofInt n (A : Int)).toNat = A := by
  rw [BitVec.ofInt_natCast, BitVec.toNat_ofNat]; exact Nat.mod_eq_of_lt h
theorem bv_and {n A B : Nat} (hA : A < 2 ^ n) (hB : B < 2 ^ n) : (BitVec.ofInt n (A : Int) &&& BitVec.ofInt n (B : Int)).toNat = A &&& B := by
  rw [BitVec.toNat_and, bv_toNat hA, bv_toNat hB]
theorem u64_and {A B : Nat} (hA : A < 2 ^ 64) (hB : B < 2 ^ 64) : IntKind.wrap .u64 ((BitVec.ofInt (IntKind.bits .u64) (A : Int) &&& BitVec.ofInt (IntKind.bits .u64) (B : Int)).toNat) = ((A &&& B : Nat) : Int) := by
  rw [bv_and (n := IntKind.bits .u64) hA hB]
  exact wrapu64 (Nat.lt_of_le_of_lt Nat.and_le_left hA)
theorem u64_bit {m : Nat} (h : m < 64) : IntKind.wrap .u64 (1 * 2 ^ (min m (IntKind.bits .u64))) = ((2 ^ m : Nat) : Int) := by
  have e : min m (IntKind.bits .u64) = m := Nat.min_eq_left (by show m ≤ 64; omega)
  rw [e]
  have : (1 * 2 ^ m : Int) = ((2 ^ m : Nat) : Int) := by simp
  rw [this]
  exact wrapu64 (Nat.pow_lt_pow_right (by omega) h)
theorem u64_shr {A m : Nat} (h : m < 64) : Int.fdiv (A : Int) (2 ^ (min m (IntKind.bits .u64))) = ((A / 2 ^ m : Nat) : Int) := by
  have e : min m (IntKind.bits .u64) = m := Nat.min_eq_left (by show m ≤ 64; omega)
  rw [e]
  have : (2 ^ m : Int) = ((2 ^ m : Nat) : Int) := by simp
  rw [this, Int.fdiv_eq_ediv_of_nonneg _ (Int.natCast_nonneg _)]
  exact Int.natCast_ediv ..
end Go.AM
set_option maxRecDepth 100000
set_option linter.unusedSimpArgs false
namespace Go.AM
open Go.Proofs
theorem maxLen_le : maxLen ≤ 9223372036854775807 := by unfold maxLen; omega
theorem maxB : maxBytes = 35184372088832 := by unfold maxBytes; rfl
section
variable {α β : Type} {o : Option α} {a : α} {f : α → Option β} {r : Option β} {x y z : β} {b : Bool}
theorem bs (h : o = some a) (h2 : f a = r) : o.bind f = r := by rw [h]; exact h2
theorem bT (hb : b = true) (h : x = z) : (bif b then x else y) = z := by rw [hb]; exact h
theorem bF (hb : b = false) (h : y = z) : (bif b then x else y) = z := by rw [hb]; exact h
end
end Go.AM
set_option maxRecDepth 100000
namespace Go.AM
open Go.Proofs
inductive Ex where
  | node (op letter : Int) (kids : List Ex)
namespace Ex
def op : Ex → Int | .node o _ _ => o
def letter : Ex → Int | .node _ l _ => l
def kids : Ex → List Ex | .node _ _ ks => ks
theorem ind {p : Ex → Prop} (h : ∀ o l ks, (∀ k ∈ ks, p k) → p (.node o l ks)) : ∀ e, p e
  | .node o l ks => h o l ks fun k hk => ind h k
termination_by e => SizeOf.sizeOf e
decreasing_by
  have := List.sizeOf_lt_of_mem hk
  simp
  omega
mutual
def enc : Ex → V
  | .node o l ks => .agg [.int .i64 o, .int .i64 l, .list T_api_Expr (encs ks)]
def encs : List Ex → List V
  | [] => []
  | k :: ks => enc k :: encs ks
end
theorem encs_map : ∀ ks, encs ks = ks.map enc
  | [] => by simp only [encs, List.map_nil]
  | k :: ks => by simp only [encs, List.map_cons, encs_map ks]
theorem enc_eq (e : Ex) : e.enc = .agg [.int .i64 e.op, .int .i64 e.letter, .list T_api_Expr (e.kids.map enc)] := by
  cases e; simp only [enc, op, letter, kids, encs_map]
mutual
def size : Ex → Nat
  | .node _ _ ks => 1 + sizes ks
def sizes : List Ex → Nat
  | [] => 0
  | k :: ks => size k + sizes ks
end
mutual
def depth : Ex → Nat
  | .node _ _ ks => 1 + depths ks
def depths : List Ex → Nat
  | [] => 0
  | k :: ks => max (depth k) (depths ks)
end
theorem size_pos : ∀ e : Ex, 0 < e.size
  | .node _ _ ks => by simp only [size]; omega
theorem depth_pos : ∀ e : Ex, 0 < e.depth
  | .node _ _ ks => by simp only [depth]; omega
theorem depth_le_size : ∀ e : Ex, e.depth ≤ e.size := ind fun o l ks ih => by
  have : ∀ ks : List Ex, (∀ k ∈ ks, k.depth ≤ k.size) → depths ks ≤ sizes ks := by
    intro ks
    induction ks with
    | nil => intro _; simp only [depths, sizes]; omega
    | cons k ks ih =>
      intro h
      have h1 := h k (by simp)
      have h2 := ih fun k hk => h k (by simp [hk])
      simp only [depths, sizes]; omega
  have := this ks ih
  simp only [depth, size]; omega
inductive Ok : Ex → Prop
  | node {o l : Int} {ks : List Ex} : (-9223372036854775808 ≤ o ∧ o ≤ 9223372036854775807) → (-9223372036854775808 ≤ l ∧ l ≤ 9223372036854775807) → ks.length ≤ maxLen → (∀ k ∈ ks, Ok k) → Ok (.node o l ks)
theorem Ok.kid {o l : Int} {ks : List Ex} (h : Ok (.node o l ks)) : ∀ k ∈ ks, Ok k := by cases h; assumption
theorem Ok.len {o l : Int} {ks : List Ex} (h : Ok (.node o l ks)) : ks.length ≤ maxLen := by cases h; assumption
end Ex
open Ex
abbrev exA (e : Ex) (l : List V) : List V := .int .i64 e.op :: .int .i64 e.letter :: .list T_api_Expr (e.kids.map enc) :: l
theorem wt_ex : ∀ (n : Nat) (x : V), SizeOf.sizeOf x < n → WTv PG T_api_Expr x → ∃ e : Ex, x = e.enc ∧ e.Ok
  | 0, x, h, _ => by omega
  | n + 1, x, h, hw => by
    obtain ⟨xs, rfl, hl, hx⟩ := hw.agg_inv (by kernel_rfl)
    have e1 : etys PG T_api_Expr = [T_int, T_int, T_l_api_Expr] := by kernel_rfl
    rw [e1] at hl hx
    match xs, hl, hx, h with
    | [a, b, c], _, hx, h =>
      obtain ⟨o, rfl, ho⟩ := (hx 0 T_int a rfl rfl).int_inv (k := .i64) (by kernel_rfl)
      obtain ⟨l, rfl, hl⟩ := (hx 1 T_int b rfl rfl).int_inv (k := .i64) (by kernel_rfl)
      obtain ⟨es, rfl, he, hes⟩ := (hx 2 T_l_api_Expr c rfl rfl).list_inv (e := T_api_Expr) (by kernel_rfl)
      have : ∃ ks : List Ex, es = ks.map enc ∧ ∀ k ∈ ks, k.Ok := map_of_forallP fun y hy => wt_ex n y (by
        have := List.sizeOf_lt_of_mem hy
        simp at h
        omega) (hes y hy)
      obtain ⟨ks, rfl, hks⟩ := this
      refine ⟨.node o l ks, by rw [enc_eq]; rfl, .node ?_ ?_ (by simpa using he) hks⟩
      · exact ho
      · exact hl
end Go.AM
set_option maxRecDepth 100000
namespace Go.AM
open Go.Proofs
noncomputable def f_expr_Validate (C : CallF) (e_0 e_1 : Int) (e_2 : List V) (letters : Int) : Option (List V) :=
  bif decide ((letters : Int) < 1) then
   some [.int .i64 1]
  else
   bif decide ((letters : Int) > 6) then
    some [.int .i64 1]
   else
    (C F_expr_withinLimits [.int .i64 e_0, .int .i64 e_1, .list T_api_Expr e_2]).bind fun r1 =>
    bif !((V.nth r1 0).toBool) then
     some [.int .i64 3]
    else
     (C F_expr_wellFormed [.int .i64 e_0, .int .i64 e_1, .list T_api_Expr e_2, .int .i64 letters]).bind fun r2 =>
     bif !((V.nth r2 0).toBool) then
      some [.int .i64 4]
     else
      some [.int .i64 0]
theorem f_expr_Validate_of {e_0 e_1 : Int} {e_2 : List V} {letters : Int} {r : Option (List V)} (h : f_expr_Validate CC e_0 e_1 e_2 letters = r) : CC F_expr_Validate [.int .i64 e_0, .int .i64 e_1, .list T_api_Expr e_2, .int .i64 letters] = r :=
  func_of (key := 11) (L := LT0) (bs := []) (by kernel_rfl) tells_nil (Eq.trans (by kernel_rfl) h)
end Go.AM
set_option maxRecDepth 100000
namespace Go.AM
open Go.Proofs
noncomputable def f_expr_withinLimits (C : CallF) (e_0 e_1 : Int) (e_2 : List V) : Option (List V) :=
  (C F_expr_fits [.int .i64 e_0, .int .i64 e_1, .list T_api_Expr e_2, .int .i64 40, .int .i64 400]).bind fun r1 =>
  some [.bool ((V.nth r1 0).toBool)]
theorem f_expr_withinLimits_of {e_0 e_1 : Int} {e_2 : List V} {r : Option (List V)} (h : f_expr_withinLimits CC e_0 e_1 e_2 = r) : CC F_expr_withinLimits [.int .i64 e_0, .int .i64 e_1, .list T_api_Expr e_2] = r :=
  func_of (key := 34) (L := LT0) (bs := []) (by kernel_rfl) tells_nil (Eq.trans (by kernel_rfl) h)
end Go.AM
set_option maxRecDepth 100000
namespace Go.AM
open Go.Proofs
noncomputable abbrev B_expr_fits : Code := bodyOf Try.prog (ann.fid 56)
noncomputable def s_expr_fits_1 (C : CallF) (depth : Int) (t23 : List V) (t24 t25 lefts : Int) {β : Type} (kn : (Int × Int) → Option β) (kr : ((Bool × Int) ⊕ (Int × Bool × Int)) → Option β) : Option β :=
  bif decide ((t25 : Int) < t24) then
   (idx t23 t25).bind fun x1 =>
   (C F_expr_fits [.int .i64 ((x1.cell 0).toInt), .int .i64 ((x1.cell 1).toInt), .list T_api_Expr ((x1.cell 2).toList), .int .i64 (IntKind.wrap .i64 (depth - 1)), .int .i64 lefts]).bind fun r2 =>
   bif !((V.nth r2 0).toBool) then
    kr (.inl (false, (V.nth (r2.drop 1) 0).toInt))
   else
    kn (IntKind.wrap .i64 (t25 + 1), (V.nth (r2.drop 1) 0).toInt)
  else
   kr (.inr (t25, decide ((t25 : Int) < t24), lefts))
noncomputable def s_expr_fits_1L (C : CallF) (depth : Int) (t23 : List V) (t24 : Int) : (Int × Int) → Option ((Int × Int) ⊕ ((Bool × Int) ⊕ (Int × Bool × Int))) := un fun t25 lefts => s_expr_fits_1 C depth t23 t24 t25 lefts (fun y => some (.inl y)) (fun r => some (.inr r))
noncomputable def LT_expr_fits (C : CallF) : LTab := fun β n ds k =>
  bif Nat.beq n 81 then loopS S56_81 [false, false, false, true, true] [[0, 0], [1, 2, 3, 0, 0, 0]] (@s_expr_fits_1 C) ds k else
  none
abbrev TS_expr_fits (C : CallF) (b : Bar) : Prop := Tells Try.prog ann C (LT_expr_fits C) 56 (ntmpsOf Try.prog (ann.fid 56)) (ann.sin 56).blks.length b
theorem t_expr_fits_1 (C : CallF) : TS_expr_fits C (.loop (codeAt [1, 1, 1, 0, 1, 0, 0] B_expr_fits)) :=
  tl3 S56_81 [false, false, false, true, true] [[0, 0], [1, 2, 3, 0, 0, 0]] (@s_expr_fits_1 C) (by kernel_rfl) (ltok_of (bs := []) (by kernel_rfl) tells_nil) (fun ds => by kernel_rfl) (fun i x => by kernel_rfl) (fun i x β k => by kernel_rfl) (fun β ds k => by kernel_rfl)
noncomputable def f_expr_fits (C : CallF) (e_0 e_1 : Int) (e_2 : List V) (depth lefts : Int) : Option (List V) :=
  bif (depth : Int) == 0 then
   some [.bool false, .int .i64 lefts]
  else
   bif (lefts : Int) == 0 then
    some [.bool false, .int .i64 lefts]
   else
    (Loop (s_expr_fits_1L C depth e_2 (e_2.length : Int)) (0, IntKind.wrap .i64 (lefts - 1))).bind (way2 (un fun (t_3 : Bool) (b_4 : Int) =>
      some [.bool t_3, .int .i64 b_4]) (un fun (t_5 : Int) => un fun (t_6 : Bool) (lefts_7 : Int) =>
      some [.bool true, .int .i64 lefts_7]))
theorem f_expr_fits_of {e_0 e_1 : Int} {e_2 : List V} {depth lefts : Int} {r : Option (List V)} (h : f_expr_fits CC e_0 e_1 e_2 depth lefts = r) : CC F_expr_fits [.int .i64 e_0, .int .i64 e_1, .list T_api_Expr e_2, .int .i64 depth, .int .i64 lefts] = r :=
  func_of (key := 56) (L := LT_expr_fits CC) (bs := [.loop (codeAt [1, 1, 1, 0, 1, 0, 0] B_expr_fits)]) (by kernel_rfl) (tells_cons (t_expr_fits_1 CC) tells_nil) (Eq.trans (by kernel_rfl) h)
end Go.AM
set_option maxRecDepth 100000
namespace Go.AM
open Go.Proofs
noncomputable abbrev B_expr_wellFormed : Code := bodyOf Try.prog (ann.fid 35)
noncomputable def s_expr_wellFormed_1 (C : CallF) (letters : Int) (t53 : List V) (t54 t55 : Int) {β : Type} (kn : Int → Option β) (kr : ((Bool) ⊕ (Int × Bool)) → Option β) : Option β :=
  bif decide ((t55 : Int) < t54) then
   (idx t53 t55).bind fun x1 =>
   (C F_expr_wellFormed [.int .i64 ((x1.cell 0).toInt), .int .i64 ((x1.cell 1).toInt), .list T_api_Expr ((x1.cell 2).toList), .int .i64 letters]).bind fun r2 =>
   bif !((V.nth r2 0).toBool) then
    kr (.inl false)
   else
    kn (IntKind.wrap .i64 (t55 + 1))
  else
   kr (.inr (t55, decide ((t55 : Int) < t54)))
noncomputable def s_expr_wellFormed_1L (C : CallF) (letters : Int) (t53 : List V) (t54 : Int) : (Int) → Option ((Int) ⊕ ((Bool) ⊕ (Int × Bool))) := fun t55 => s_expr_wellFormed_1 C letters t53 t54 t55 (fun y => some (.inl y)) (fun r => some (.inr r))
noncomputable def LT_expr_wellFormed (C : CallF) : LTab := fun β n ds k =>
  bif Nat.beq n 321 then loopS S35_321 [false, false, false, true] [[0], [1, 2, 3, 0, 0]] (@s_expr_wellFormed_1 C) ds k else
  none
abbrev TS_expr_wellFormed (C : CallF) (b : Bar) : Prop := Tells Try.prog ann C (LT_expr_wellFormed C) 35 (ntmpsOf Try.prog (ann.fid 35)) (ann.sin 35).blks.length b
theorem t_expr_wellFormed_1 (C : CallF) : TS_expr_wellFormed C (.loop (codeAt [1, 1, 1, 1, 0, 1, 0, 0] B_expr_wellFormed)) :=
  tl3 S35_321 [false, false, false, true] [[0], [1, 2, 3, 0, 0]] (@s_expr_wellFormed_1 C) (by kernel_rfl) (ltok_of (bs := []) (by kernel_rfl) tells_nil) (fun ds => by kernel_rfl) (fun i x => by kernel_rfl) (fun i x β k => by kernel_rfl) (fun β ds k => by kernel_rfl)
noncomputable def f_expr_wellFormed (C : CallF) (e_0 e_1 : Int) (e_2 : List V) (letters : Int) : Option (List V) :=
  bif (e_0 : Int) == 3 then
   bif ((e_2.length : Int) : Int) == 0 then
    bif decide ((e_1 : Int) ≥ 0) then
     some [.bool (decide ((e_1 : Int) < letters))]
    else
     some [.bool false]
   else
    some [.bool false]
  else
   bif (e_1 : Int) != 0 then
    some [.bool false]
   else
    bif (e_0 : Int) == 1 then
     bif (e_0 : Int) == 1 then
      some [.bool (((e_2.length : Int) : Int) == 0)]
     else
      bif (e_0 : Int) == 4 then
       bif (e_0 : Int) == 4 then
        bif decide (((e_2.length : Int) : Int) < 2) then
         some [.bool false]
        else
         (Loop (s_expr_wellFormed_1L C letters e_2 (e_2.length : Int)) 0).bind (way2 (fun (t_3 : Bool) =>
           some [.bool t_3]) (un fun (t_4 : Int) (t_5 : Bool) =>
           some [.bool true]))
       else
        bif (e_0 : Int) == 7 then
         bif (e_0 : Int) == 7 then
          bif ((e_2.length : Int) : Int) != 1 then
           some [.bool false]
          else
           (Loop (s_expr_wellFormed_1L C letters e_2 (e_2.length : Int)) 0).bind (way2 (fun (t_6 : Bool) =>
             some [.bool t_6]) (un fun (t_7 : Int) (t_8 : Bool) =>
             some [.bool true]))
         else
          some [.bool false]
        else
         bif (e_0 : Int) == 8 then
          bif ((e_2.length : Int) : Int) != 1 then
           some [.bool false]
          else
           (Loop (s_expr_wellFormed_1L C letters e_2 (e_2.length : Int)) 0).bind (way2 (fun (t_9 : Bool) =>
             some [.bool t_9]) (un fun (t_10 : Int) (t_11 : Bool) =>
             some [.bool true]))
         else
          some [.bool false]
      else
       bif (e_0 : Int) == 5 then
        bif (e_0 : Int) == 5 then
         bif decide (((e_2.length : Int) : Int) < 2) then
          some [.bool false]
         else
          (Loop (s_expr_wellFormed_1L C letters e_2 (e_2.length : Int)) 0).bind (way2 (fun (t_12 : Bool) =>
            some [.bool t_12]) (un fun (t_13 : Int) (t_14 : Bool) =>
            some [.bool true]))
        else
         bif (e_0 : Int) == 7 then
          bif (e_0 : Int) == 7 then
           bif ((e_2.length : Int) : Int) != 1 then
            some [.bool false]
           else
            (Loop (s_expr_wellFormed_1L C letters e_2 (e_2.length : Int)) 0).bind (way2 (fun (t_15 : Bool) =>
              some [.bool t_15]) (un fun (t_16 : Int) (t_17 : Bool) =>
              some [.bool true]))
          else
           some [.bool false]
         else
          bif (e_0 : Int) == 8 then
           bif ((e_2.length : Int) : Int) != 1 then
            some [.bool false]
           else
            (Loop (s_expr_wellFormed_1L C letters e_2 (e_2.length : Int)) 0).bind (way2 (fun (t_18 : Bool) =>
              some [.bool t_18]) (un fun (t_19 : Int) (t_20 : Bool) =>
              some [.bool true]))
          else
           some [.bool false]
       else
        bif (e_0 : Int) == 6 then
         bif decide (((e_2.length : Int) : Int) < 2) then
          some [.bool false]
         else
          (Loop (s_expr_wellFormed_1L C letters e_2 (e_2.length : Int)) 0).bind (way2 (fun (t_21 : Bool) =>
            some [.bool t_21]) (un fun (t_22 : Int) (t_23 : Bool) =>
            some [.bool true]))
        else
         bif (e_0 : Int) == 7 then
          bif (e_0 : Int) == 7 then
           bif ((e_2.length : Int) : Int) != 1 then
            some [.bool false]
           else
            (Loop (s_expr_wellFormed_1L C letters e_2 (e_2.length : Int)) 0).bind (way2 (fun (t_24 : Bool) =>
              some [.bool t_24]) (un fun (t_25 : Int) (t_26 : Bool) =>
              some [.bool true]))
          else
           some [.bool false]
         else
          bif (e_0 : Int) == 8 then
           bif ((e_2.length : Int) : Int) != 1 then
            some [.bool false]
           else
            (Loop (s_expr_wellFormed_1L C letters e_2 (e_2.length : Int)) 0).bind (way2 (fun (t_27 : Bool) =>
              some [.bool t_27]) (un fun (t_28 : Int) (t_29 : Bool) =>
              some [.bool true]))
          else
           some [.bool false]
    else
     bif (e_0 : Int) == 2 then
      some [.bool (((e_2.length : Int) : Int) == 0)]
     else
      bif (e_0 : Int) == 4 then
       bif (e_0 : Int) == 4 then
        bif decide (((e_2.length : Int) : Int) < 2) then
         some [.bool false]
        else
         (Loop (s_expr_wellFormed_1L C letters e_2 (e_2.length : Int)) 0).bind (way2 (fun (t_30 : Bool) =>
           some [.bool t_30]) (un fun (t_31 : Int) (t_32 : Bool) =>
           some [.bool true]))
       else
        bif (e_0 : Int) == 7 then
         bif (e_0 : Int) == 7 then
          bif ((e_2.length : Int) : Int) != 1 then
           some [.bool false]
          else
           (Loop (s_expr_wellFormed_1L C letters e_2 (e_2.length : Int)) 0).bind (way2 (fun (t_33 : Bool) =>
             some [.bool t_33]) (un fun (t_34 : Int) (t_35 : Bool) =>
             some [.bool true]))
         else
          some [.bool false]
        else
         bif (e_0 : Int) == 8 then
          bif ((e_2.length : Int) : Int) != 1 then
           some [.bool false]
          else
           (Loop (s_expr_wellFormed_1L C letters e_2 (e_2.length : Int)) 0).bind (way2 (fun (t_36 : Bool) =>
             some [.bool t_36]) (un fun (t_37 : Int) (t_38 : Bool) =>
             some [.bool true]))
         else
          some [.bool false]
      else
       bif (e_0 : Int) == 5 then
        bif (e_0 : Int) == 5 then
         bif decide (((e_2.length : Int) : Int) < 2) then
          some [.bool false]
         else
          (Loop (s_expr_wellFormed_1L C letters e_2 (e_2.length : Int)) 0).bind (way2 (fun (t_39 : Bool) =>
            some [.bool t_39]) (un fun (t_40 : Int) (t_41 : Bool) =>
            some [.bool true]))
        else
         bif (e_0 : Int) == 7 then
          bif (e_0 : Int) == 7 then
           bif ((e_2.length : Int) : Int) != 1 then
            some [.bool false]
           else
            (Loop (s_expr_wellFormed_1L C letters e_2 (e_2.length : Int)) 0).bind (way2 (fun (t_42 : Bool) =>
              some [.bool t_42]) (un fun (t_43 : Int) (t_44 : Bool) =>
              some [.bool true]))
          else
           some [.bool false]
         else
          bif (e_0 : Int) == 8 then
           bif ((e_2.length : Int) : Int) != 1 then
            some [.bool false]
           else
            (Loop (s_expr_wellFormed_1L C letters e_2 (e_2.length : Int)) 0).bind (way2 (fun (t_45 : Bool) =>
              some [.bool t_45]) (un fun (t_46 : Int) (t_47 : Bool) =>
              some [.bool true]))
          else
           some [.bool false]
       else
        bif (e_0 : Int) == 6 then
         bif decide (((e_2.length : Int) : Int) < 2) then
          some [.bool false]
         else
          (Loop (s_expr_wellFormed_1L C letters e_2 (e_2.length : Int)) 0).bind (way2 (fun (t_48 : Bool) =>
            some [.bool t_48]) (un fun (t_49 : Int) (t_50 : Bool) =>
            some [.bool true]))
        else
         bif (e_0 : Int) == 7 then
          bif (e_0 : Int) == 7 then
           bif ((e_2.length : Int) : Int) != 1 then
            some [.bool false]
           else
            (Loop (s_expr_wellFormed_1L C letters e_2 (e_2.length : Int)) 0).bind (way2 (fun (t_51 : Bool) =>
              some [.bool t_51]) (un fun (t_52 : Int) (t_53 : Bool) =>
              some [.bool true]))
          else
           some [.bool false]
         else
          bif (e_0 : Int) == 8 then
           bif ((e_2.length : Int) : Int) != 1 then
            some [.bool false]
           else
            (Loop (s_expr_wellFormed_1L C letters e_2 (e_2.length : Int)) 0).bind (way2 (fun (t_54 : Bool) =>
              some [.bool t_54]) (un fun (t_55 : Int) (t_56 : Bool) =>
              some [.bool true]))
          else
           some [.bool false]
theorem f_expr_wellFormed_of {e_0 e_1 : Int} {e_2 : List V} {letters : Int} {r : Option (List V)} (h : f_expr_wellFormed CC e_0 e_1 e_2 letters = r) : CC F_expr_wellFormed [.int .i64 e_0, .int .i64 e_1, .list T_api_Expr e_2, .int .i64 letters] = r :=
  func_of (key := 35) (L := LT_expr_wellFormed CC) (bs := [.loop (codeAt [1, 1, 1, 1, 0, 1, 0, 0] B_expr_wellFormed)]) (by kernel_rfl) (tells_cons (t_expr_wellFormed_1 CC) tells_nil) (Eq.trans (by kernel_rfl) h)
end Go.AM
set_option maxRecDepth 100000
namespace Go.AM
open Go.Proofs
noncomputable def f_semigroupref04_Validate (C : CallF) (e_0 e_1 : Int) (e_2 : List V) (letters : Int) : Option (List V) :=
  (C F_semigroupref01_MayLetters [.int .i64 letters]).bind fun r1 =>
  bif !((V.nth r1 0).toBool) then
   some [.int .i64 1]
  else
   (C F_semigroupref04_Within [.int .i64 e_0, .int .i64 e_1, .list T_api_Expr e_2]).bind fun r2 =>
   bif !((V.nth r2 0).toBool) then
    some [.int .i64 3]
   else
    (C F_semigroupref04_shaped [.int .i64 e_0, .int .i64 e_1, .list T_api_Expr e_2, .int .i64 letters]).bind fun r3 =>
    bif !((V.nth r3 0).toBool) then
     some [.int .i64 4]
    else
     some [.int .i64 0]
theorem f_semigroupref04_Validate_of {e_0 e_1 : Int} {e_2 : List V} {letters : Int} {r : Option (List V)} (h : f_semigroupref04_Validate CC e_0 e_1 e_2 letters = r) : CC F_semigroupref04_Validate [.int .i64 e_0, .int .i64 e_1, .list T_api_Expr e_2, .int .i64 letters] = r :=
  func_of (key := 12) (L := LT0) (bs := []) (by kernel_rfl) tells_nil (Eq.trans (by kernel_rfl) h)
end Go.AM
set_option maxRecDepth 100000
namespace Go.AM
open Go.Proofs
noncomputable def f_semigroupref04_Within (C : CallF) (e_0 e_1 : Int) (e_2 : List V) : Option (List V) :=
  (C F_semigroupref04_measure [.int .i64 e_0, .int .i64 e_1, .list T_api_Expr e_2, .int .i64 400]).bind fun r1 =>
  bif decide ((((V.nth r1 0).toInt) : Int) ≤ 400) then
   some [.bool (decide ((((V.nth (r1.drop 1) 0).toInt) : Int) ≤ 40))]
  else
   some [.bool false]
theorem f_semigroupref04_Within_of {e_0 e_1 : Int} {e_2 : List V} {r : Option (List V)} (h : f_semigroupref04_Within CC e_0 e_1 e_2 = r) : CC F_semigroupref04_Within [.int .i64 e_0, .int .i64 e_1, .list T_api_Expr e_2] = r :=
  func_of (key := 37) (L := LT0) (bs := []) (by kernel_rfl) tells_nil (Eq.trans (by kernel_rfl) h)
end Go.AM
set_option maxRecDepth 100000
namespace Go.AM
open Go.Proofs
noncomputable abbrev B_semigroupref04_measure : Code := bodyOf Try.prog (ann.fid 51)
noncomputable def s_semigroupref04_measure_1 (C : CallF) (most es_0 es_1 : Int) (es_2 : List V) (n deep i : Int) {β : Type} (kn : (Int × Int × Int) → Option β) (kr : (Int × Int × Int × Bool) → Option β) : Option β :=
  bif decide ((i : Int) < (es_2.length : Int)) then
   bif decide ((n : Int) ≤ most) then
    (idx es_2 i).bind fun x1 =>
    (C F_semigroupref04_measure [.int .i64 ((x1.cell 0).toInt), .int .i64 ((x1.cell 1).toInt), .list T_api_Expr ((x1.cell 2).toList), .int .i64 most]).bind fun r2 =>
    kn (if (IntKind.wrap .i64 (most + 1)) < (IntKind.wrap .i64 (n + ((V.nth r2 0).toInt))) then (IntKind.wrap .i64 (most + 1)) else (IntKind.wrap .i64 (n + ((V.nth r2 0).toInt))), if ((V.nth (r2.drop 1) 0).toInt) > deep then ((V.nth (r2.drop 1) 0).toInt) else deep, IntKind.wrap .i64 (i + 1))
   else
    kr (n, deep, i, decide ((n : Int) ≤ most))
  else
   kr (n, deep, i, false)
noncomputable def s_semigroupref04_measure_1L (C : CallF) (most es_0 es_1 : Int) (es_2 : List V) : (Int × Int × Int) → Option ((Int × Int × Int) ⊕ (Int × Int × Int × Bool)) := un fun n => un fun deep i => s_semigroupref04_measure_1 C most es_0 es_1 es_2 n deep i (fun y => some (.inl y)) (fun r => some (.inr r))
noncomputable def LT_semigroupref04_measure (C : CallF) : LTab := fun β n ds k =>
  bif Nat.beq n 49 then loopS S51_49 [false, true, true, true, false, false, false] [[1, 0, 0, 0, 0, 5, 6, 7]] (@s_semigroupref04_measure_1 C) ds k else
  none
abbrev TS_semigroupref04_measure (C : CallF) (b : Bar) : Prop := Tells Try.prog ann C (LT_semigroupref04_measure C) 51 (ntmpsOf Try.prog (ann.fid 51)) (ann.sin 51).blks.length b
theorem t_semigroupref04_measure_1 (C : CallF) : TS_semigroupref04_measure C (.loop (codeAt [1, 1, 0, 1, 0, 0] B_semigroupref04_measure)) :=
  tl3 S51_49 [false, true, true, true, false, false, false] [[1, 0, 0, 0, 0, 5, 6, 7]] (@s_semigroupref04_measure_1 C) (by kernel_rfl) (ltok_of (bs := []) (by kernel_rfl) tells_nil) (fun ds => by kernel_rfl) (fun i x => by kernel_rfl) (fun i x β k => by kernel_rfl) (fun β ds k => by kernel_rfl)
noncomputable def f_semigroupref04_measure (C : CallF) (e_0 e_1 : Int) (e_2 : List V) (most : Int) : Option (List V) :=
  (Loop (s_semigroupref04_measure_1L C most e_0 e_1 e_2) (1, 0, 0)).bind (un fun (n_3 : Int) => un fun (deep_4 : Int) => un fun (i_5 : Int) (t_6 : Bool) =>
    some [.int .i64 n_3, .int .i64 (IntKind.wrap .i64 (deep_4 + 1))])
theorem f_semigroupref04_measure_of {e_0 e_1 : Int} {e_2 : List V} {most : Int} {r : Option (List V)} (h : f_semigroupref04_measure CC e_0 e_1 e_2 most = r) : CC F_semigroupref04_measure [.int .i64 e_0, .int .i64 e_1, .list T_api_Expr e_2, .int .i64 most] = r :=
  func_of (key := 51) (L := LT_semigroupref04_measure CC) (bs := [.loop (codeAt [1, 1, 0, 1, 0, 0] B_semigroupref04_measure)]) (by kernel_rfl) (tells_cons (t_semigroupref04_measure_1 CC) tells_nil) (Eq.trans (by kernel_rfl) h)
end Go.AM
set_option maxRecDepth 100000
namespace Go.AM
open Go.Proofs
noncomputable abbrev B_semigroupref04_shaped : Code := bodyOf Try.prog (ann.fid 38)
noncomputable def s_semigroupref04_shaped_1 (C : CallF) (letters k' : Int) (ok t39 : Bool) (es_0 es_1 : Int) (es_2 : List V) {β : Type} (kr : (Bool) → Option β) : Option β :=
  bif t39 then
   bif ok then
    bif decide ((es_1 : Int) ≥ 0) then
     kr (decide ((es_1 : Int) < letters))
    else
     kr false
   else
    kr false
  else
   bif ok then
    kr ((es_1 : Int) == 0)
   else
    kr false
noncomputable def s_semigroupref04_shaped_2 (C : CallF) (letters k' es_0 es_1 : Int) (es_2 : List V) (ok : Bool) (i : Int) {β : Type} (kn : (Bool × Int) → Option β) (kr : (Bool × Int × Bool) → Option β) : Option β :=
  bif decide ((i : Int) < k') then
   bif ok then
    (idx es_2 i).bind fun x2 =>
    (C F_semigroupref04_shaped [.int .i64 ((x2.cell 0).toInt), .int .i64 ((x2.cell 1).toInt), .list T_api_Expr ((x2.cell 2).toList), .int .i64 letters]).bind fun r3 =>
    kn ((V.nth r3 0).toBool, IntKind.wrap .i64 (i + 1))
   else
    kr (ok, i, ok)
  else
   kr (ok, i, false)
noncomputable def s_semigroupref04_shaped_2L (C : CallF) (letters k' es_0 es_1 : Int) (es_2 : List V) : (Bool × Int) → Option ((Bool × Int) ⊕ (Bool × Int × Bool)) := un fun ok i => s_semigroupref04_shaped_2 C letters k' es_0 es_1 es_2 ok i (fun y => some (.inl y)) (fun r => some (.inr r))
noncomputable def LT_semigroupref04_shaped (C : CallF) : LTab := fun β n ds k =>
  bif Nat.beq n 639 then condS S38_639 [[1, 2, 0, 5, 6, 7]] (@s_semigroupref04_shaped_1 C) ds k else
  bif Nat.beq n 257 then loopS S38_257 [false, false, true, true, false, false, false] [[1, 2, 0, 0, 0, 5, 6, 7]] (@s_semigroupref04_shaped_2 C) ds k else
  none
abbrev TS_semigroupref04_shaped (C : CallF) (b : Bar) : Prop := Tells Try.prog ann C (LT_semigroupref04_shaped C) 38 (ntmpsOf Try.prog (ann.fid 38)) (ann.sin 38).blks.length b
theorem t_semigroupref04_shaped_1 (C : CallF) : TS_semigroupref04_shaped C (.cond 39 (codeAt [1, 1, 1, 1, 0, 1, 0] B_semigroupref04_shaped) (codeAt [1, 1, 1, 1, 0, 1, 1] B_semigroupref04_shaped)) :=
  tc3 S38_639 [[1, 2, 0, 5, 6, 7]] (@s_semigroupref04_shaped_1 C) (by kernel_rfl) (ltok_of (bs := []) (by kernel_rfl) tells_nil) (ltok_of (bs := []) (by kernel_rfl) tells_nil) (fun ds => by kernel_rfl) (fun i β k => by kernel_rfl) (fun β ds k => by kernel_rfl)
theorem t_semigroupref04_shaped_2 (C : CallF) : TS_semigroupref04_shaped C (.loop (codeAt [1, 1, 1, 1, 1, 0, 1, 0, 0] B_semigroupref04_shaped)) :=
  tl3 S38_257 [false, false, true, true, false, false, false] [[1, 2, 0, 0, 0, 5, 6, 7]] (@s_semigroupref04_shaped_2 C) (by kernel_rfl) (ltok_of (bs := []) (by kernel_rfl) tells_nil) (fun ds => by kernel_rfl) (fun i x => by kernel_rfl) (fun i x β k => by kernel_rfl) (fun β ds k => by kernel_rfl)
noncomputable def f_semigroupref04_shaped (C : CallF) (e_0 e_1 : Int) (e_2 : List V) (letters : Int) : Option (List V) :=
  bif decide ((e_0 : Int) ≥ 1) then
   bif (e_0 : Int) == 1 then
    bif (e_0 : Int) == 1 then
     s_semigroupref04_shaped_1 C letters (e_2.length : Int) (((e_2.length : Int) : Int) == 0) ((e_0 : Int) == 3) e_0 e_1 e_2 (fun (ok_1 : Bool) =>
       (Loop (s_semigroupref04_shaped_2L C letters (e_2.length : Int) e_0 e_1 e_2) (ok_1, 0)).bind (un fun (ok_4 : Bool) => un fun (i_5 : Int) (t_6 : Bool) =>
         some [.bool ok_4]))
    else
     bif (e_0 : Int) == 7 then
      bif (e_0 : Int) == 7 then
       s_semigroupref04_shaped_1 C letters (e_2.length : Int) (((e_2.length : Int) : Int) == 1) ((e_0 : Int) == 3) e_0 e_1 e_2 (fun (ok_7 : Bool) =>
         (Loop (s_semigroupref04_shaped_2L C letters (e_2.length : Int) e_0 e_1 e_2) (ok_7, 0)).bind (un fun (ok_8 : Bool) => un fun (i_9 : Int) (t_10 : Bool) =>
           some [.bool ok_8]))
      else
       bif decide ((e_0 : Int) ≤ 8) then
        s_semigroupref04_shaped_1 C letters (e_2.length : Int) (decide (((e_2.length : Int) : Int) ≥ 2)) ((e_0 : Int) == 3) e_0 e_1 e_2 (fun (ok_11 : Bool) =>
          (Loop (s_semigroupref04_shaped_2L C letters (e_2.length : Int) e_0 e_1 e_2) (ok_11, 0)).bind (un fun (ok_12 : Bool) => un fun (i_13 : Int) (t_14 : Bool) =>
            some [.bool ok_12]))
       else
        s_semigroupref04_shaped_1 C letters (e_2.length : Int) false ((e_0 : Int) == 3) e_0 e_1 e_2 (fun (ok_15 : Bool) =>
          (Loop (s_semigroupref04_shaped_2L C letters (e_2.length : Int) e_0 e_1 e_2) (ok_15, 0)).bind (un fun (ok_16 : Bool) => un fun (i_17 : Int) (t_18 : Bool) =>
            some [.bool ok_16]))
     else
      bif (e_0 : Int) == 8 then
       s_semigroupref04_shaped_1 C letters (e_2.length : Int) (((e_2.length : Int) : Int) == 1) ((e_0 : Int) == 3) e_0 e_1 e_2 (fun (ok_19 : Bool) =>
         (Loop (s_semigroupref04_shaped_2L C letters (e_2.length : Int) e_0 e_1 e_2) (ok_19, 0)).bind (un fun (ok_20 : Bool) => un fun (i_21 : Int) (t_22 : Bool) =>
           some [.bool ok_20]))
      else
       bif decide ((e_0 : Int) ≤ 8) then
        s_semigroupref04_shaped_1 C letters (e_2.length : Int) (decide (((e_2.length : Int) : Int) ≥ 2)) ((e_0 : Int) == 3) e_0 e_1 e_2 (fun (ok_23 : Bool) =>
          (Loop (s_semigroupref04_shaped_2L C letters (e_2.length : Int) e_0 e_1 e_2) (ok_23, 0)).bind (un fun (ok_24 : Bool) => un fun (i_25 : Int) (t_26 : Bool) =>
            some [.bool ok_24]))
       else
        s_semigroupref04_shaped_1 C letters (e_2.length : Int) false ((e_0 : Int) == 3) e_0 e_1 e_2 (fun (ok_27 : Bool) =>
          (Loop (s_semigroupref04_shaped_2L C letters (e_2.length : Int) e_0 e_1 e_2) (ok_27, 0)).bind (un fun (ok_28 : Bool) => un fun (i_29 : Int) (t_30 : Bool) =>
            some [.bool ok_28]))
   else
    bif (e_0 : Int) == 2 then
     bif (e_0 : Int) == 2 then
      s_semigroupref04_shaped_1 C letters (e_2.length : Int) (((e_2.length : Int) : Int) == 0) ((e_0 : Int) == 3) e_0 e_1 e_2 (fun (ok_31 : Bool) =>
        (Loop (s_semigroupref04_shaped_2L C letters (e_2.length : Int) e_0 e_1 e_2) (ok_31, 0)).bind (un fun (ok_32 : Bool) => un fun (i_33 : Int) (t_34 : Bool) =>
          some [.bool ok_32]))
     else
      bif (e_0 : Int) == 7 then
       bif (e_0 : Int) == 7 then
        s_semigroupref04_shaped_1 C letters (e_2.length : Int) (((e_2.length : Int) : Int) == 1) ((e_0 : Int) == 3) e_0 e_1 e_2 (fun (ok_35 : Bool) =>
          (Loop (s_semigroupref04_shaped_2L C letters (e_2.length : Int) e_0 e_1 e_2) (ok_35, 0)).bind (un fun (ok_36 : Bool) => un fun (i_37 : Int) (t_38 : Bool) =>
            some [.bool ok_36]))
       else
        bif decide ((e_0 : Int) ≤ 8) then
         s_semigroupref04_shaped_1 C letters (e_2.length : Int) (decide (((e_2.length : Int) : Int) ≥ 2)) ((e_0 : Int) == 3) e_0 e_1 e_2 (fun (ok_39 : Bool) =>
           (Loop (s_semigroupref04_shaped_2L C letters (e_2.length : Int) e_0 e_1 e_2) (ok_39, 0)).bind (un fun (ok_40 : Bool) => un fun (i_41 : Int) (t_42 : Bool) =>
             some [.bool ok_40]))
        else
         s_semigroupref04_shaped_1 C letters (e_2.length : Int) false ((e_0 : Int) == 3) e_0 e_1 e_2 (fun (ok_43 : Bool) =>
           (Loop (s_semigroupref04_shaped_2L C letters (e_2.length : Int) e_0 e_1 e_2) (ok_43, 0)).bind (un fun (ok_44 : Bool) => un fun (i_45 : Int) (t_46 : Bool) =>
             some [.bool ok_44]))
      else
       bif (e_0 : Int) == 8 then
        s_semigroupref04_shaped_1 C letters (e_2.length : Int) (((e_2.length : Int) : Int) == 1) ((e_0 : Int) == 3) e_0 e_1 e_2 (fun (ok_47 : Bool) =>
          (Loop (s_semigroupref04_shaped_2L C letters (e_2.length : Int) e_0 e_1 e_2) (ok_47, 0)).bind (un fun (ok_48 : Bool) => un fun (i_49 : Int) (t_50 : Bool) =>
            some [.bool ok_48]))
       else
        bif decide ((e_0 : Int) ≤ 8) then
         s_semigroupref04_shaped_1 C letters (e_2.length : Int) (decide (((e_2.length : Int) : Int) ≥ 2)) ((e_0 : Int) == 3) e_0 e_1 e_2 (fun (ok_51 : Bool) =>
           (Loop (s_semigroupref04_shaped_2L C letters (e_2.length : Int) e_0 e_1 e_2) (ok_51, 0)).bind (un fun (ok_52 : Bool) => un fun (i_53 : Int) (t_54 : Bool) =>
             some [.bool ok_52]))
        else
         s_semigroupref04_shaped_1 C letters (e_2.length : Int) false ((e_0 : Int) == 3) e_0 e_1 e_2 (fun (ok_55 : Bool) =>
           (Loop (s_semigroupref04_shaped_2L C letters (e_2.length : Int) e_0 e_1 e_2) (ok_55, 0)).bind (un fun (ok_56 : Bool) => un fun (i_57 : Int) (t_58 : Bool) =>
             some [.bool ok_56]))
    else
     bif (e_0 : Int) == 3 then
      s_semigroupref04_shaped_1 C letters (e_2.length : Int) (((e_2.length : Int) : Int) == 0) ((e_0 : Int) == 3) e_0 e_1 e_2 (fun (ok_59 : Bool) =>
        (Loop (s_semigroupref04_shaped_2L C letters (e_2.length : Int) e_0 e_1 e_2) (ok_59, 0)).bind (un fun (ok_60 : Bool) => un fun (i_61 : Int) (t_62 : Bool) =>
          some [.bool ok_60]))
     else
      bif (e_0 : Int) == 7 then
       bif (e_0 : Int) == 7 then
        s_semigroupref04_shaped_1 C letters (e_2.length : Int) (((e_2.length : Int) : Int) == 1) ((e_0 : Int) == 3) e_0 e_1 e_2 (fun (ok_63 : Bool) =>
          (Loop (s_semigroupref04_shaped_2L C letters (e_2.length : Int) e_0 e_1 e_2) (ok_63, 0)).bind (un fun (ok_64 : Bool) => un fun (i_65 : Int) (t_66 : Bool) =>
            some [.bool ok_64]))
       else
        bif decide ((e_0 : Int) ≤ 8) then
         s_semigroupref04_shaped_1 C letters (e_2.length : Int) (decide (((e_2.length : Int) : Int) ≥ 2)) ((e_0 : Int) == 3) e_0 e_1 e_2 (fun (ok_67 : Bool) =>
           (Loop (s_semigroupref04_shaped_2L C letters (e_2.length : Int) e_0 e_1 e_2) (ok_67, 0)).bind (un fun (ok_68 : Bool) => un fun (i_69 : Int) (t_70 : Bool) =>
             some [.bool ok_68]))
        else
         s_semigroupref04_shaped_1 C letters (e_2.length : Int) false ((e_0 : Int) == 3) e_0 e_1 e_2 (fun (ok_71 : Bool) =>
           (Loop (s_semigroupref04_shaped_2L C letters (e_2.length : Int) e_0 e_1 e_2) (ok_71, 0)).bind (un fun (ok_72 : Bool) => un fun (i_73 : Int) (t_74 : Bool) =>
             some [.bool ok_72]))
      else
       bif (e_0 : Int) == 8 then
        s_semigroupref04_shaped_1 C letters (e_2.length : Int) (((e_2.length : Int) : Int) == 1) ((e_0 : Int) == 3) e_0 e_1 e_2 (fun (ok_75 : Bool) =>
          (Loop (s_semigroupref04_shaped_2L C letters (e_2.length : Int) e_0 e_1 e_2) (ok_75, 0)).bind (un fun (ok_76 : Bool) => un fun (i_77 : Int) (t_78 : Bool) =>
            some [.bool ok_76]))
       else
        bif decide ((e_0 : Int) ≤ 8) then
         s_semigroupref04_shaped_1 C letters (e_2.length : Int) (decide (((e_2.length : Int) : Int) ≥ 2)) ((e_0 : Int) == 3) e_0 e_1 e_2 (fun (ok_79 : Bool) =>
           (Loop (s_semigroupref04_shaped_2L C letters (e_2.length : Int) e_0 e_1 e_2) (ok_79, 0)).bind (un fun (ok_80 : Bool) => un fun (i_81 : Int) (t_82 : Bool) =>
             some [.bool ok_80]))
        else
         s_semigroupref04_shaped_1 C letters (e_2.length : Int) false ((e_0 : Int) == 3) e_0 e_1 e_2 (fun (ok_83 : Bool) =>
           (Loop (s_semigroupref04_shaped_2L C letters (e_2.length : Int) e_0 e_1 e_2) (ok_83, 0)).bind (un fun (ok_84 : Bool) => un fun (i_85 : Int) (t_86 : Bool) =>
             some [.bool ok_84]))
  else
   bif (e_0 : Int) == 1 then
    bif (e_0 : Int) == 1 then
     s_semigroupref04_shaped_1 C letters (e_2.length : Int) (((e_2.length : Int) : Int) == 0) ((e_0 : Int) == 3) e_0 e_1 e_2 (fun (ok_87 : Bool) =>
       (Loop (s_semigroupref04_shaped_2L C letters (e_2.length : Int) e_0 e_1 e_2) (ok_87, 0)).bind (un fun (ok_88 : Bool) => un fun (i_89 : Int) (t_90 : Bool) =>
         some [.bool ok_88]))
    else
     bif (e_0 : Int) == 7 then
      bif (e_0 : Int) == 7 then
       s_semigroupref04_shaped_1 C letters (e_2.length : Int) (((e_2.length : Int) : Int) == 1) ((e_0 : Int) == 3) e_0 e_1 e_2 (fun (ok_91 : Bool) =>
         (Loop (s_semigroupref04_shaped_2L C letters (e_2.length : Int) e_0 e_1 e_2) (ok_91, 0)).bind (un fun (ok_92 : Bool) => un fun (i_93 : Int) (t_94 : Bool) =>
           some [.bool ok_92]))
      else
       s_semigroupref04_shaped_1 C letters (e_2.length : Int) false ((e_0 : Int) == 3) e_0 e_1 e_2 (fun (ok_95 : Bool) =>
         (Loop (s_semigroupref04_shaped_2L C letters (e_2.length : Int) e_0 e_1 e_2) (ok_95, 0)).bind (un fun (ok_96 : Bool) => un fun (i_97 : Int) (t_98 : Bool) =>
           some [.bool ok_96]))
     else
      bif (e_0 : Int) == 8 then
       s_semigroupref04_shaped_1 C letters (e_2.length : Int) (((e_2.length : Int) : Int) == 1) ((e_0 : Int) == 3) e_0 e_1 e_2 (fun (ok_99 : Bool) =>
         (Loop (s_semigroupref04_shaped_2L C letters (e_2.length : Int) e_0 e_1 e_2) (ok_99, 0)).bind (un fun (ok_100 : Bool) => un fun (i_101 : Int) (t_102 : Bool) =>
           some [.bool ok_100]))
      else
       s_semigroupref04_shaped_1 C letters (e_2.length : Int) false ((e_0 : Int) == 3) e_0 e_1 e_2 (fun (ok_103 : Bool) =>
         (Loop (s_semigroupref04_shaped_2L C letters (e_2.length : Int) e_0 e_1 e_2) (ok_103, 0)).bind (un fun (ok_104 : Bool) => un fun (i_105 : Int) (t_106 : Bool) =>
           some [.bool ok_104]))
   else
    bif (e_0 : Int) == 2 then
     bif (e_0 : Int) == 2 then
      s_semigroupref04_shaped_1 C letters (e_2.length : Int) (((e_2.length : Int) : Int) == 0) ((e_0 : Int) == 3) e_0 e_1 e_2 (fun (ok_107 : Bool) =>
        (Loop (s_semigroupref04_shaped_2L C letters (e_2.length : Int) e_0 e_1 e_2) (ok_107, 0)).bind (un fun (ok_108 : Bool) => un fun (i_109 : Int) (t_110 : Bool) =>
          some [.bool ok_108]))
     else
      bif (e_0 : Int) == 7 then
       bif (e_0 : Int) == 7 then
        s_semigroupref04_shaped_1 C letters (e_2.length : Int) (((e_2.length : Int) : Int) == 1) ((e_0 : Int) == 3) e_0 e_1 e_2 (fun (ok_111 : Bool) =>
          (Loop (s_semigroupref04_shaped_2L C letters (e_2.length : Int) e_0 e_1 e_2) (ok_111, 0)).bind (un fun (ok_112 : Bool) => un fun (i_113 : Int) (t_114 : Bool) =>
            some [.bool ok_112]))
       else
        s_semigroupref04_shaped_1 C letters (e_2.length : Int) false ((e_0 : Int) == 3) e_0 e_1 e_2 (fun (ok_115 : Bool) =>
          (Loop (s_semigroupref04_shaped_2L C letters (e_2.length : Int) e_0 e_1 e_2) (ok_115, 0)).bind (un fun (ok_116 : Bool) => un fun (i_117 : Int) (t_118 : Bool) =>
            some [.bool ok_116]))
      else
       bif (e_0 : Int) == 8 then
        s_semigroupref04_shaped_1 C letters (e_2.length : Int) (((e_2.length : Int) : Int) == 1) ((e_0 : Int) == 3) e_0 e_1 e_2 (fun (ok_119 : Bool) =>
          (Loop (s_semigroupref04_shaped_2L C letters (e_2.length : Int) e_0 e_1 e_2) (ok_119, 0)).bind (un fun (ok_120 : Bool) => un fun (i_121 : Int) (t_122 : Bool) =>
            some [.bool ok_120]))
       else
        s_semigroupref04_shaped_1 C letters (e_2.length : Int) false ((e_0 : Int) == 3) e_0 e_1 e_2 (fun (ok_123 : Bool) =>
          (Loop (s_semigroupref04_shaped_2L C letters (e_2.length : Int) e_0 e_1 e_2) (ok_123, 0)).bind (un fun (ok_124 : Bool) => un fun (i_125 : Int) (t_126 : Bool) =>
            some [.bool ok_124]))
    else
     bif (e_0 : Int) == 3 then
      s_semigroupref04_shaped_1 C letters (e_2.length : Int) (((e_2.length : Int) : Int) == 0) ((e_0 : Int) == 3) e_0 e_1 e_2 (fun (ok_127 : Bool) =>
        (Loop (s_semigroupref04_shaped_2L C letters (e_2.length : Int) e_0 e_1 e_2) (ok_127, 0)).bind (un fun (ok_128 : Bool) => un fun (i_129 : Int) (t_130 : Bool) =>
          some [.bool ok_128]))
     else
      bif (e_0 : Int) == 7 then
       bif (e_0 : Int) == 7 then
        s_semigroupref04_shaped_1 C letters (e_2.length : Int) (((e_2.length : Int) : Int) == 1) ((e_0 : Int) == 3) e_0 e_1 e_2 (fun (ok_131 : Bool) =>
          (Loop (s_semigroupref04_shaped_2L C letters (e_2.length : Int) e_0 e_1 e_2) (ok_131, 0)).bind (un fun (ok_132 : Bool) => un fun (i_133 : Int) (t_134 : Bool) =>
            some [.bool ok_132]))
       else
        s_semigroupref04_shaped_1 C letters (e_2.length : Int) false ((e_0 : Int) == 3) e_0 e_1 e_2 (fun (ok_135 : Bool) =>
          (Loop (s_semigroupref04_shaped_2L C letters (e_2.length : Int) e_0 e_1 e_2) (ok_135, 0)).bind (un fun (ok_136 : Bool) => un fun (i_137 : Int) (t_138 : Bool) =>
            some [.bool ok_136]))
      else
       bif (e_0 : Int) == 8 then
        s_semigroupref04_shaped_1 C letters (e_2.length : Int) (((e_2.length : Int) : Int) == 1) ((e_0 : Int) == 3) e_0 e_1 e_2 (fun (ok_139 : Bool) =>
          (Loop (s_semigroupref04_shaped_2L C letters (e_2.length : Int) e_0 e_1 e_2) (ok_139, 0)).bind (un fun (ok_140 : Bool) => un fun (i_141 : Int) (t_142 : Bool) =>
            some [.bool ok_140]))
       else
        s_semigroupref04_shaped_1 C letters (e_2.length : Int) false ((e_0 : Int) == 3) e_0 e_1 e_2 (fun (ok_143 : Bool) =>
          (Loop (s_semigroupref04_shaped_2L C letters (e_2.length : Int) e_0 e_1 e_2) (ok_143, 0)).bind (un fun (ok_144 : Bool) => un fun (i_145 : Int) (t_146 : Bool) =>
            some [.bool ok_144]))
theorem f_semigroupref04_shaped_of {e_0 e_1 : Int} {e_2 : List V} {letters : Int} {r : Option (List V)} (h : f_semigroupref04_shaped CC e_0 e_1 e_2 letters = r) : CC F_semigroupref04_shaped [.int .i64 e_0, .int .i64 e_1, .list T_api_Expr e_2, .int .i64 letters] = r :=
  func_of (key := 38) (L := LT_semigroupref04_shaped CC) (bs := [.cond 39 (codeAt [1, 1, 1, 1, 0, 1, 0] B_semigroupref04_shaped) (codeAt [1, 1, 1, 1, 0, 1, 1] B_semigroupref04_shaped), .loop (codeAt [1, 1, 1, 1, 1, 0, 1, 0, 0] B_semigroupref04_shaped)]) (by kernel_rfl) (tells_cons (t_semigroupref04_shaped_1 CC) (tells_cons (t_semigroupref04_shaped_2 CC) tells_nil)) (Eq.trans (by kernel_rfl) h)
end Go.AM
set_option maxRecDepth 100000
namespace Go.AM
open Go.Proofs
noncomputable def f_semigroupref01_MayLetters (C : CallF) (letters : Int) : Option (List V) :=
  bif decide ((letters : Int) ≥ 1) then
   some [.bool (decide ((letters : Int) ≤ 6))]
  else
   some [.bool false]
theorem f_semigroupref01_MayLetters_of {letters : Int} {r : Option (List V)} (h : f_semigroupref01_MayLetters CC letters = r) : CC F_semigroupref01_MayLetters [.int .i64 letters] = r :=
  func_of (key := 36) (L := LT0) (bs := []) (by kernel_rfl) tells_nil (Eq.trans (by kernel_rfl) h)
end Go.AM
set_option maxRecDepth 100000
set_option linter.unusedSimpArgs false
namespace Go.AM
open Go.Proofs Ex
theorem idx_kid (pre suf : List Ex) (k : Ex) : idx ((pre ++ k :: suf).map enc) (pre.length : Int) = some k.enc := by
  rw [idx_nat]; simp
theorem enc_0 (k : Ex) : (k.enc.cell 0).toInt = k.op := by rw [enc_eq]; simp
theorem enc_1 (k : Ex) : (k.enc.cell 1).toInt = k.letter := by rw [enc_eq]; simp
theorem enc_2 (k : Ex) : (k.enc.cell 2).toList = k.kids.map enc := by rw [enc_eq]; simp
theorem fits_loop {ks : List Ex} (hlen : ks.length ≤ maxLen) {d : Int} (hd : 0 ≤ d ∧ d ≤ 1000) (ih : ∀ k ∈ ks, ∀ d l : Int, 0 ≤ d → d ≤ 1000 → 0 ≤ l → l ≤ 1000 → ∃ l', CC F_expr_fits (exA k [.int .i64 d, .int .i64 l]) = some [.bool (decide ((k.depth : Int) ≤ d ∧ (k.size : Int) ≤ l)), .int .i64 l'] ∧ 0 ≤ l' ∧ l' ≤ l ∧ (((k.depth : Int) ≤ d ∧ (k.size : Int) ≤ l) → l' = l - k.size)) :
    ∀ (suf pre : List Ex) (l : Int), ks = pre ++ suf → 0 ≤ l → l ≤ 1000 → 1 ≤ d →
    (∃ l' : Int, Loop (s_expr_fits_1L CC d (ks.map enc) ((ks.map enc).length : Int)) (((pre.length : Nat) : Int), l) = some (.inl (false, l')) ∧ ¬ ((depths suf : Int) ≤ d - 1 ∧ (sizes suf : Int) ≤ l) ∧ 0 ≤ l' ∧ l' ≤ l) ∨
    (∃ i b, Loop (s_expr_fits_1L CC d (ks.map enc) ((ks.map enc).length : Int)) (((pre.length : Nat) : Int), l) = some (.inr (i, b, l - sizes suf)) ∧ ((depths suf : Int) ≤ d - 1 ∧ (sizes suf : Int) ≤ l)) := by
  intro suf
  induction suf with
  | nil =>
    intro pre l hks h0 h1 hd1
    subst hks
    refine .inr ⟨((pre.length : Nat) : Int), false, ?_, ?_⟩
    · have hz : l - ((sizes ([] : List Ex) : Nat) : Int) = l := by simp only [sizes]; omega
      rw [hz]
      refine Loop_end ?_
      simp only [s_expr_fits_1L, s_expr_fits_1, un, List.append_nil, List.length_map, bif_decide]
      rw [if_neg (by omega)]
      simp
    · simp only [depths, sizes]; omega
  | cons k suf ihs =>
    intro pre l hks h0 h1 hd1
    obtain ⟨l', e1, e2, e3, e4⟩ := ih k (by rw [hks]; simp) (d - 1) l (by omega) (by omega) h0 h1
    have hpl : pre.length < ks.length := by rw [hks]; simp
    have := maxLen_le
    have hix : idx (ks.map enc) (pre.length : Int) = some k.enc := by rw [hks]; exact idx_kid _ _ _
    by_cases hk : (k.depth : Int) ≤ d - 1 ∧ (k.size : Int) ≤ l
    · have hstep : s_expr_fits_1L CC d (ks.map enc) ((ks.map enc).length : Int) (((pre.length : Nat) : Int), l) = some (.inl ((((pre ++ [k]).length : Nat) : Int), l')) := by
        simp only [s_expr_fits_1L, s_expr_fits_1, un, List.length_map, bif_decide]
        rw [if_pos (by omega), hix]
        simp only [Option.bind_some, enc_0, enc_1, enc_2]
        rw [wrap64 (by omega) (by omega), e1]
        simp only [Option.bind_some, V.nth_zero, V.toBool_bool, decide_eq_true hk, Bool.not_true, cond_false, List.drop_succ_cons, List.drop_zero, V.toInt_int]
        rw [wrap64 (by omega) (by omega)]
        simp
      rw [Loop_norm hstep]
      have e5 := e4 hk
      rcases ihs (pre ++ [k]) l' (by rw [hks]; simp) e2 (by omega) hd1 with ⟨l2, q1, q2, q3, q4⟩ | ⟨i, b, q1, q2⟩
      · refine .inl ⟨l2, q1, ?_, q3, by omega⟩
        simp only [depths, sizes]; omega
      · refine .inr ⟨i, b, q1.trans ?_, ?_⟩
        · simp only [sizes]
          congr 4
          omega
        · simp only [depths, sizes]; omega
    · refine .inl ⟨l', Loop_end ?_, ?_, e2, e3⟩
      · simp only [s_expr_fits_1L, s_expr_fits_1, un, List.length_map, bif_decide]
        rw [if_pos (by omega), hix]
        simp only [Option.bind_some, enc_0, enc_1, enc_2]
        rw [wrap64 (by omega) (by omega), e1]
        simp only [Option.bind_some, V.nth_zero, V.toBool_bool, decide_eq_false hk, Bool.not_false, cond_true, List.drop_succ_cons, List.drop_zero, V.toInt_int]
      · simp only [depths, sizes]; omega
theorem fits_spec : ∀ e : Ex, e.Ok → ∀ d l : Int, 0 ≤ d → d ≤ 1000 → 0 ≤ l → l ≤ 1000 →
    ∃ l', CC F_expr_fits (exA e [.int .i64 d, .int .i64 l]) = some [.bool (decide ((e.depth : Int) ≤ d ∧ (e.size : Int) ≤ l)), .int .i64 l'] ∧ 0 ≤ l' ∧ l' ≤ l ∧ (((e.depth : Int) ≤ d ∧ (e.size : Int) ≤ l) → l' = l - e.size) :=
  ind fun o lt ks ih hok d l h1 h2 h3 h4 => by
    have ih' : ∀ k ∈ ks, _ := fun k hk => ih k hk (hok.kid k hk)
    have hs : ∀ e : Ex, e = .node o lt ks → e.size = 1 + sizes ks ∧ e.depth = 1 + depths ks := by rintro e rfl; constructor <;> simp only [size, depth]
    obtain ⟨s1, s2⟩ := hs _ rfl
    by_cases hd : d = 0
    · have hn : ¬ (((Ex.node o lt ks).depth : Int) ≤ d ∧ ((Ex.node o lt ks).size : Int) ≤ l) := by omega
      refine ⟨l, f_expr_fits_of ?_, h3, Int.le_refl _, fun h => absurd h hn⟩
      simp only [f_expr_fits, bif_beq, if_pos hd, decide_eq_false hn]
    · by_cases hl : l = 0
      · have hn : ¬ (((Ex.node o lt ks).depth : Int) ≤ d ∧ ((Ex.node o lt ks).size : Int) ≤ l) := by omega
        refine ⟨l, f_expr_fits_of ?_, h3, Int.le_refl _, fun h => absurd h hn⟩
        simp only [f_expr_fits, bif_beq, if_neg hd, if_pos hl, decide_eq_false hn]
      · rcases fits_loop hok.len ⟨h1, h2⟩ ih' ks [] (l - 1) rfl (by omega) (by omega) (by omega) with ⟨l', q1, q2, q3, q4⟩ | ⟨i, b, q1, q2⟩
        · have hn : ¬ (((Ex.node o lt ks).depth : Int) ≤ d ∧ ((Ex.node o lt ks).size : Int) ≤ l) := by omega
          refine ⟨l', f_expr_fits_of ?_, q3, by omega, fun h => absurd h hn⟩
          simp only [f_expr_fits, bif_beq, if_neg hd, if_neg hl, decide_eq_false hn, Ex.kids]
          rw [wrap64 (by omega) (by omega)]
          simp only [List.length_nil, Int.ofNat_zero, Int.natCast_zero] at q1
          erw [q1]
          rfl
        · have hn : (((Ex.node o lt ks).depth : Int) ≤ d ∧ ((Ex.node o lt ks).size : Int) ≤ l) := by omega
          refine ⟨l - 1 - sizes ks, f_expr_fits_of ?_, by omega, by omega, fun _ => by omega⟩
          simp only [f_expr_fits, bif_beq, if_neg hd, if_neg hl, decide_eq_true hn, Ex.kids]
          rw [wrap64 (by omega) (by omega)]
          simp only [List.length_nil, Int.ofNat_zero, Int.natCast_zero] at q1
          erw [q1]
          rfl
theorem withinLimits_spec (e : Ex) (h : e.Ok) : CC F_expr_withinLimits (exA e []) = some [.bool (decide (e.depth ≤ 40 ∧ e.size ≤ 400))] := by
  obtain ⟨l', e1, _⟩ := fits_spec e h 40 400 (by omega) (by omega) (by omega) (by omega)
  refine f_expr_withinLimits_of ?_
  simp only [f_expr_withinLimits]
  rw [e1]
  simp only [Option.bind_some, V.nth_zero, V.toBool_bool]
  congr 3
  rw [decide_eq_decide]
  omega
theorem measure_loop {ks : List Ex} (hlen : ks.length ≤ maxLen) {a b most : Int} (hm : 1 ≤ most ∧ most ≤ 1000) (ih : ∀ k ∈ ks, ∃ d, CC F_semigroupref04_measure (exA k [.int .i64 most]) = some [.int .i64 (min (k.size : Int) (most + 1)), .int .i64 d] ∧ ((k.size : Int) ≤ most → d = k.depth)) :
    ∀ (suf pre : List Ex) (n deep : Int), ks = pre ++ suf → 1 ≤ n → n ≤ most + 1 → 0 ≤ deep →
    ∃ deep' i b', Loop (s_semigroupref04_measure_1L CC most a b (ks.map enc)) (n, deep, ((pre.length : Nat) : Int)) = some (min (n + (sizes suf : Int)) (most + 1), deep', i, b') ∧ (n + (sizes suf : Int) ≤ most → deep' = max deep (depths suf)) := by
  intro suf
  induction suf with
  | nil =>
    intro pre n deep hks h0 h1 hdp
    subst hks
    refine ⟨deep, ((pre.length : Nat) : Int), false, ?_, fun _ => ?_⟩
    · have hz : min (n + ((sizes ([] : List Ex) : Nat) : Int)) (most + 1) = n := by simp only [sizes]; omega
      rw [hz]
      refine Loop_end ?_
      simp only [s_semigroupref04_measure_1L, s_semigroupref04_measure_1, un, List.append_nil, List.length_map, bif_decide]
      rw [if_neg (by omega)]
    · simp only [depths]; omega
  | cons k suf ihs =>
    intro pre n deep hks h0 h1 hdp
    have hpl : pre.length < ks.length := by rw [hks]; simp
    have := maxLen_le
    have hix : idx (ks.map enc) (pre.length : Int) = some k.enc := by rw [hks]; exact idx_kid _ _ _
    have hkp := size_pos k
    by_cases hn : n ≤ most
    · obtain ⟨d, e1, e2⟩ := ih k (by rw [hks]; simp)
      have hstep : ∃ dd, s_semigroupref04_measure_1L CC most a b (ks.map enc) (n, deep, ((pre.length : Nat) : Int)) = some (.inl (min (n + (k.size : Int)) (most + 1), dd, (((pre ++ [k]).length : Nat) : Int))) ∧ dd = max deep d := by
        refine ⟨max deep d, ?_, rfl⟩
        simp only [s_semigroupref04_measure_1L, s_semigroupref04_measure_1, un, List.length_map, bif_decide]
        rw [if_pos (by omega), if_pos hn, hix]
        simp only [Option.bind_some, enc_0, enc_1, enc_2]
        rw [e1]
        simp only [Option.bind_some, V.nth_zero, List.drop_succ_cons, List.drop_zero, V.toInt_int]
        rw [wrap64 (by omega) (by omega), wrap64 (by omega) (by omega), wrap64 (by omega) (by omega)]
        have r1 : (if most + 1 < n + min (k.size : Int) (most + 1) then most + 1 else n + min (k.size : Int) (most + 1)) = min (n + (k.size : Int)) (most + 1) := by split <;> omega
        have r2 : (if d > deep then d else deep) = max deep d := by split <;> omega
        rw [r1, r2]
        simp
      obtain ⟨dd, hs1, rfl⟩ := hstep
      rw [Loop_norm hs1]
      obtain ⟨deep', i, b', q1, q2⟩ := ihs (pre ++ [k]) (min (n + (k.size : Int)) (most + 1)) (max deep d) (by rw [hks]; simp) (by omega) (by omega) (by omega)
      refine ⟨deep', i, b', q1.trans ?_, fun h => ?_⟩
      · simp only [sizes]
        congr 2
        omega
      · simp only [sizes] at h
        rw [q2 (by omega), e2 (by omega)]
        simp only [depths]
        omega
    · refine ⟨deep, ((pre.length : Nat) : Int), false, ?_, fun h => ?_⟩
      · have hz : min (n + ((sizes (k :: suf) : Nat) : Int)) (most + 1) = n := by simp only [sizes]; omega
        rw [hz]
        refine Loop_end ?_
        simp only [s_semigroupref04_measure_1L, s_semigroupref04_measure_1, un, List.length_map, bif_decide]
        rw [if_pos (by omega), if_neg hn]
        simp [hn]
      · omega
theorem measure_spec : ∀ e : Ex, e.Ok → ∀ most : Int, 1 ≤ most → most ≤ 1000 → ∃ d, CC F_semigroupref04_measure (exA e [.int .i64 most]) = some [.int .i64 (min (e.size : Int) (most + 1)), .int .i64 d] ∧ ((e.size : Int) ≤ most → d = e.depth) :=
  ind fun o lt ks ih hok most h1 h2 => by
    obtain ⟨deep', i, b', q1, q2⟩ := measure_loop (a := o) (b := lt) hok.len ⟨h1, h2⟩ (fun k hk => ih k hk (hok.kid k hk) most h1 h2) ks [] 1 0 rfl (by omega) (by omega) (by omega)
    have s1 : (Ex.node o lt ks).size = 1 + sizes ks := by simp only [size]
    have s2 : (Ex.node o lt ks).depth = 1 + depths ks := by simp only [depth]
    have s3 := depth_le_size (.node o lt ks)
    refine ⟨IntKind.wrap .i64 (deep' + 1), f_semigroupref04_measure_of ?_, fun h => ?_⟩
    · simp only [f_semigroupref04_measure, Ex.kids, Ex.op, Ex.letter]
      simp only [List.length_nil, Int.ofNat_zero, Int.natCast_zero] at q1
      erw [q1]
      simp only [Option.bind_some, un]
      rw [show (1 : Int) + (sizes ks : Int) = ((Ex.node o lt ks).size : Int) by omega]
    · rw [q2 (by omega), wrap64 (by omega) (by omega)]
      omega
def shapeOk (o l len letters : Int) : Bool :=
  if o = 3 then decide (len = 0 ∧ 0 ≤ l ∧ l < letters)
  else decide (l = 0) && (if o = 1 ∨ o = 2 then decide (len = 0) else if o = 7 ∨ o = 8 then decide (len = 1) else decide (4 ≤ o ∧ o ≤ 6 ∧ 2 ≤ len))
mutual
def Ex.wf (letters : Int) : Ex → Bool
  | .node o l ks => shapeOk o l ks.length letters && wfs letters ks
def Ex.wfs (letters : Int) : List Ex → Bool
  | [] => true
  | k :: ks => Ex.wf letters k && wfs letters ks
end
theorem wf_loop {ks : List Ex} (hlen : ks.length ≤ maxLen) {letters : Int} (ih : ∀ k ∈ ks, CC F_expr_wellFormed (exA k [.int .i64 letters]) = some [.bool (k.wf letters)]) :
    ∀ (suf pre : List Ex), ks = pre ++ suf →
    (Loop (s_expr_wellFormed_1L CC letters (ks.map enc) ((ks.map enc).length : Int)) ((pre.length : Nat) : Int) = some (.inl false) ∧ wfs letters suf = false) ∨
    (∃ i b, Loop (s_expr_wellFormed_1L CC letters (ks.map enc) ((ks.map enc).length : Int)) ((pre.length : Nat) : Int) = some (.inr (i, b)) ∧ wfs letters suf = true) := by
  intro suf
  induction suf with
  | nil =>
    intro pre hks
    subst hks
    refine .inr ⟨((pre.length : Nat) : Int), false, Loop_end ?_, by simp only [wfs]⟩
    simp only [s_expr_wellFormed_1L, s_expr_wellFormed_1, List.append_nil, List.length_map, bif_decide]
    rw [if_neg (by omega)]
    simp
  | cons k suf ihs =>
    intro pre hks
    have hpl : pre.length < ks.length := by rw [hks]; simp
    have := maxLen_le
    have hix : idx (ks.map enc) (pre.length : Int) = some k.enc := by rw [hks]; exact idx_kid _ _ _
    have e1 := ih k (by rw [hks]; simp)
    cases hw : k.wf letters with
    | true =>
      have hstep : s_expr_wellFormed_1L CC letters (ks.map enc) ((ks.map enc).length : Int) ((pre.length : Nat) : Int) = some (.inl (((pre ++ [k]).length : Nat) : Int)) := by
        simp only [s_expr_wellFormed_1L, s_expr_wellFormed_1, List.length_map, bif_decide]
        rw [if_pos (by omega), hix]
        simp only [Option.bind_some, enc_0, enc_1, enc_2]
        rw [e1, hw]
        simp only [Option.bind_some, V.nth_zero, V.toBool_bool, Bool.not_true, cond_false]
        rw [wrap64 (by omega) (by omega)]
        simp
      rw [Loop_norm hstep]
      simp only [wfs, hw, Bool.true_and]
      exact ihs (pre ++ [k]) (by rw [hks]; simp)
    | false =>
      refine .inl ⟨Loop_end ?_, by simp only [wfs, hw, Bool.false_and]⟩
      simp only [s_expr_wellFormed_1L, s_expr_wellFormed_1, List.length_map, bif_decide]
      rw [if_pos (by omega), hix]
      simp only [Option.bind_some, enc_0, enc_1, enc_2]
      rw [e1, hw]
      simp only [Option.bind_some, V.nth_zero, V.toBool_bool, Bool.not_false, cond_true]
theorem op_cases (o : Int) : o = 1 ∨ o = 2 ∨ o = 3 ∨ o = 4 ∨ o = 5 ∨ o = 6 ∨ o = 7 ∨ o = 8 ∨ (o < 1 ∨ 8 < o) := by omega
theorem wellFormed_spec {letters : Int} : ∀ e : Ex, e.Ok → CC F_expr_wellFormed (exA e [.int .i64 letters]) = some [.bool (e.wf letters)] :=
  ind fun o lt ks ih hok => by
    refine f_expr_wellFormed_of ?_
    have hlen : ((ks.map enc).length : Int) = (ks.length : Int) := by simp
    have hl := wf_loop hok.len (fun k hk => ih k hk (hok.kid k hk)) ks [] rfl
    simp only [List.length_nil, Int.natCast_zero, Int.ofNat_zero] at hl
    have hall : (Loop (s_expr_wellFormed_1L CC letters (ks.map enc) ((ks.map enc).length : Int)) 0).bind (way2 (fun (t : Bool) => some [V.bool t]) (un fun (_ : Int) (_ : Bool) => some [V.bool true])) = some [.bool (wfs letters ks)] := by
      rcases hl with ⟨h1, h2⟩ | ⟨i, b, h1, h2⟩
      · erw [h1]; rw [h2]; rfl
      · erw [h1]; rw [h2]; rfl
    simp only [Ex.op, Ex.letter, Ex.kids]
    unfold f_expr_wellFormed
    rw [hall, hlen]
    simp only [Ex.wf, shapeOk]
    have hk0 : ks.length = 0 → wfs letters ks = true := fun h => by rw [List.eq_nil_of_length_eq_zero h]; simp only [wfs]
    rcases op_cases o with rfl | rfl | rfl | rfl | rfl | rfl | rfl | rfl | ho
    case inr.inr.inr.inr.inr.inr.inr.inr =>
      have n1 : o ≠ 1 := by omega
      have n2 : o ≠ 2 := by omega
      have n3 : o ≠ 3 := by omega
      have n4 : o ≠ 4 := by omega
      have n5 : o ≠ 5 := by omega
      have n6 : o ≠ 6 := by omega
      have n7 : o ≠ 7 := by omega
      have n8 : o ≠ 8 := by omega
      have n9 : ¬ (4 ≤ o ∧ o ≤ 6 ∧ 2 ≤ (ks.length : Int)) := by omega
      by_cases hlt : lt = 0 <;> simp [n1, n2, n3, n4, n5, n6, n7, n8, n9, hlt]
    all_goals by_cases hlt : lt = 0 <;> by_cases h0 : ks.length = 0 <;> by_cases h1 : ks.length = 1 <;> simp [hlt, h0, h1, hk0]
    all_goals (try omega)
    all_goals (try (split <;> simp_all <;> omega))
theorem shaped1 {C : CallF} {letters k o lt : Int} {ok t : Bool} {es : List V} {β : Type} (kr : Bool → Option β) : s_semigroupref04_shaped_1 C letters k ok t o lt es kr = kr (ok && (bif t then decide (0 ≤ lt ∧ lt < letters) else decide (lt = 0))) := by
  unfold s_semigroupref04_shaped_1
  have hb : (lt == 0) = decide (lt = 0) := by rw [Bool.eq_iff_iff]; simp
  rw [hb]
  cases t <;> cases ok <;> first | rfl | skip
  by_cases h : 0 ≤ lt <;> simp [h]
theorem shaped_loop {ks : List Ex} (hlen : ks.length ≤ maxLen) {letters o lt : Int} (ih : ∀ k ∈ ks, CC F_semigroupref04_shaped (exA k [.int .i64 letters]) = some [.bool (k.wf letters)]) :
    ∀ (suf pre : List Ex) (ok : Bool), ks = pre ++ suf →
    ∃ i b, Loop (s_semigroupref04_shaped_2L CC letters (ks.length : Int) o lt (ks.map enc)) (ok, ((pre.length : Nat) : Int)) = some (ok && wfs letters suf, i, b) := by
  intro suf
  induction suf with
  | nil =>
    intro pre ok hks
    subst hks
    refine ⟨((pre.length : Nat) : Int), false, Loop_end ?_⟩
    simp only [s_semigroupref04_shaped_2L, s_semigroupref04_shaped_2, un, List.append_nil, bif_decide]
    rw [if_neg (by omega)]
    simp [wfs]
  | cons k suf ihs =>
    intro pre ok hks
    have hpl : pre.length < ks.length := by rw [hks]; simp
    have := maxLen_le
    have hix : idx (ks.map enc) (pre.length : Int) = some k.enc := by rw [hks]; exact idx_kid _ _ _
    have e1 := ih k (by rw [hks]; simp)
    cases ok with
    | true =>
      have hstep : s_semigroupref04_shaped_2L CC letters (ks.length : Int) o lt (ks.map enc) (true, ((pre.length : Nat) : Int)) = some (.inl (k.wf letters, (((pre ++ [k]).length : Nat) : Int))) := by
        simp only [s_semigroupref04_shaped_2L, s_semigroupref04_shaped_2, un, bif_decide, cond_true]
        rw [if_pos (by omega), hix]
        simp only [Option.bind_some, enc_0, enc_1, enc_2]
        rw [e1]
        simp only [Option.bind_some, V.nth_zero, V.toBool_bool]
        rw [wrap64 (by omega) (by omega)]
        simp
      rw [Loop_norm hstep]
      simp only [wfs, Bool.true_and]
      exact ihs (pre ++ [k]) _ (by rw [hks]; simp)
    | false =>
      refine ⟨((pre.length : Nat) : Int), false, Loop_end ?_⟩
      simp only [s_semigroupref04_shaped_2L, s_semigroupref04_shaped_2, un, bif_decide, cond_false]
      rw [if_pos (by omega)]
      simp
theorem shaped_spec {letters : Int} : ∀ e : Ex, e.Ok → CC F_semigroupref04_shaped (exA e [.int .i64 letters]) = some [.bool (e.wf letters)] :=
  ind fun o lt ks ih hok => by
    refine f_semigroupref04_shaped_of ?_
    have hlen : ((ks.map enc).length : Int) = (ks.length : Int) := by simp
    have hall : ∀ ok : Bool, (Loop (s_semigroupref04_shaped_2L CC letters (ks.length : Int) o lt (ks.map enc)) (ok, 0)).bind (un fun (ok : Bool) => un fun (_ : Int) (_ : Bool) => some [V.bool ok]) = some [.bool (ok && wfs letters ks)] := by
      intro ok
      obtain ⟨i, b, h⟩ := shaped_loop hok.len (o := o) (lt := lt) (fun k hk => ih k hk (hok.kid k hk)) ks [] ok rfl
      simp only [List.length_nil, Int.natCast_zero, Int.ofNat_zero] at h
      erw [h]; rfl
    simp only [Ex.op, Ex.letter, Ex.kids]
    unfold f_semigroupref04_shaped
    simp only [shaped1, hlen, hall]
    simp only [Ex.wf, shapeOk]
    have hk0 : ks.length = 0 → wfs letters ks = true := fun h => by rw [List.eq_nil_of_length_eq_zero h]; simp only [wfs]
    rcases op_cases o with rfl | rfl | rfl | rfl | rfl | rfl | rfl | rfl | ho
    case inr.inr.inr.inr.inr.inr.inr.inr =>
      have n1 : o ≠ 1 := by omega
      have n2 : o ≠ 2 := by omega
      have n3 : o ≠ 3 := by omega
      have n4 : o ≠ 4 := by omega
      have n5 : o ≠ 5 := by omega
      have n6 : o ≠ 6 := by omega
      have n7 : o ≠ 7 := by omega
      have n8 : o ≠ 8 := by omega
      have n9 : ¬ (4 ≤ o ∧ o ≤ 6 ∧ 2 ≤ (ks.length : Int)) := by omega
      by_cases h1 : 1 ≤ o
      · have h2 : ¬ o ≤ 8 := by omega
        simp [n1, n2, n3, n4, n5, n6, n7, n8, n9, h1, h2]
      · simp [n1, n2, n3, n4, n5, n6, n7, n8, n9, h1]
    all_goals by_cases hlt : lt = 0 <;> by_cases h0 : ks.length = 0 <;> by_cases h1 : ks.length = 1 <;> simp [hlt, h0, h1, hk0]
    all_goals (try omega)
    all_goals (try (split <;> simp_all <;> omega))
    all_goals (try (by_cases h5 : 2 ≤ ks.length <;> simp [h5]))
    all_goals (rw [show ((ks.length : Int) == 1) = decide ((ks.length : Int) = 1) from by rw [Bool.eq_iff_iff]; simp])
theorem mayLetters_spec (letters : Int) : CC F_semigroupref01_MayLetters [.int .i64 letters] = some [.bool (decide (1 ≤ letters ∧ letters ≤ 6))] := by
  refine f_semigroupref01_MayLetters_of ?_
  unfold f_semigroupref01_MayLetters
  by_cases h1 : 1 ≤ letters <;> by_cases h2 : letters ≤ 6 <;> simp [h1, h2]
theorem within_spec (e : Ex) (h : e.Ok) : CC F_semigroupref04_Within (exA e []) = some [.bool (decide (e.depth ≤ 40 ∧ e.size ≤ 400))] := by
  obtain ⟨d, e1, e2⟩ := measure_spec e h 400 (by omega) (by omega)
  refine f_semigroupref04_Within_of ?_
  unfold f_semigroupref04_Within
  rw [e1]
  simp only [Option.bind_some, V.nth_zero, V.toInt_int, bif_decide, List.drop_succ_cons, List.drop_zero]
  by_cases hs : e.size ≤ 400
  · rw [if_pos (by omega), e2 (by omega)]
    congr 3
    rw [decide_eq_decide]
    omega
  · rw [if_neg (by omega)]
    congr 3
    simp [hs]
def Ex.val (e : Ex) (letters : Int) : Int :=
  if 1 ≤ letters ∧ letters ≤ 6 then (if e.depth ≤ 40 ∧ e.size ≤ 400 then (if e.wf letters = true then 0 else 4) else 3) else 1
theorem exVal_spec (e : Ex) (h : e.Ok) (letters : Int) : CC F_expr_Validate (exA e [.int .i64 letters]) = some [.int .i64 (e.val letters)] := by
  refine f_expr_Validate_of ?_
  unfold f_expr_Validate Ex.val
  rw [withinLimits_spec e h, wellFormed_spec e h]
  by_cases h1 : 1 ≤ letters
  · by_cases h2 : letters ≤ 6
    · by_cases h3 : e.depth ≤ 40 ∧ e.size ≤ 400
      · cases h4 : e.wf letters <;> simp [h1, h2, h3, show ¬ letters < 1 by omega, show ¬ 6 < letters by omega]
      · simp [h1, h2, h3, show ¬ letters < 1 by omega, show ¬ 6 < letters by omega]
    · simp [h1, h2, show ¬ letters < 1 by omega, show 6 < letters by omega]
  · simp [h1, show letters < 1 by omega]
theorem exRefVal_spec (e : Ex) (h : e.Ok) (letters : Int) : CC F_semigroupref04_Validate (exA e [.int .i64 letters]) = some [.int .i64 (e.val letters)] := by
  refine f_semigroupref04_Validate_of ?_
  unfold f_semigroupref04_Validate Ex.val
  rw [within_spec e h, shaped_spec e h, mayLetters_spec]
  by_cases h1 : 1 ≤ letters ∧ letters ≤ 6
  · by_cases h3 : e.depth ≤ 40 ∧ e.size ≤ 400
    · cases h4 : e.wf letters <;> simp [h1, h3]
    · simp [h1, h3]
  · simp [h1]
end Go.AM
set_option maxRecDepth 100000
namespace Go.AM
open Go.Proofs
noncomputable def f_expr_Compare (C : CallF) (a_0 a_1 : Int) (a_2 : List V) (b'_0 b'_1 : Int) (b'_2 : List V) : Option (List V) :=
  bif (a_0 : Int) != b'_0 then
   (C F_cmp_Compare_int_ [.int .i64 a_0, .int .i64 b'_0]).bind fun r1 =>
   some [.int .i64 ((V.nth r1 0).toInt)]
  else
   bif (a_1 : Int) != b'_1 then
    (C F_cmp_Compare_int_ [.int .i64 a_1, .int .i64 b'_1]).bind fun r2 =>
    some [.int .i64 ((V.nth r2 0).toInt)]
   else
    (C F_slices_CompareFunc___api_Expr___api_Expr_api_Expr_api_Expr_ [.list T_api_Expr a_2, .list T_api_Expr b'_2]).bind fun r3 =>
    some [.int .i64 ((V.nth r3 0).toInt)]
theorem f_expr_Compare_of {a_0 a_1 : Int} {a_2 : List V} {b'_0 b'_1 : Int} {b'_2 : List V} {r : Option (List V)} (h : f_expr_Compare CC a_0 a_1 a_2 b'_0 b'_1 b'_2 = r) : CC F_expr_Compare [.int .i64 a_0, .int .i64 a_1, .list T_api_Expr a_2, .int .i64 b'_0, .int .i64 b'_1, .list T_api_Expr b'_2] = r :=
  func_of (key := 19) (L := LT0) (bs := []) (by kernel_rfl) tells_nil (Eq.trans (by kernel_rfl) h)
end Go.AM
set_option maxRecDepth 100000
namespace Go.AM
open Go.Proofs
noncomputable abbrev B_slices_CompareFunc___api_Expr___api_Expr_api_Expr_api_Expr_ : Code := bodyOf Try.prog (ann.fid 45)
noncomputable def s_slices_CompareFunc___api_Expr___api_Expr_api_Expr_api_Expr__1 (C : CallF) (s1 s2 t11 : List V) (t12 t13 : Int) {β : Type} (kn : Int → Option β) (kr : ((Int) ⊕ (Int × Bool)) → Option β) : Option β :=
  bif decide ((t13 : Int) < t12) then
   (idx t11 t13).bind fun x1 =>
   bif decide ((t13 : Int) ≥ (s2.length : Int)) then
    kr (.inl 1)
   else
    (idx s2 t13).bind fun x2 =>
    (C F_expr_Compare [.int .i64 ((x1.cell 0).toInt), .int .i64 ((x1.cell 1).toInt), .list T_api_Expr ((x1.cell 2).toList), .int .i64 ((x2.cell 0).toInt), .int .i64 ((x2.cell 1).toInt), .list T_api_Expr ((x2.cell 2).toList)]).bind fun r3 =>
    bif (((V.nth r3 0).toInt) : Int) != 0 then
     kr (.inl ((V.nth r3 0).toInt))
    else
     kn (IntKind.wrap .i64 (t13 + 1))
  else
   kr (.inr (t13, decide ((t13 : Int) < t12)))
noncomputable def s_slices_CompareFunc___api_Expr___api_Expr_api_Expr_api_Expr__1L (C : CallF) (s1 s2 t11 : List V) (t12 : Int) : (Int) → Option ((Int) ⊕ ((Int) ⊕ (Int × Bool))) := fun t13 => s_slices_CompareFunc___api_Expr___api_Expr_api_Expr_api_Expr__1 C s1 s2 t11 t12 t13 (fun y => some (.inl y)) (fun r => some (.inr r))
noncomputable def LT_slices_CompareFunc___api_Expr___api_Expr_api_Expr_api_Expr_ (C : CallF) : LTab := fun β n ds k =>
  bif Nat.beq n 33 then loopS S45_33 [false, false, false, false, true] [[0], [1, 2, 3, 4, 0, 0]] (@s_slices_CompareFunc___api_Expr___api_Expr_api_Expr_api_Expr__1 C) ds k else
  none
abbrev TS_slices_CompareFunc___api_Expr___api_Expr_api_Expr_api_Expr_ (C : CallF) (b : Bar) : Prop := Tells Try.prog ann C (LT_slices_CompareFunc___api_Expr___api_Expr_api_Expr_api_Expr_ C) 45 (ntmpsOf Try.prog (ann.fid 45)) (ann.sin 45).blks.length b
theorem t_slices_CompareFunc___api_Expr___api_Expr_api_Expr_api_Expr__1 (C : CallF) : TS_slices_CompareFunc___api_Expr___api_Expr_api_Expr_api_Expr_ C (.loop (codeAt [1, 0, 1, 0, 0] B_slices_CompareFunc___api_Expr___api_Expr_api_Expr_api_Expr_)) :=
  tl3 S45_33 [false, false, false, false, true] [[0], [1, 2, 3, 4, 0, 0]] (@s_slices_CompareFunc___api_Expr___api_Expr_api_Expr_api_Expr__1 C) (by kernel_rfl) (ltok_of (bs := []) (by kernel_rfl) tells_nil) (fun ds => by kernel_rfl) (fun i x => by kernel_rfl) (fun i x β k => by kernel_rfl) (fun β ds k => by kernel_rfl)
noncomputable def f_slices_CompareFunc___api_Expr___api_Expr_api_Expr_api_Expr_ (C : CallF) (s1 s2 : List V) : Option (List V) :=
  (Loop (s_slices_CompareFunc___api_Expr___api_Expr_api_Expr_api_Expr__1L C s1 s2 s1 (s1.length : Int)) 0).bind (way2 (fun (t_4 : Int) =>
    some [.int .i64 t_4]) (un fun (t_5 : Int) (t_6 : Bool) =>
    bif decide (((s1.length : Int) : Int) < (s2.length : Int)) then
     some [.int .i64 (-1)]
    else
     some [.int .i64 0]))
theorem f_slices_CompareFunc___api_Expr___api_Expr_api_Expr_api_Expr__of {s1 s2 : List V} {r : Option (List V)} (h : f_slices_CompareFunc___api_Expr___api_Expr_api_Expr_api_Expr_ CC s1 s2 = r) : CC F_slices_CompareFunc___api_Expr___api_Expr_api_Expr_api_Expr_ [.list T_api_Expr s1, .list T_api_Expr s2] = r :=
  func_of (key := 45) (L := LT_slices_CompareFunc___api_Expr___api_Expr_api_Expr_api_Expr_ CC) (bs := [.loop (codeAt [1, 0, 1, 0, 0] B_slices_CompareFunc___api_Expr___api_Expr_api_Expr_api_Expr_)]) (by kernel_rfl) (tells_cons (t_slices_CompareFunc___api_Expr___api_Expr_api_Expr_api_Expr__1 CC) tells_nil) (Eq.trans (by kernel_rfl) h)
end Go.AM
set_option maxRecDepth 100000
namespace Go.AM
open Go.Proofs
noncomputable def f_cmp_Compare_int_ (C : CallF) (x y : Int) : Option (List V) :=
  (C F_cmp_isNaN_int_ [.int .i64 x]).bind fun r1 =>
  (C F_cmp_isNaN_int_ [.int .i64 y]).bind fun r2 =>
  bif (V.nth r1 0).toBool then
   bif (V.nth r2 0).toBool then
    some [.int .i64 0]
   else
    some [.int .i64 (-1)]
  else
   bif (V.nth r2 0).toBool then
    some [.int .i64 1]
   else
    bif decide ((x : Int) < y) then
     some [.int .i64 (-1)]
    else
     bif decide ((x : Int) > y) then
      some [.int .i64 1]
     else
      some [.int .i64 0]
theorem f_cmp_Compare_int__of {x y : Int} {r : Option (List V)} (h : f_cmp_Compare_int_ CC x y = r) : CC F_cmp_Compare_int_ [.int .i64 x, .int .i64 y] = r :=
  func_of (key := 44) (L := LT0) (bs := []) (by kernel_rfl) tells_nil (Eq.trans (by kernel_rfl) h)
end Go.AM
set_option maxRecDepth 100000
namespace Go.AM
open Go.Proofs
noncomputable def f_cmp_isNaN_int_ (C : CallF) (x : Int) : Option (List V) :=
  some [.bool ((x : Int) != x)]
theorem f_cmp_isNaN_int__of {x : Int} {r : Option (List V)} (h : f_cmp_isNaN_int_ CC x = r) : CC F_cmp_isNaN_int_ [.int .i64 x] = r :=
  func_of (key := 64) (L := LT0) (bs := []) (by kernel_rfl) tells_nil (Eq.trans (by kernel_rfl) h)
end Go.AM
set_option maxRecDepth 100000
namespace Go.AM
open Go.Proofs
noncomputable abbrev B_semigroupref04_Compare : Code := bodyOf Try.prog (ann.fid 20)
noncomputable def s_semigroupref04_Compare_1 (C : CallF) (as_0 as_1 : Int) (as_2 : List V) (b's_0 b's_1 : Int) (b's_2 : List V) (i : Int) {β : Type} (kn : Int → Option β) (kr : ((Int) ⊕ (Int × Bool)) → Option β) : Option β :=
  bif decide ((i : Int) < (as_2.length : Int)) then
   bif decide ((i : Int) < (b's_2.length : Int)) then
    (idx as_2 i).bind fun x3 =>
    (idx b's_2 i).bind fun x4 =>
    (C F_semigroupref04_Compare [.int .i64 ((x3.cell 0).toInt), .int .i64 ((x3.cell 1).toInt), .list T_api_Expr ((x3.cell 2).toList), .int .i64 ((x4.cell 0).toInt), .int .i64 ((x4.cell 1).toInt), .list T_api_Expr ((x4.cell 2).toList)]).bind fun r5 =>
    bif (((V.nth r5 0).toInt) : Int) != 0 then
     kr (.inl ((V.nth r5 0).toInt))
    else
     kn (IntKind.wrap .i64 (i + 1))
   else
    kr (.inr (i, decide ((i : Int) < (b's_2.length : Int))))
  else
   kr (.inr (i, false))
noncomputable def s_semigroupref04_Compare_1L (C : CallF) (as_0 as_1 : Int) (as_2 : List V) (b's_0 b's_1 : Int) (b's_2 : List V) : (Int) → Option ((Int) ⊕ ((Int) ⊕ (Int × Bool))) := fun i => s_semigroupref04_Compare_1 C as_0 as_1 as_2 b's_0 b's_1 b's_2 i (fun y => some (.inl y)) (fun r => some (.inr r))
noncomputable def LT_semigroupref04_Compare (C : CallF) : LTab := fun β n ds k =>
  bif Nat.beq n 97 then loopS S20_97 [true, false, false, false, false, false, false] [[0], [0, 0, 2, 3, 4, 5, 6, 7]] (@s_semigroupref04_Compare_1 C) ds k else
  none
abbrev TS_semigroupref04_Compare (C : CallF) (b : Bar) : Prop := Tells Try.prog ann C (LT_semigroupref04_Compare C) 20 (ntmpsOf Try.prog (ann.fid 20)) (ann.sin 20).blks.length b
theorem t_semigroupref04_Compare_1 (C : CallF) : TS_semigroupref04_Compare C (.loop (codeAt [1, 1, 0, 1, 0, 0] B_semigroupref04_Compare)) :=
  tl3 S20_97 [true, false, false, false, false, false, false] [[0], [0, 0, 2, 3, 4, 5, 6, 7]] (@s_semigroupref04_Compare_1 C) (by kernel_rfl) (ltok_of (bs := []) (by kernel_rfl) tells_nil) (fun ds => by kernel_rfl) (fun i x => by kernel_rfl) (fun i x β k => by kernel_rfl) (fun β ds k => by kernel_rfl)
noncomputable def f_semigroupref04_Compare (C : CallF) (a_0 a_1 : Int) (a_2 : List V) (b'_0 b'_1 : Int) (b'_2 : List V) : Option (List V) :=
  bif (a_0 : Int) != b'_0 then
   (C F_semigroupref04_sign [.bool (decide ((a_0 : Int) < b'_0))]).bind fun r1 =>
   some [.int .i64 ((V.nth r1 0).toInt)]
  else
   bif (a_1 : Int) != b'_1 then
    (C F_semigroupref04_sign [.bool (decide ((a_1 : Int) < b'_1))]).bind fun r2 =>
    some [.int .i64 ((V.nth r2 0).toInt)]
   else
    (Loop (s_semigroupref04_Compare_1L C a_0 a_1 a_2 b'_0 b'_1 b'_2) 0).bind (way2 (fun (t_6 : Int) =>
      some [.int .i64 t_6]) (un fun (i_7 : Int) (t_8 : Bool) =>
      bif ((a_2.length : Int) : Int) == (b'_2.length : Int) then
       some [.int .i64 0]
      else
       (C F_semigroupref04_sign [.bool (decide (((a_2.length : Int) : Int) < (b'_2.length : Int)))]).bind fun r9 =>
       some [.int .i64 ((V.nth r9 0).toInt)]))
theorem f_semigroupref04_Compare_of {a_0 a_1 : Int} {a_2 : List V} {b'_0 b'_1 : Int} {b'_2 : List V} {r : Option (List V)} (h : f_semigroupref04_Compare CC a_0 a_1 a_2 b'_0 b'_1 b'_2 = r) : CC F_semigroupref04_Compare [.int .i64 a_0, .int .i64 a_1, .list T_api_Expr a_2, .int .i64 b'_0, .int .i64 b'_1, .list T_api_Expr b'_2] = r :=
  func_of (key := 20) (L := LT_semigroupref04_Compare CC) (bs := [.loop (codeAt [1, 1, 0, 1, 0, 0] B_semigroupref04_Compare)]) (by kernel_rfl) (tells_cons (t_semigroupref04_Compare_1 CC) tells_nil) (Eq.trans (by kernel_rfl) h)
end Go.AM
set_option maxRecDepth 100000
namespace Go.AM
open Go.Proofs
noncomputable def f_semigroupref04_sign (C : CallF) (less : Bool) : Option (List V) :=
  bif less then
   some [.int .i64 (-1)]
  else
   some [.int .i64 1]
theorem f_semigroupref04_sign_of {less : Bool} {r : Option (List V)} (h : f_semigroupref04_sign CC less = r) : CC F_semigroupref04_sign [.bool less] = r :=
  func_of (key := 46) (L := LT0) (bs := []) (by kernel_rfl) tells_nil (Eq.trans (by kernel_rfl) h)
end Go.AM
set_option maxRecDepth 100000
set_option linter.unusedSimpArgs false
namespace Go.AM
open Go.Proofs Ex
def sgn (less : Bool) : Int := if less then -1 else 1
mutual
def Ex.cmp : Ex → Ex → Int
  | .node o l ks, e => if o ≠ e.op then sgn (decide (o < e.op)) else if l ≠ e.letter then sgn (decide (l < e.letter)) else cmps ks e.kids
def Ex.cmps : List Ex → List Ex → Int
  | [], [] => 0
  | [], _ :: _ => -1
  | _ :: _, [] => 1
  | k :: ks, k' :: ks' => if cmp k k' ≠ 0 then cmp k k' else cmps ks ks'
end
theorem cmp_node (o l o' l' : Int) (ks ks' : List Ex) : cmp (.node o l ks) (.node o' l' ks') = if o ≠ o' then sgn (decide (o < o')) else if l ≠ l' then sgn (decide (l < l')) else cmps ks ks' := by
  rw [cmp]; rfl
theorem sgn_range (b : Bool) : sgn b = -1 ∨ sgn b = 1 := by cases b <;> simp [sgn]
theorem cmps_self (ks : List Ex) (ih : ∀ k ∈ ks, cmp k k = 0) : cmps ks ks = 0 := by
  induction ks with
  | nil => simp [cmps]
  | cons k ks ih2 => simp [cmps, ih k (by simp), ih2 fun k hk => ih k (by simp [hk])]
theorem cmp_self : ∀ e : Ex, cmp e e = 0 := ind fun o l ks ih => by
  rw [cmp_node]; simp [cmps_self ks ih]
theorem sgn_flip {a b : Int} (h : a ≠ b) : sgn (decide (b < a)) = - sgn (decide (a < b)) := by
  by_cases h1 : a < b
  · have : ¬ b < a := by omega
    simp [sgn, h1, this]
  · have : b < a := by omega
    simp [sgn, h1, this]
theorem cmps_anti (ks : List Ex) (ih : ∀ k ∈ ks, ∀ e, cmp e k = - cmp k e) : ∀ ks', cmps ks' ks = - cmps ks ks' := by
  induction ks with
  | nil => intro ks'; cases ks' <;> simp [cmps]
  | cons k ks ih2 =>
    intro ks'
    cases ks' with
    | nil => simp [cmps]
    | cons k' ks' =>
      simp only [cmps, ih k (by simp) k', ih2 (fun k hk => ih k (by simp [hk])) ks']
      by_cases h : cmp k k' = 0
      · simp [h]
      · have : - cmp k k' ≠ 0 := by omega
        simp [h, this]
theorem cmp_anti : ∀ e e' : Ex, cmp e' e = - cmp e e' :=
  ind fun o l ks ih e' => by
    obtain ⟨o', l', ks'⟩ := e'
    rw [cmp_node, cmp_node]
    by_cases h1 : o = o'
    · subst h1
      by_cases h2 : l = l'
      · subst h2
        simp [cmps_anti ks ih]
      · have h2' : l' ≠ l := fun e => h2 e.symm
        simp only [ne_eq, not_true_eq_false, if_false, h2, h2', not_false_eq_true, if_true]; exact sgn_flip h2
    · have h1' : o' ≠ o := fun e => h1 e.symm
      simp only [ne_eq, h1, h1', not_false_eq_true, if_true]; exact sgn_flip h1
theorem cmps_eq (ks : List Ex) (ih : ∀ k ∈ ks, ∀ e, cmp k e = 0 → k = e) : ∀ ks', cmps ks ks' = 0 → ks = ks' := by
  induction ks with
  | nil => intro ks' h; cases ks' <;> simp [cmps] at h ⊢
  | cons k ks ih2 =>
    intro ks' h
    cases ks' with
    | nil => simp [cmps] at h
    | cons k' ks' =>
      simp only [cmps] at h
      by_cases h1 : cmp k k' = 0
      · rw [ih k (by simp) k' h1, ih2 (fun k hk => ih k (by simp [hk])) ks' (by simpa [h1] using h)]
      · simp [h1] at h
theorem cmp_eq : ∀ e e' : Ex, cmp e e' = 0 → e = e' :=
  ind fun o l ks ih e' h => by
    obtain ⟨o', l', ks'⟩ := e'
    rw [cmp_node] at h
    have s1 := sgn_range (decide (o < o'))
    have s2 := sgn_range (decide (l < l'))
    by_cases h1 : o = o'
    · by_cases h2 : l = l'
      · rw [h1, h2, cmps_eq ks ih ks' (by simpa [h1, h2] using h)]
      · have hne : sgn (decide (l < l')) ≠ 0 := by omega
        rw [if_neg (by simp [h1]), if_pos h2] at h
        exact absurd h hne
    · have hne : sgn (decide (o < o')) ≠ 0 := by omega
      rw [if_pos h1] at h
      exact absurd h hne
theorem cmps_trans (a : List Ex) (ih : ∀ k ∈ a, ∀ b c, cmp k b ≤ 0 → cmp b c ≤ 0 → cmp k c ≤ 0) : ∀ b c, cmps a b ≤ 0 → cmps b c ≤ 0 → cmps a c ≤ 0 := by
  induction a with
  | nil => intro b c _ _; cases c <;> simp [cmps]
  | cons x a ih2 =>
    intro b c h1 h2
    cases b with
    | nil => simp [cmps] at h1
    | cons y b =>
      cases c with
      | nil => simp [cmps] at h2
      | cons z c =>
        simp only [cmps] at h1 h2 ⊢
        have hxy : cmp x y ≤ 0 := by by_cases h : cmp x y = 0 <;> simp [h] at h1 ⊢; exact h1
        have hyz : cmp y z ≤ 0 := by by_cases h : cmp y z = 0 <;> simp [h] at h2 ⊢; exact h2
        have hxz := ih x (by simp) y z hxy hyz
        by_cases h : cmp x z = 0
        · have := cmp_eq x z h
          subst this
          have h3 := cmp_anti x y
          have h4 : cmp x y = 0 := by omega
          have h5 : cmp y x = 0 := by omega
          simp only [h, ne_eq, not_true_eq_false, if_false]
          simp only [h4, h5, ne_eq, not_true_eq_false, if_false] at h1 h2
          exact ih2 (fun k hk => ih k (by simp [hk])) b c h1 h2
        · simp [h]; exact hxz
theorem sgn_le {x y : Int} : sgn (decide (x < y)) ≤ 0 ↔ x < y := by
  by_cases h : x < y
  · simp [sgn, h]
  · simp [sgn, h]
theorem cmp_trans : ∀ a b c : Ex, cmp a b ≤ 0 → cmp b c ≤ 0 → cmp a c ≤ 0 :=
  ind fun o l ks ih b c h1 h2 => by
    obtain ⟨o', l', ks'⟩ := b
    obtain ⟨o'', l'', ks''⟩ := c
    rw [cmp_node] at h1 h2 ⊢
    by_cases e1 : o = o'
    · subst e1
      by_cases e2 : o = o''
      · subst e2
        simp only [ne_eq, not_true_eq_false, if_false] at h1 h2 ⊢
        by_cases e3 : l = l'
        · subst e3
          by_cases e4 : l = l''
          · subst e4
            simp only [ne_eq, not_true_eq_false, if_false] at h1 h2 ⊢
            exact cmps_trans ks ih _ _ h1 h2
          · simp only [ne_eq, e4, not_false_eq_true, if_true] at h2 ⊢
            exact h2
        · rw [if_pos e3, sgn_le] at h1
          by_cases e5 : l' = l''
          · subst e5
            rw [if_pos e3, sgn_le]
            exact h1
          · rw [if_pos e5, sgn_le] at h2
            rw [if_pos (show l ≠ l'' by omega), sgn_le]
            omega
      · simp only [ne_eq, e2, not_false_eq_true, if_true] at h2 ⊢
        exact h2
    · rw [if_pos e1, sgn_le] at h1
      by_cases e5 : o' = o''
      · subst e5
        rw [if_pos e1, sgn_le]
        exact h1
      · rw [if_pos e5, sgn_le] at h2
        rw [if_pos (show o ≠ o'' by omega), sgn_le]
        omega
theorem cmpInt_spec (x y : Int) : CC F_cmp_Compare_int_ [.int .i64 x, .int .i64 y] = some [.int .i64 (if x < y then -1 else if y < x then 1 else 0)] := by
  refine f_cmp_Compare_int__of ?_
  unfold f_cmp_Compare_int_
  have h : ∀ z : Int, CC F_cmp_isNaN_int_ [.int .i64 z] = some [.bool false] := fun z => f_cmp_isNaN_int__of (by simp [f_cmp_isNaN_int_])
  rw [h, h]
  by_cases h1 : x < y
  · simp [h1]
  · by_cases h2 : y < x
    · simp [h1, h2]
    · simp [h1, h2]
theorem cmpInt_ne {x y : Int} (h : x ≠ y) : CC F_cmp_Compare_int_ [.int .i64 x, .int .i64 y] = some [.int .i64 (sgn (decide (x < y)))] := by
  rw [cmpInt_spec]
  by_cases h1 : x < y
  · simp [sgn, h1]
  · simp [sgn, h1, show y < x by omega]
theorem cmpf_loop {ks ks' : List Ex} (hlen : ks.length ≤ maxLen) (ih : ∀ k ∈ ks, ∀ e : Ex, e.Ok → CC F_expr_Compare (exA k (exA e [])) = some [.int .i64 (cmp k e)]) (hk' : ∀ k ∈ ks', Ex.Ok k) :
    ∀ (suf pre suf' pre' : List Ex), ks = pre ++ suf → ks' = pre' ++ suf' → pre.length = pre'.length →
    (∃ c, Loop (s_slices_CompareFunc___api_Expr___api_Expr_api_Expr_api_Expr__1L CC (ks.map enc) (ks'.map enc) (ks.map enc) ((ks.map enc).length : Int)) ((pre.length : Nat) : Int) = some (.inl c) ∧ cmps suf suf' = c) ∨
    (∃ i b, Loop (s_slices_CompareFunc___api_Expr___api_Expr_api_Expr_api_Expr__1L CC (ks.map enc) (ks'.map enc) (ks.map enc) ((ks.map enc).length : Int)) ((pre.length : Nat) : Int) = some (.inr (i, b)) ∧ cmps suf suf' = if ks.length < ks'.length then -1 else 0) := by
  intro suf
  induction suf with
  | nil =>
    intro pre suf' pre' hks hks' hpp
    subst hks
    refine .inr ⟨((pre.length : Nat) : Int), false, Loop_end ?_, ?_⟩
    · simp only [s_slices_CompareFunc___api_Expr___api_Expr_api_Expr_api_Expr__1L, s_slices_CompareFunc___api_Expr___api_Expr_api_Expr_api_Expr__1, List.append_nil, List.length_map, bif_decide]
      rw [if_neg (by omega)]
      simp
    · cases suf' with
      | nil => simp [cmps, hks', hpp]
      | cons a l => simp [cmps, hks', hpp]
  | cons k suf ihs =>
    intro pre suf' pre' hks hks' hpp
    have hpl : pre.length < ks.length := by rw [hks]; simp
    have := maxLen_le
    have hix : idx (ks.map enc) (pre.length : Int) = some k.enc := by rw [hks]; exact idx_kid _ _ _
    cases suf' with
    | nil =>
      refine .inl ⟨1, Loop_end ?_, by simp [cmps]⟩
      have hl : ks'.length = pre.length := by rw [hks', hpp]; simp
      simp only [s_slices_CompareFunc___api_Expr___api_Expr_api_Expr_api_Expr__1L, s_slices_CompareFunc___api_Expr___api_Expr_api_Expr_api_Expr__1, List.length_map, bif_decide]
      rw [if_pos (by omega), hix]
      simp only [Option.bind_some]
      rw [if_pos (by omega)]
    | cons k' suf' =>
      have hl : pre.length < ks'.length := by rw [hks', hpp]; simp
      have hix' : idx (ks'.map enc) (pre.length : Int) = some k'.enc := by rw [hks', hpp]; exact idx_kid _ _ _
      have e1 := ih k (by rw [hks]; simp) k' (hk' k' (by rw [hks']; simp))
      by_cases hc : cmp k k' = 0
      · have hstep : s_slices_CompareFunc___api_Expr___api_Expr_api_Expr_api_Expr__1L CC (ks.map enc) (ks'.map enc) (ks.map enc) ((ks.map enc).length : Int) ((pre.length : Nat) : Int) = some (.inl (((pre ++ [k]).length : Nat) : Int)) := by
          simp only [s_slices_CompareFunc___api_Expr___api_Expr_api_Expr_api_Expr__1L, s_slices_CompareFunc___api_Expr___api_Expr_api_Expr_api_Expr__1, List.length_map, bif_decide]
          rw [if_pos (by omega), hix]
          simp only [Option.bind_some]
          rw [if_neg (by omega), hix']
          simp only [Option.bind_some, enc_0, enc_1, enc_2]
          rw [e1, hc]
          simp only [Option.bind_some, V.nth_zero, V.toInt_int, bif_bne, if_true]
          rw [wrap64 (by omega) (by omega)]
          simp
        rw [Loop_norm hstep]
        simp only [cmps, hc, ne_eq, not_true_eq_false, if_false]
        exact ihs (pre ++ [k]) suf' (pre' ++ [k']) (by rw [hks]; simp) (by rw [hks']; simp) (by simp [hpp])
      · refine .inl ⟨cmp k k', Loop_end ?_, by simp [cmps, hc]⟩
        simp only [s_slices_CompareFunc___api_Expr___api_Expr_api_Expr_api_Expr__1L, s_slices_CompareFunc___api_Expr___api_Expr_api_Expr_api_Expr__1, List.length_map, bif_decide]
        rw [if_pos (by omega), hix]
        simp only [Option.bind_some]
        rw [if_neg (by omega), hix']
        simp only [Option.bind_some, enc_0, enc_1, enc_2]
        rw [e1]
        simp only [Option.bind_some, V.nth_zero, V.toInt_int, bif_bne, if_neg hc]
theorem Compare_spec : ∀ a : Ex, a.Ok → ∀ b : Ex, b.Ok → CC F_expr_Compare (exA a (exA b [])) = some [.int .i64 (cmp a b)] :=
  ind fun o l ks ih hok b hb => by
    obtain ⟨o', l', ks'⟩ := b
    refine f_expr_Compare_of ?_
    unfold f_expr_Compare
    rw [cmp_node]
    simp only [Ex.op, Ex.letter, Ex.kids, bif_bne]
    by_cases h1 : o = o'
    · by_cases h2 : l = l'
      · rw [if_pos h1, if_pos h2, if_neg (by simp [h1]), if_neg (by simp [h2])]
        have hcf : CC F_slices_CompareFunc___api_Expr___api_Expr_api_Expr_api_Expr_ [.list T_api_Expr (ks.map enc), .list T_api_Expr (ks'.map enc)] = some [.int .i64 (cmps ks ks')] := by
          refine f_slices_CompareFunc___api_Expr___api_Expr_api_Expr_api_Expr__of ?_
          unfold f_slices_CompareFunc___api_Expr___api_Expr_api_Expr_api_Expr_
          rcases cmpf_loop hok.len (fun k hk e he => ih k hk (hok.kid k hk) e he) hb.kid ks [] ks' [] rfl rfl rfl with ⟨c, q1, q2⟩ | ⟨i, b, q1, q2⟩
          · simp only [List.length_nil, Int.ofNat_zero, Int.natCast_zero] at q1
            erw [q1]; rw [q2]; rfl
          · simp only [List.length_nil, Int.ofNat_zero, Int.natCast_zero] at q1
            erw [q1]; rw [q2]
            simp only [Option.bind_some, way2, un, List.length_map, bif_decide]
            by_cases hl : ks.length < ks'.length
            · rw [if_pos (by omega), if_pos hl]
            · rw [if_neg (by omega), if_neg hl]
        rw [hcf]
        simp
      · rw [if_pos h1, if_neg h2, if_neg (by simp [h1]), if_pos h2, cmpInt_ne h2]
        simp
    · rw [if_neg h1, if_pos h1, cmpInt_ne h1]
      simp
theorem sign_spec (b : Bool) : CC F_semigroupref04_sign [.bool b] = some [.int .i64 (sgn b)] := by
  refine f_semigroupref04_sign_of ?_
  cases b <;> rfl
theorem cmpr_loop {ks ks' : List Ex} {a0 a1 b0 b1 : Int} (hlen : ks.length ≤ maxLen) (ih : ∀ k ∈ ks, ∀ e : Ex, e.Ok → CC F_semigroupref04_Compare (exA k (exA e [])) = some [.int .i64 (cmp k e)]) (hk' : ∀ k ∈ ks', Ex.Ok k) :
    ∀ (suf pre suf' pre' : List Ex), ks = pre ++ suf → ks' = pre' ++ suf' → pre.length = pre'.length →
    (∃ c, Loop (s_semigroupref04_Compare_1L CC a0 a1 (ks.map enc) b0 b1 (ks'.map enc)) ((pre.length : Nat) : Int) = some (.inl c) ∧ cmps suf suf' = c) ∨
    (∃ i b, Loop (s_semigroupref04_Compare_1L CC a0 a1 (ks.map enc) b0 b1 (ks'.map enc)) ((pre.length : Nat) : Int) = some (.inr (i, b)) ∧ cmps suf suf' = if ks.length = ks'.length then 0 else sgn (decide (ks.length < ks'.length))) := by
  intro suf
  induction suf with
  | nil =>
    intro pre suf' pre' hks hks' hpp
    subst hks
    refine .inr ⟨((pre.length : Nat) : Int), false, Loop_end ?_, ?_⟩
    · simp only [s_semigroupref04_Compare_1L, s_semigroupref04_Compare_1, List.append_nil, List.length_map, bif_decide]
      rw [if_neg (by omega)]
    · cases suf' with
      | nil => simp [cmps, hks', hpp]
      | cons a l => simp [cmps, hks', hpp, sgn]
  | cons k suf ihs =>
    intro pre suf' pre' hks hks' hpp
    have hpl : pre.length < ks.length := by rw [hks]; simp
    have := maxLen_le
    have hix : idx (ks.map enc) (pre.length : Int) = some k.enc := by rw [hks]; exact idx_kid _ _ _
    cases suf' with
    | nil =>
      have hl : ks'.length = pre.length := by rw [hks', hpp]; simp
      refine .inr ⟨((pre.length : Nat) : Int), false, Loop_end ?_, ?_⟩
      · simp only [s_semigroupref04_Compare_1L, s_semigroupref04_Compare_1, List.length_map, bif_decide]
        rw [if_pos (by omega), if_neg (by omega)]
        simp [hl]
      · rw [if_neg (by omega)]
        simp [cmps, sgn, show ¬ ks.length < ks'.length by omega]
    | cons k' suf' =>
      have hl : pre.length < ks'.length := by rw [hks', hpp]; simp
      have hix' : idx (ks'.map enc) (pre.length : Int) = some k'.enc := by rw [hks', hpp]; exact idx_kid _ _ _
      have e1 := ih k (by rw [hks]; simp) k' (hk' k' (by rw [hks']; simp))
      by_cases hc : cmp k k' = 0
      · have hstep : s_semigroupref04_Compare_1L CC a0 a1 (ks.map enc) b0 b1 (ks'.map enc) ((pre.length : Nat) : Int) = some (.inl (((pre ++ [k]).length : Nat) : Int)) := by
          simp only [s_semigroupref04_Compare_1L, s_semigroupref04_Compare_1, List.length_map, bif_decide]
          rw [if_pos (by omega), if_pos (by omega), hix, hix']
          simp only [Option.bind_some, enc_0, enc_1, enc_2]
          rw [e1, hc]
          simp only [Option.bind_some, V.nth_zero, V.toInt_int, bif_bne, if_true]
          rw [wrap64 (by omega) (by omega)]
          simp
        rw [Loop_norm hstep]
        simp only [cmps, hc, ne_eq, not_true_eq_false, if_false]
        exact ihs (pre ++ [k]) suf' (pre' ++ [k']) (by rw [hks]; simp) (by rw [hks']; simp) (by simp [hpp])
      · refine .inl ⟨cmp k k', Loop_end ?_, by simp [cmps, hc]⟩
        simp only [s_semigroupref04_Compare_1L, s_semigroupref04_Compare_1, List.length_map, bif_decide]
        rw [if_pos (by omega), if_pos (by omega), hix, hix']
        simp only [Option.bind_some, enc_0, enc_1, enc_2]
        rw [e1]
        simp only [Option.bind_some, V.nth_zero, V.toInt_int, bif_bne, if_neg hc]
theorem refCompare_spec : ∀ a : Ex, a.Ok → ∀ b : Ex, b.Ok → CC F_semigroupref04_Compare (exA a (exA b [])) = some [.int .i64 (cmp a b)] :=
  ind fun o l ks ih hok b hb => by
    obtain ⟨o', l', ks'⟩ := b
    refine f_semigroupref04_Compare_of ?_
    unfold f_semigroupref04_Compare
    rw [cmp_node]
    simp only [Ex.op, Ex.letter, Ex.kids, bif_bne]
    by_cases h1 : o = o'
    · by_cases h2 : l = l'
      · rw [if_pos h1, if_pos h2, if_neg (by simp [h1]), if_neg (by simp [h2])]
        rcases cmpr_loop (a0 := o) (a1 := l) (b0 := o') (b1 := l') hok.len (fun k hk e he => ih k hk (hok.kid k hk) e he) hb.kid ks [] ks' [] rfl rfl rfl with ⟨c, q1, q2⟩ | ⟨i, b, q1, q2⟩
        · simp only [List.length_nil, Int.ofNat_zero, Int.natCast_zero] at q1
          erw [q1]; rw [q2]; rfl
        · simp only [List.length_nil, Int.ofNat_zero, Int.natCast_zero] at q1
          erw [q1]; rw [q2]
          simp only [Option.bind_some, way2, un, List.length_map, bif_beq]
          by_cases hl : ks.length = ks'.length
          · rw [if_pos (by omega), if_pos hl]
          · rw [if_neg (by omega), if_neg hl, sign_spec]
            simp
      · rw [if_pos h1, if_neg h2, if_neg (by simp [h1]), if_pos h2, sign_spec]
        simp only [Option.bind_some, V.nth_zero, V.toInt_int]; rfl
    · rw [if_neg h1, if_pos h1, sign_spec]
      simp only [Option.bind_some, V.nth_zero, V.toInt_int]; rfl
end Go.AM
set_option maxRecDepth 100000
namespace Go.AM
open Go.Proofs
noncomputable def f_semigrouplaw04_same (C : CallF) (a_0 a_1 : Int) (a_2 : List V) (b'_0 b'_1 : Int) (b'_2 : List V) : Option (List V) :=
  (C F_semigroupref04_Compare [.int .i64 a_0, .int .i64 a_1, .list T_api_Expr a_2, .int .i64 b'_0, .int .i64 b'_1, .list T_api_Expr b'_2]).bind fun r1 =>
  some [.bool ((((V.nth r1 0).toInt) : Int) == 0)]
theorem f_semigrouplaw04_same_of {a_0 a_1 : Int} {a_2 : List V} {b'_0 b'_1 : Int} {b'_2 : List V} {r : Option (List V)} (h : f_semigrouplaw04_same CC a_0 a_1 a_2 b'_0 b'_1 b'_2 = r) : CC F_semigrouplaw04_same [.int .i64 a_0, .int .i64 a_1, .list T_api_Expr a_2, .int .i64 b'_0, .int .i64 b'_1, .list T_api_Expr b'_2] = r :=
  func_of (key := 18) (L := LT0) (bs := []) (by kernel_rfl) tells_nil (Eq.trans (by kernel_rfl) h)
end Go.AM
set_option maxRecDepth 100000
set_option linter.unusedSimpArgs false
namespace Go.AM
open Go.Proofs Ex
def ex0 : Ex := .node 0 0 []
def posX (l : List Ex) (x : Ex) : Nat → Nat
  | 0 => 0
  | k + 1 => if cmp x (l.getD k ex0) < 0 then posX l x k else k + 1
def insX (l : List Ex) (x : Ex) : List Ex :=
  let k := posX l x l.length
  if 0 < k ∧ cmp (l.getD (k - 1) ex0) x = 0 then l else l.take k ++ x :: l.drop k
theorem posX_le (l : List Ex) (x : Ex) : ∀ k, posX l x k ≤ k
  | 0 => Nat.le_refl _
  | k + 1 => by
    unfold posX; split
    · exact Nat.le_succ_of_le (posX_le l x k)
    · exact Nat.le_refl _
theorem okD {l : List Ex} (h : ∀ k ∈ l, k.Ok) {i : Nat} (hi : i < l.length) : (l.getD i ex0).Ok := by
  have e : l.getD i ex0 = l[i] := by simp [hi]
  rw [e]; exact h _ (List.getElem_mem hi)
def flatX (op : Int) (l : List Ex) : List Ex := l.flatMap fun k => if k.op = op then k.kids else [k]
def univ (e : Ex) : Bool := decide (e.op = 8 ∧ e.kids.length = 1 ∧ (e.kids.getD 0 ex0).op = 1)
theorem same_spec (a : Ex) (ha : a.Ok) (b : Ex) (hb : b.Ok) : CC F_semigrouplaw04_same (exA a (exA b [])) = some [.bool (decide (cmp a b = 0))] := by
  refine f_semigrouplaw04_same_of ?_
  unfold f_semigrouplaw04_same
  refine (congrArg (fun o => Option.bind o _) (refCompare_spec a ha b hb)).trans ?_
  simp only [Option.bind_some, V.nth_zero, V.toInt_int]
  congr 3
theorem same_iff {a b : Ex} : cmp a b = 0 ↔ a = b := ⟨cmp_eq a b, fun h => by rw [h]; exact cmp_self b⟩
end Go.AM
set_option maxRecDepth 100000
namespace Go.AM
open Go.Proofs
noncomputable abbrev B_expr_flatten : Code := bodyOf Try.prog (ann.fid 83)
noncomputable def s_expr_flatten_1 (C : CallF) (op : Int) (t8 : List V) (t9 t10 : Int) (partss : List V) {β : Type} (kn : (Int × (List V)) → Option β) (kr : (Int × Bool × (List V)) → Option β) : Option β :=
  bif decide ((t10 : Int) < t9) then
   (idx t8 t10).bind fun x1 =>
   bif (((x1.cell 0).toInt) : Int) == op then
    bif Nat.ble ((partss.length + ((x1.cell 2).toList).length) * 40) maxBytes then
     kn (IntKind.wrap .i64 (t10 + 1), partss ++ ((x1.cell 2).toList))
    else none
   else
    bif Nat.ble ((partss.length + ([.agg [.int .i64 ((x1.cell 0).toInt), .int .i64 ((x1.cell 1).toInt), .list T_api_Expr ((x1.cell 2).toList)]] : List V).length) * 40) maxBytes then
     kn (IntKind.wrap .i64 (t10 + 1), partss ++ ([.agg [.int .i64 ((x1.cell 0).toInt), .int .i64 ((x1.cell 1).toInt), .list T_api_Expr ((x1.cell 2).toList)]] : List V))
    else none
  else
   kr (t10, decide ((t10 : Int) < t9), partss)
noncomputable def s_expr_flatten_1L (C : CallF) (op : Int) (t8 : List V) (t9 : Int) : (Int × (List V)) → Option ((Int × (List V)) ⊕ (Int × Bool × (List V))) := un fun t10 partss => s_expr_flatten_1 C op t8 t9 t10 partss (fun y => some (.inl y)) (fun r => some (.inr r))
noncomputable def LT_expr_flatten (C : CallF) : LTab := fun β n ds k =>
  bif Nat.beq n 49 then loopS S83_49 [false, false, false, true, true] [[1, 2, 3, 0, 0, 0]] (@s_expr_flatten_1 C) ds k else
  none
abbrev TS_expr_flatten (C : CallF) (b : Bar) : Prop := Tells Try.prog ann C (LT_expr_flatten C) 83 (ntmpsOf Try.prog (ann.fid 83)) (ann.sin 83).blks.length b
theorem t_expr_flatten_1 (C : CallF) : TS_expr_flatten C (.loop (codeAt [1, 1, 0, 1, 0, 0] B_expr_flatten)) :=
  tl3 S83_49 [false, false, false, true, true] [[1, 2, 3, 0, 0, 0]] (@s_expr_flatten_1 C) (by kernel_rfl) (ltok_of (bs := []) (by kernel_rfl) tells_nil) (fun ds => by kernel_rfl) (fun i x => by kernel_rfl) (fun i x β k => by kernel_rfl) (fun β ds k => by kernel_rfl)
noncomputable def f_expr_flatten (C : CallF) (op : Int) (kids : List V) : Option (List V) :=
  (Loop (s_expr_flatten_1L C op kids (kids.length : Int)) (0, ([] : List V))).bind (un fun (t_2 : Int) => un fun (t_3 : Bool) (partss_4 : List V) =>
    some [.list T_api_Expr partss_4])
theorem f_expr_flatten_of {op : Int} {kids : List V} {r : Option (List V)} (h : f_expr_flatten CC op kids = r) : CC F_expr_flatten [.int .i64 op, .list T_api_Expr kids] = r :=
  func_of (key := 83) (L := LT_expr_flatten CC) (bs := [.loop (codeAt [1, 1, 0, 1, 0, 0] B_expr_flatten)]) (by kernel_rfl) (tells_cons (t_expr_flatten_1 CC) tells_nil) (Eq.trans (by kernel_rfl) h)
end Go.AM
set_option maxRecDepth 100000
namespace Go.AM
open Go.Proofs
noncomputable def f_expr_collect (C : CallF) (op : Int) (parts : List V) (none'_0 none'_1 : Int) (none'_2 : List V) : Option (List V) :=
  bif ((parts.length : Int) : Int) == 0 then
   some [.int .i64 none'_0, .int .i64 none'_1, .list T_api_Expr none'_2]
  else
   bif ((parts.length : Int) : Int) == 1 then
    (parts[0]?).bind fun x1 =>
    some [.int .i64 ((x1.cell 0).toInt), .int .i64 ((x1.cell 1).toInt), .list T_api_Expr ((x1.cell 2).toList)]
   else
    some [.int .i64 op, .int .i64 0, .list T_api_Expr parts]
theorem f_expr_collect_of {op : Int} {parts : List V} {none'_0 none'_1 : Int} {none'_2 : List V} {r : Option (List V)} (h : f_expr_collect CC op parts none'_0 none'_1 none'_2 = r) : CC F_expr_collect [.int .i64 op, .list T_api_Expr parts, .int .i64 none'_0, .int .i64 none'_1, .list T_api_Expr none'_2] = r :=
  func_of (key := 85) (L := LT0) (bs := []) (by kernel_rfl) tells_nil (Eq.trans (by kernel_rfl) h)
end Go.AM
set_option maxRecDepth 100000
namespace Go.AM
open Go.Proofs
noncomputable def f_expr_empty (C : CallF) : Option (List V) :=
  some [.int .i64 1, .int .i64 0, .list T_api_Expr ([] : List V)]
theorem f_expr_empty_of {r : Option (List V)} (h : f_expr_empty CC = r) : CC F_expr_empty [] = r :=
  func_of (key := 87) (L := LT0) (bs := []) (by kernel_rfl) tells_nil (Eq.trans (by kernel_rfl) h)
end Go.AM
set_option maxRecDepth 100000
namespace Go.AM
open Go.Proofs
noncomputable def f_expr_unit (C : CallF) : Option (List V) :=
  some [.int .i64 2, .int .i64 0, .list T_api_Expr ([] : List V)]
theorem f_expr_unit_of {r : Option (List V)} (h : f_expr_unit CC = r) : CC F_expr_unit [] = r :=
  func_of (key := 76) (L := LT0) (bs := []) (by kernel_rfl) tells_nil (Eq.trans (by kernel_rfl) h)
end Go.AM
set_option maxRecDepth 100000
namespace Go.AM
open Go.Proofs
noncomputable def f_expr_universal (C : CallF) : Option (List V) :=
  (C F_expr_empty []).bind fun r1 =>
  some [.int .i64 8, .int .i64 0, .list T_api_Expr ([.agg [.int .i64 ((V.nth r1 0).toInt), .int .i64 ((V.nth (r1.drop 1) 0).toInt), .list T_api_Expr ((V.nth (r1.drop 2) 0).toList)]] : List V)]
theorem f_expr_universal_of {r : Option (List V)} (h : f_expr_universal CC = r) : CC F_expr_universal [] = r :=
  func_of (key := 81) (L := LT0) (bs := []) (by kernel_rfl) tells_nil (Eq.trans (by kernel_rfl) h)
end Go.AM
set_option maxRecDepth 100000
set_option linter.unusedSimpArgs false
namespace Go.AM
open Go.Proofs Ex
theorem flatten_loop {op : Int} {ks : List Ex} (hn : ks.length ≤ 1000000) (hl : (flatX op ks).length ≤ 1000000) :
    ∀ (suf pre : List Ex), ks = pre ++ suf →
    Loop (s_expr_flatten_1L CC op (ks.map enc) ((ks.map enc).length : Int)) (((pre.length : Nat) : Int), (flatX op pre).map enc) = some (((ks.map enc).length : Int), false, (flatX op ks).map enc) := by
  intro suf
  induction suf with
  | nil =>
    intro pre e
    rw [List.append_nil] at e
    subst e
    refine Loop_end ?_
    simp only [s_expr_flatten_1L, s_expr_flatten_1, un, List.length_map]
    rw [bif_decide, if_neg (by omega), decide_eq_false (by omega)]
  | cons k suf ih =>
    intro pre e
    have hlt : pre.length < ks.length := by rw [e]; simp
    have hi : idx (ks.map enc) ((pre.length : Nat) : Int) = some k.enc := by rw [e]; exact idx_kid pre suf k
    have hf : flatX op ks = flatX op pre ++ ((if k.op = op then k.kids else [k]) ++ flatX op suf) := by
      rw [e]; unfold flatX; rw [List.flatMap_append, List.flatMap_cons]
    have hf2 : flatX op (pre ++ [k]) = flatX op pre ++ (if k.op = op then k.kids else [k]) := by
      unfold flatX; rw [List.flatMap_append, List.flatMap_cons, List.flatMap_nil, List.append_nil]
    rw [hf, List.length_append, List.length_append] at hl
    have hst : s_expr_flatten_1L CC op (ks.map enc) ((ks.map enc).length : Int) (((pre.length : Nat) : Int), (flatX op pre).map enc) = some (.inl (((pre.length + 1 : Nat) : Int), (flatX op (pre ++ [k])).map enc)) := by
      simp only [s_expr_flatten_1L, s_expr_flatten_1, un, List.length_map]
      rw [bif_decide, if_pos (by omega), hi, hf2]
      simp only [Option.bind_some, enc_0, enc_1, enc_2, bif_beq, bif_ble, List.length_map, List.length_singleton]
      by_cases h : k.op = op
      · rw [if_pos h] at hl ⊢
        rw [if_pos h, if_pos (by rw [maxB]; omega), wrap64 (by omega) (by omega), List.map_append]
        rfl
      · rw [if_neg h] at hl ⊢
        rw [List.length_singleton] at hl
        rw [if_neg h, if_pos (by rw [maxB]; omega), wrap64 (by omega) (by omega), List.map_append, ← enc_eq]
        rfl
    rw [Loop_norm hst]
    have := ih (pre ++ [k]) (by simp [e])
    simpa using this
theorem flatten_spec {op : Int} {ks : List Ex} (hn : ks.length ≤ 1000000) (hl : (flatX op ks).length ≤ 1000000) : CC F_expr_flatten [.int .i64 op, .list T_api_Expr (ks.map enc)] = some [.list T_api_Expr ((flatX op ks).map enc)] := by
  refine f_expr_flatten_of ?_
  unfold f_expr_flatten
  refine (congrArg (fun o => Option.bind o _) (flatten_loop hn hl ks [] rfl)).trans ?_
  rfl
def exR (e : Ex) : List V := [.int .i64 e.op, .int .i64 e.letter, .list T_api_Expr (e.kids.map enc)]
def collX (op : Int) (l : List Ex) (none' : Ex) : Ex :=
  match l with
  | [] => none'
  | [k] => k
  | l => .node op 0 l
theorem collect_spec {op : Int} {l : List Ex} {z : Ex} : CC F_expr_collect (.int .i64 op :: .list T_api_Expr (l.map enc) :: exR z) = some (exR (collX op l z)) := by
  refine f_expr_collect_of ?_
  unfold f_expr_collect
  simp only [bif_beq, List.length_map]
  match l with
  | [] => simp [collX, exR]
  | [k] => simp [collX, exR, enc_0, enc_1, enc_2]
  | k :: k2 :: l =>
    rw [if_neg (by simp only [List.length_cons]; omega), if_neg (by simp only [List.length_cons]; omega)]
    rfl
end Go.AM
set_option maxRecDepth 100000
set_option linter.unusedSimpArgs false
set_option maxHeartbeats 1000000
namespace Go.AM
open Go.Proofs Ex
def Ex.lx (a b : Ex) : Prop := cmp a b < 0
noncomputable instance (a b : Ex) : Decidable (a.lx b) := by unfold Ex.lx; infer_instance
theorem Ex.lx_irrefl (a : Ex) : ¬ a.lx a := by unfold Ex.lx; rw [cmp_self]; omega
theorem Ex.lx_trans {a b c : Ex} (h1 : a.lx b) (h2 : b.lx c) : a.lx c := by
  unfold Ex.lx at *
  have h3 := cmp_trans a b c (by omega) (by omega)
  refine Decidable.byContradiction fun h => ?_
  have h0 : cmp a c = 0 := by omega
  have := cmp_eq a c h0
  subst this
  have := cmp_anti a b
  omega
theorem Ex.lx_asymm {a b : Ex} : a.lx b → ¬ b.lx a := by
  unfold Ex.lx
  have := cmp_anti a b
  omega
theorem Ex.lx_tri {a b : Ex} (h1 : ¬ a.lx b) (h2 : ¬ b.lx a) : a = b := by
  unfold Ex.lx at *
  have := cmp_anti a b
  exact cmp_eq a b (by omega)
abbrev SrtX (E : List Ex) : Prop := E.Pairwise Ex.lx
theorem srt_extX : ∀ {A B : List Ex}, SrtX A → SrtX B → (∀ x, x ∈ A ↔ x ∈ B) → A = B
  | [], [], _, _, _ => rfl
  | [], b :: B, _, _, h => by have := (h b).2 (by simp); cases this
  | a :: A, [], _, _, h => by have := (h a).1 (by simp); cases this
  | a :: A, b :: B, hA, hB, h => by
    have a1 := List.pairwise_cons.1 hA
    have b1 := List.pairwise_cons.1 hB
    have hab : a = b := by
      have ha := (h a).1 (by simp)
      have hb := (h b).2 (by simp)
      rcases List.mem_cons.1 ha with e | e
      · exact e
      · rcases List.mem_cons.1 hb with e' | e'
        · exact e'.symm
        · exact absurd (a1.1 b e') (Ex.lx_asymm (b1.1 a e))
    subst hab
    rw [srt_extX a1.2 b1.2 fun x => ?_]
    constructor
    · intro hx
      rcases List.mem_cons.1 ((h x).1 (by simp [hx])) with e | e
      · subst e; exact absurd (a1.1 x hx) (Ex.lx_irrefl x)
      · exact e
    · intro hx
      rcases List.mem_cons.1 ((h x).2 (by simp [hx])) with e | e
      · subst e; exact absurd (b1.1 x hx) (Ex.lx_irrefl x)
      · exact e
open Classical in
noncomputable def insEX (out : List Ex) (e : Ex) : List Ex :=
  if posX out e out.length = 0 ∨ ¬ out.getD (posX out e out.length - 1) ex0 = e then out.take (posX out e out.length) ++ [e] ++ out.drop (posX out e out.length) else out
theorem posE_upX (out : List Ex) (e : Ex) : ∀ k i, posX out e k ≤ i → i < k → e.lx (out.getD i ex0)
  | 0, i, _, h => by omega
  | k + 1, i, h1, h2 => by
    unfold posX at h1
    split at h1
    · rename_i h3
      by_cases hi : i = k
      · subst hi; exact h3
      · exact posE_upX out e k i h1 (by omega)
    · omega
theorem posE_dnX (out : List Ex) (e : Ex) : ∀ k, posX out e k ≠ 0 → ¬ e.lx (out.getD (posX out e k - 1) ex0)
  | 0, h => by simp [posX] at h
  | k + 1, h => by
    unfold posX at h ⊢
    split
    · rename_i h3
      rw [if_pos h3] at h
      exact posE_dnX out e k h
    · rename_i h3
      exact h3
theorem insE_memX {out : List Ex} {e x : Ex} (hk : posX out e out.length ≤ out.length) : x ∈ insEX out e ↔ x = e ∨ x ∈ out := by
  unfold insEX
  split
  · rename_i h
    have := List.take_append_drop (posX out e out.length) out
    constructor
    · intro hx
      simp only [List.append_assoc, List.mem_append, List.mem_singleton] at hx
      rcases hx with hx | hx | hx
      · exact .inr (List.mem_of_mem_take hx)
      · exact .inl hx
      · exact .inr (List.mem_of_mem_drop hx)
    · rintro (rfl | hx)
      · simp
      · rw [← this] at hx
        simp only [List.mem_append] at hx
        simp only [List.append_assoc, List.mem_append, List.mem_singleton]
        rcases hx with hx | hx
        · exact .inl hx
        · exact .inr (.inr hx)
  · rename_i h
    simp only [not_or, Classical.not_not] at h
    constructor
    · exact .inr
    · rintro (rfl | hx)
      · have h1 := h.2
        have h2 : posX out x out.length - 1 < out.length := by omega
        rw [← h1]
        simp [h2]
      · exact hx
theorem insE_srtX {out : List Ex} {e : Ex} (h : SrtX out) : SrtX (insEX out e) := by
  have hk := posX_le out e out.length
  have up := posE_upX out e out.length
  have dn := posE_dnX out e out.length
  unfold insEX
  generalize hq : posX out e out.length = k at *
  split
  · rename_i hc
    have g := List.pairwise_iff_getElem.1 h
    have hlo : ∀ x ∈ out.take k, x.lx e := by
      intro x hx
      obtain ⟨i, hi, rfl⟩ := List.getElem_of_mem hx
      have hi' : i < k := by rw [List.length_take] at hi; omega
      have hil : i < out.length := by omega
      rw [List.getElem_take]
      have hk0 : k ≠ 0 := by omega
      have h1 := dn hk0
      have h2 : ¬ out.getD (k - 1) ex0 = e := by
        rcases hc with hc | hc
        · exact absurd hc hk0
        · exact hc
      have hkl : k - 1 < out.length := by omega
      have e1 : out.getD (k - 1) ex0 = out[k - 1] := by simp [hkl]
      rw [e1] at h1 h2
      have h3 : out[k - 1].lx e := by
        by_cases h4 : out[k - 1].lx e
        · exact h4
        · exact absurd (Ex.lx_tri h4 h1) h2
      by_cases hik : i = k - 1
      · subst hik; exact h3
      · exact Ex.lx_trans (g i (k - 1) hil hkl (by omega)) h3
    have hhi : ∀ y ∈ out.drop k, e.lx y := by
      intro y hy
      obtain ⟨i, hi, rfl⟩ := List.getElem_of_mem hy
      rw [List.length_drop] at hi
      rw [List.getElem_drop]
      have := up (k + i) (by omega) (by omega)
      have e1 : out.getD (k + i) ex0 = out[k + i] := by simp [show k + i < out.length by omega]
      rwa [e1] at this
    rw [SrtX, List.append_assoc, List.pairwise_append]
    refine ⟨h.sublist (List.take_sublist _ _), ?_, ?_⟩
    · rw [List.singleton_append, List.pairwise_cons]
      exact ⟨hhi, h.sublist (List.drop_sublist _ _)⟩
    · intro x hx y hy
      rw [List.singleton_append, List.mem_cons] at hy
      rcases hy with rfl | hy
      · exact hlo x hx
      · exact Ex.lx_trans (hlo x hx) (hhi y hy)
  · exact h
theorem insX_eq (out : List Ex) (e : Ex) : insX out e = insEX out e := by
  unfold insX insEX
  generalize posX out e out.length = k
  by_cases h : k = 0 ∨ ¬ out.getD (k - 1) ex0 = e
  · rw [if_pos h, if_neg (fun h2 => by
      rcases h with h | h
      · omega
      · exact h (cmp_eq _ _ h2.2))]
    simp
  · rw [if_neg h, if_pos]
    simp only [not_or, Classical.not_not] at h
    exact ⟨by omega, by rw [h.2]; exact cmp_self e⟩
end Go.AM
set_option maxRecDepth 100000
set_option linter.unusedSimpArgs false
namespace Go.AM
open Go.Proofs Ex
def emptyX : Ex := .node 1 0 []
def unitX : Ex := .node 2 0 []
def univX : Ex := .node 8 0 [emptyX]
def joinR (o l : Int) (ks : List Ex) : Ex :=
  if o = 8 then (let k := ks.getD 0 ex0; if k.op = 8 then k.kids.getD 0 ex0 else .node o l ks)
  else if o = 7 then (let k := ks.getD 0 ex0; if k.op = 1 ∨ k.op = 2 then unitX else if k.op = 7 ∨ univ k = true then k else .node o l ks)
  else if o = 5 then (let f := flatX 5 ks; if f.any (fun k => decide (k.op = 1)) then emptyX else collX 5 (f.filter fun k => decide (k.op ≠ 2)) unitX)
  else if o = 4 then (let f := flatX 4 ks; if f.any univ then univX else collX 4 ((f.filter fun k => decide (k.op ≠ 1)).foldl insX []) emptyX)
  else if o = 6 then (let f := flatX 6 ks; if f.any (fun k => decide (k.op = 1)) then emptyX else collX 6 ((f.filter fun k => !(univ k)).foldl insX []) univX)
  else .node o l ks
mutual
def nrm : Ex → Ex
  | .node o l ks => joinR o l (nrms ks)
def nrms : List Ex → List Ex
  | [] => []
  | k :: ks => nrm k :: nrms ks
end
theorem nrms_map : ∀ ks, nrms ks = ks.map nrm
  | [] => by simp only [nrms, List.map_nil]
  | k :: ks => by simp only [nrms, List.map_cons, nrms_map ks]
theorem insX_srt {out : List Ex} {e : Ex} (h : SrtX out) : SrtX (insX out e) := by rw [insX_eq]; exact insE_srtX h
theorem insX_mem {out : List Ex} {e x : Ex} : x ∈ insX out e ↔ x = e ∨ x ∈ out := by rw [insX_eq]; exact insE_memX (posX_le _ _ _)
theorem insX_fold : ∀ (l out : List Ex), SrtX out → SrtX (l.foldl insX out) ∧ ∀ x, x ∈ l.foldl insX out ↔ x ∈ l ∨ x ∈ out
  | [], out, h => ⟨h, by simp⟩
  | e :: l, out, h => by
    obtain ⟨h1, h2⟩ := insX_fold l (insX out e) (insX_srt h)
    refine ⟨h1, fun x => ?_⟩
    rw [List.foldl_cons, h2, insX_mem]
    simp only [List.mem_cons]
    constructor
    · rintro (h | h | h)
      · exact .inl (.inr h)
      · exact .inl (.inl h)
      · exact .inr h
    · rintro ((h | h) | h)
      · exact .inr (.inl h)
      · exact .inl h
      · exact .inr (.inr h)
end Go.AM
set_option maxRecDepth 100000
namespace Go.AM
open Go.Proofs
noncomputable def f_expr_valid (C : CallF) (e_0 e_1 : Int) (e_2 : List V) : Option (List V) :=
  (C F_expr_Validate [.int .i64 e_0, .int .i64 e_1, .list T_api_Expr e_2, .int .i64 6]).bind fun r1 =>
  some [.bool ((((V.nth r1 0).toInt) : Int) == 0)]
theorem f_expr_valid_of {e_0 e_1 : Int} {e_2 : List V} {r : Option (List V)} (h : f_expr_valid CC e_0 e_1 e_2 = r) : CC F_expr_valid [.int .i64 e_0, .int .i64 e_1, .list T_api_Expr e_2] = r :=
  func_of (key := 39) (L := LT0) (bs := []) (by kernel_rfl) tells_nil (Eq.trans (by kernel_rfl) h)
end Go.AM
set_option maxRecDepth 100000
namespace Go.AM
open Go.Proofs
noncomputable def f_semigroupref04_Valid (C : CallF) (e_0 e_1 : Int) (e_2 : List V) : Option (List V) :=
  (C F_semigroupref04_Validate [.int .i64 e_0, .int .i64 e_1, .list T_api_Expr e_2, .int .i64 6]).bind fun r1 =>
  some [.bool ((((V.nth r1 0).toInt) : Int) == 0)]
theorem f_semigroupref04_Valid_of {e_0 e_1 : Int} {e_2 : List V} {r : Option (List V)} (h : f_semigroupref04_Valid CC e_0 e_1 e_2 = r) : CC F_semigroupref04_Valid [.int .i64 e_0, .int .i64 e_1, .list T_api_Expr e_2] = r :=
  func_of (key := 15) (L := LT0) (bs := []) (by kernel_rfl) tells_nil (Eq.trans (by kernel_rfl) h)
end Go.AM
set_option maxRecDepth 100000
namespace Go.AM
open Go.Proofs
noncomputable def f_semigroupref04_Size (C : CallF) (e_0 e_1 : Int) (e_2 : List V) : Option (List V) :=
  (C F_semigroupref04_measure [.int .i64 e_0, .int .i64 e_1, .list T_api_Expr e_2, .int .i64 400]).bind fun r1 =>
  some [.int .i64 ((V.nth r1 0).toInt)]
theorem f_semigroupref04_Size_of {e_0 e_1 : Int} {e_2 : List V} {r : Option (List V)} (h : f_semigroupref04_Size CC e_0 e_1 e_2 = r) : CC F_semigroupref04_Size [.int .i64 e_0, .int .i64 e_1, .list T_api_Expr e_2] = r :=
  func_of (key := 26) (L := LT0) (bs := []) (by kernel_rfl) tells_nil (Eq.trans (by kernel_rfl) h)
end Go.AM
set_option maxRecDepth 100000
namespace Go.AM
open Go.Proofs
noncomputable def f_semigroupref04_Depth (C : CallF) (e_0 e_1 : Int) (e_2 : List V) : Option (List V) :=
  (C F_semigroupref04_measure [.int .i64 e_0, .int .i64 e_1, .list T_api_Expr e_2, .int .i64 400]).bind fun r1 =>
  some [.int .i64 ((V.nth (r1.drop 1) 0).toInt)]
theorem f_semigroupref04_Depth_of {e_0 e_1 : Int} {e_2 : List V} {r : Option (List V)} (h : f_semigroupref04_Depth CC e_0 e_1 e_2 = r) : CC F_semigroupref04_Depth [.int .i64 e_0, .int .i64 e_1, .list T_api_Expr e_2] = r :=
  func_of (key := 27) (L := LT0) (bs := []) (by kernel_rfl) tells_nil (Eq.trans (by kernel_rfl) h)
end Go.AM
set_option maxRecDepth 100000
set_option linter.unusedSimpArgs false
namespace Go.AM
open Go.Proofs Ex
theorem beqd (m n : Int) : (m == n) = decide (m = n) := by rw [Bool.eq_iff_iff]; simp
theorem exValid_spec (e : Ex) (h : e.Ok) : CC F_expr_valid (exA e []) = some [.bool (decide (e.val 6 = 0))] := by
  refine f_expr_valid_of ?_
  unfold f_expr_valid
  rw [exVal_spec e h]
  simp only [Option.bind_some, V.nth_zero, V.toInt_int]
  rw [beqd]
theorem exRefValid_spec (e : Ex) (h : e.Ok) : CC F_semigroupref04_Valid (exA e []) = some [.bool (decide (e.val 6 = 0))] := by
  refine f_semigroupref04_Valid_of ?_
  unfold f_semigroupref04_Valid
  rw [exRefVal_spec e h]
  simp only [Option.bind_some, V.nth_zero, V.toInt_int]
  rw [beqd]
theorem val0 {e : Ex} (h : e.val 6 = 0) : e.depth ≤ 40 ∧ e.size ≤ 400 ∧ e.wf 6 = true := by
  unfold Ex.val at h
  rw [if_pos (by omega)] at h
  split at h
  · rename_i h1
    split at h
    · rename_i h2; exact ⟨h1.1, h1.2, h2⟩
    · omega
  · omega
theorem kid_size {ks : List Ex} : ∀ {k}, k ∈ ks → k.size ≤ sizes ks := by
  induction ks with
  | nil => intro k h; simp at h
  | cons a ks ih =>
    intro k h
    simp only [sizes]
    rcases List.mem_cons.1 h with rfl | h
    · omega
    · have := ih h; omega
theorem wfs_kid {letters : Int} {ks : List Ex} (h : wfs letters ks = true) : ∀ k ∈ ks, k.wf letters = true := by
  induction ks with
  | nil => simp
  | cons a ks ih =>
    simp only [wfs, Bool.and_eq_true] at h
    intro k hk
    rcases List.mem_cons.1 hk with rfl | hk
    · exact h.1
    · exact ih h.2 k hk
theorem wf_node {letters o l : Int} {ks : List Ex} (h : (Ex.node o l ks).wf letters = true) : shapeOk o l ks.length letters = true ∧ ∀ k ∈ ks, k.wf letters = true := by
  simp only [Ex.wf, Bool.and_eq_true] at h
  exact ⟨h.1, wfs_kid h.2⟩
theorem refSize_spec (e : Ex) (h : e.Ok) (hs : e.size ≤ 400) : CC F_semigroupref04_Size (exA e []) = some [.int .i64 e.size] := by
  obtain ⟨d, e1, e2⟩ := measure_spec e h 400 (by omega) (by omega)
  refine f_semigroupref04_Size_of ?_
  unfold f_semigroupref04_Size
  rw [e1, show min (e.size : Int) (400 + 1) = e.size by omega]
  simp
theorem refDepth_spec (e : Ex) (h : e.Ok) (hs : e.size ≤ 400) : CC F_semigroupref04_Depth (exA e []) = some [.int .i64 e.depth] := by
  obtain ⟨d, e1, e2⟩ := measure_spec e h 400 (by omega) (by omega)
  refine f_semigroupref04_Depth_of ?_
  unfold f_semigroupref04_Depth
  rw [e1, e2 (by omega)]
  simp
end Go.AM
set_option maxRecDepth 100000
set_option linter.unusedSimpArgs false
namespace Go.AM
open Go.Proofs Ex
def nmOk (o : Int) (ks : List Ex) : Prop :=
  (o = 8 → ∀ k ∈ ks, k.op ≠ 8) ∧
  (o = 7 → ∀ k ∈ ks, k.op ≠ 1 ∧ k.op ≠ 2 ∧ k.op ≠ 7 ∧ univ k = false) ∧
  (o = 5 → ∀ k ∈ ks, k.op ≠ 5 ∧ k.op ≠ 1 ∧ k.op ≠ 2) ∧
  (o = 4 → SrtX ks ∧ ∀ k ∈ ks, k.op ≠ 4 ∧ k.op ≠ 1 ∧ univ k = false) ∧
  (o = 6 → SrtX ks ∧ ∀ k ∈ ks, k.op ≠ 6 ∧ k.op ≠ 1 ∧ univ k = false)
inductive Nm : Ex → Prop
  | node {o l : Int} {ks : List Ex} : (∀ k ∈ ks, Nm k) → nmOk o ks → Nm (.node o l ks)
theorem Nm.kid {o l : Int} {ks : List Ex} (h : Nm (.node o l ks)) : ∀ k ∈ ks, Nm k := by cases h; assumption
theorem Nm.ok {o l : Int} {ks : List Ex} (h : Nm (.node o l ks)) : nmOk o ks := by cases h; assumption
def Gd (n : Int) (e : Ex) : Prop := Nm e ∧ e.wf n = true
theorem wf_mk {n o l : Int} {ks : List Ex} (h : shapeOk o l ks.length n = true) (hk : ∀ k ∈ ks, k.wf n = true) : (Ex.node o l ks).wf n = true := by
  have : ∀ ks : List Ex, (∀ k ∈ ks, k.wf n = true) → wfs n ks = true := by
    intro ks
    induction ks with
    | nil => intro _; simp only [wfs]
    | cons k ks ih => intro h; simp only [wfs, h k (by simp), ih fun k hk => h k (by simp [hk]), Bool.true_and]
  simp only [Ex.wf, h, this ks hk, Bool.true_and]
theorem shape_cases {o l len n : Int} (h : shapeOk o l len n = true) : (o = 3 ∧ len = 0 ∧ 0 ≤ l ∧ l < n) ∨ (l = 0 ∧ ((o = 1 ∧ len = 0) ∨ (o = 2 ∧ len = 0) ∨ (o = 4 ∧ 2 ≤ len) ∨ (o = 5 ∧ 2 ≤ len) ∨ (o = 6 ∧ 2 ≤ len) ∨ (o = 7 ∧ len = 1) ∨ (o = 8 ∧ len = 1))) := by
  unfold shapeOk at h
  split at h
  · rename_i h3
    have := of_decide_eq_true h
    omega
  · rw [Bool.and_eq_true] at h
    have h1 := of_decide_eq_true h.1
    have h2 := h.2
    split at h2
    · have := of_decide_eq_true h2; omega
    · split at h2
      · have := of_decide_eq_true h2; omega
      · have := of_decide_eq_true h2; omega
theorem Gd.kids {n : Int} {e : Ex} (h : Gd n e) : ∀ k ∈ e.kids, Gd n k := by
  obtain ⟨o, l, ks⟩ := e
  exact fun k hk => ⟨h.1.kid k hk, (wf_node h.2).2 k hk⟩
theorem Gd.ok {n : Int} {e : Ex} (h : Gd n e) : nmOk e.op e.kids := by
  obtain ⟨o, l, ks⟩ := e
  exact h.1.ok
theorem Gd.shape {n : Int} {e : Ex} (h : Gd n e) : shapeOk e.op e.letter e.kids.length n = true := by
  obtain ⟨o, l, ks⟩ := e
  exact (wf_node h.2).1
theorem Gd.mk' {n o l : Int} {ks : List Ex} (h1 : ∀ k ∈ ks, Gd n k) (h2 : nmOk o ks) (h3 : shapeOk o l ks.length n = true) : Gd n (.node o l ks) :=
  ⟨.node (fun k hk => (h1 k hk).1) h2, wf_mk h3 fun k hk => (h1 k hk).2⟩
theorem emptyX_gd {n : Int} : Gd n emptyX := .mk' (by simp) ⟨by simp, by simp, by simp, by simp, by simp⟩ (by simp [shapeOk])
theorem unitX_gd {n : Int} : Gd n unitX := .mk' (by simp) ⟨by simp, by simp, by simp, by simp, by simp⟩ (by simp [shapeOk])
theorem univX_gd {n : Int} : Gd n univX := .mk' (by simp [emptyX_gd]) ⟨by simp [emptyX, Ex.op], by simp, by simp, by simp, by simp⟩ (by simp [shapeOk])
theorem sizes_app (a b : List Ex) : sizes (a ++ b) = sizes a + sizes b := by
  induction a with
  | nil => simp [sizes]
  | cons k a ih => simp only [List.cons_append, sizes, ih]; omega
theorem sizes_filter (p : Ex → Bool) (l : List Ex) : sizes (l.filter p) ≤ sizes l := by
  induction l with
  | nil => simp [sizes]
  | cons k l ih =>
    rw [List.filter_cons]
    split
    · simp only [sizes]; omega
    · simp only [sizes]; omega
theorem sizes_len (l : List Ex) : l.length ≤ sizes l := by
  induction l with
  | nil => simp [sizes]
  | cons k l ih => simp only [sizes, List.length_cons]; have := k.size_pos; omega
theorem sizes_flat (o : Int) (l : List Ex) : sizes (flatX o l) ≤ sizes l := by
  induction l with
  | nil => simp [sizes, flatX]
  | cons k l ih =>
    have e : flatX o (k :: l) = (if k.op = o then k.kids else [k]) ++ flatX o l := by simp [flatX]
    rw [e, sizes_app]
    simp only [sizes]
    split
    · obtain ⟨o2, l2, ks⟩ := k
      simp only [Ex.kids, size] at *; omega
    · simp only [sizes]; omega
theorem insX_sizes (l : List Ex) (x : Ex) : sizes (insX l x) ≤ sizes l + x.size := by
  unfold insX
  simp only
  split
  · omega
  · have := congrArg sizes (List.take_append_drop (posX l x l.length) l)
    rw [sizes_app] at this
    rw [sizes_app]
    simp only [sizes]
    omega
theorem fold_sizes : ∀ (l acc : List Ex), sizes (l.foldl insX acc) ≤ sizes acc + sizes l
  | [], acc => by simp [sizes]
  | k :: l, acc => by
    rw [List.foldl_cons]
    have h1 := fold_sizes l (insX acc k)
    have h2 := insX_sizes acc k
    simp only [sizes]
    omega
theorem depths_le {l : List Ex} {d : Nat} : depths l ≤ d ↔ ∀ k ∈ l, k.depth ≤ d := by
  induction l with
  | nil => simp [depths]
  | cons k l ih => simp only [depths, Nat.max_le, ih, List.mem_cons, forall_eq_or_imp]
theorem kid_depth {ks : List Ex} {k : Ex} (h : k ∈ ks) : k.depth ≤ depths ks := depths_le.1 (Nat.le_refl _) k h
theorem flat_mem {o : Int} {l : List Ex} {x : Ex} : x ∈ flatX o l ↔ ∃ k ∈ l, (k.op = o ∧ x ∈ k.kids) ∨ (k.op ≠ o ∧ x = k) := by
  unfold flatX
  rw [List.mem_flatMap]
  constructor
  · rintro ⟨k, hk, hx⟩
    refine ⟨k, hk, ?_⟩
    by_cases h : k.op = o
    · rw [if_pos h] at hx; exact .inl ⟨h, hx⟩
    · rw [if_neg h] at hx; exact .inr ⟨h, by simpa using hx⟩
  · rintro ⟨k, hk, h | h⟩
    · exact ⟨k, hk, by rw [if_pos h.1]; exact h.2⟩
    · exact ⟨k, hk, by rw [if_neg h.1]; simp [h.2]⟩
theorem flat_depth {o : Int} {l : List Ex} {d : Nat} (h : depths l ≤ d) : depths (flatX o l) ≤ d := by
  rw [depths_le] at *
  intro x hx
  obtain ⟨k, hk, h1 | h1⟩ := flat_mem.1 hx
  · have := h k hk
    have h2 := kid_depth h1.2
    obtain ⟨o2, l2, ks⟩ := k
    simp only [Ex.kids, depth] at *
    omega
  · rw [h1.2]; exact h k hk
theorem coll_size {o : Int} {l : List Ex} {z : Ex} {m : Nat} (h : 1 + sizes l ≤ m) (hz : z.size ≤ m) : (collX o l z).size ≤ m := by
  match l, h with
  | [], _ => exact hz
  | [k], h => simp only [collX, sizes] at *; omega
  | k :: k2 :: l, h => simp only [collX, size]; omega
theorem coll_depth {o : Int} {l : List Ex} {z : Ex} {m : Nat} (h : 1 + depths l ≤ m) (hz : z.depth ≤ m) : (collX o l z).depth ≤ m := by
  match l, h with
  | [], _ => exact hz
  | [k], h => simp only [collX, depths] at *; omega
  | k :: k2 :: l, h => simp only [collX, depth]; omega
theorem coll_gd {n o : Int} {l : List Ex} {z : Ex} (hz : Gd n z) (hl : ∀ k ∈ l, Gd n k) (hn : nmOk o l) (ho : 4 ≤ o ∧ o ≤ 6) : Gd n (collX o l z) := by
  match l, hl, hn with
  | [], _, _ => exact hz
  | [k], h, _ => exact h k (by simp)
  | k :: k2 :: l, h, hn =>
    refine .mk' h hn ?_
    unfold shapeOk
    rw [if_neg (by omega), if_neg (by omega), if_neg (by omega)]
    simp only [List.length_cons, decide_true, Bool.true_and]
    exact decide_eq_true (by omega)
section
variable {n : Int} {ks : List Ex} (hk : ∀ k ∈ ks, Gd n k)
include hk
theorem flat_gd (o : Int) : ∀ k ∈ flatX o ks, Gd n k := fun x hx => by
  obtain ⟨k, h, h1 | h1⟩ := flat_mem.1 hx
  · exact (hk k h).kids x h1.2
  · rw [h1.2]; exact hk k h
theorem flat5 : ∀ k ∈ flatX 5 ks, k.op ≠ 5 := fun x hx => by
  obtain ⟨k, h, h1 | h1⟩ := flat_mem.1 hx
  · exact ((hk k h).ok.2.2.1 h1.1 x h1.2).1
  · rw [h1.2]; exact h1.1
theorem flat4 : ∀ k ∈ flatX 4 ks, k.op ≠ 4 := fun x hx => by
  obtain ⟨k, h, h1 | h1⟩ := flat_mem.1 hx
  · exact (((hk k h).ok.2.2.2.1 h1.1).2 x h1.2).1
  · rw [h1.2]; exact h1.1
theorem flat6 : ∀ k ∈ flatX 6 ks, k.op ≠ 6 := fun x hx => by
  obtain ⟨k, h, h1 | h1⟩ := flat_mem.1 hx
  · exact (((hk k h).ok.2.2.2.2 h1.1).2 x h1.2).1
  · rw [h1.2]; exact h1.1
theorem any5 : (flatX 5 ks).any (fun k => decide (k.op = 1)) = ks.any fun k => decide (k.op = 1) := by
  rw [Bool.eq_iff_iff, List.any_eq_true, List.any_eq_true]
  simp only [decide_eq_true_eq]
  constructor
  · rintro ⟨x, hx, h⟩
    obtain ⟨k, h2, h1 | h1⟩ := flat_mem.1 hx
    · exact absurd h ((hk k h2).ok.2.2.1 h1.1 x h1.2).2.1
    · exact ⟨k, h2, h1.2 ▸ h⟩
  · rintro ⟨k, h1, h⟩
    exact ⟨k, flat_mem.2 ⟨k, h1, .inr ⟨by omega, rfl⟩⟩, h⟩
theorem any6 : (flatX 6 ks).any (fun k => decide (k.op = 1)) = ks.any fun k => decide (k.op = 1) := by
  rw [Bool.eq_iff_iff, List.any_eq_true, List.any_eq_true]
  simp only [decide_eq_true_eq]
  constructor
  · rintro ⟨x, hx, h⟩
    obtain ⟨k, h2, h1 | h1⟩ := flat_mem.1 hx
    · exact absurd h (((hk k h2).ok.2.2.2.2 h1.1).2 x h1.2).2.1
    · exact ⟨k, h2, h1.2 ▸ h⟩
  · rintro ⟨k, h1, h⟩
    exact ⟨k, flat_mem.2 ⟨k, h1, .inr ⟨by omega, rfl⟩⟩, h⟩
theorem any4 : (flatX 4 ks).any univ = ks.any univ := by
  rw [Bool.eq_iff_iff, List.any_eq_true, List.any_eq_true]
  constructor
  · rintro ⟨x, hx, h⟩
    obtain ⟨k, h2, h1 | h1⟩ := flat_mem.1 hx
    · rw [(((hk k h2).ok.2.2.2.1 h1.1).2 x h1.2).2.2] at h; cases h
    · exact ⟨k, h2, h1.2 ▸ h⟩
  · rintro ⟨k, h1, h⟩
    have := of_decide_eq_true h
    exact ⟨k, flat_mem.2 ⟨k, h1, .inr ⟨by omega, rfl⟩⟩, h⟩
end
theorem joinR_5 {l : Int} {ks : List Ex} : joinR 5 l ks = if (flatX 5 ks).any (fun k => decide (k.op = 1)) then emptyX else collX 5 ((flatX 5 ks).filter fun k => decide (k.op ≠ 2)) unitX := by
  unfold joinR; rw [if_neg (by omega), if_neg (by omega), if_pos rfl]
theorem joinR_4 {l : Int} {ks : List Ex} : joinR 4 l ks = if (flatX 4 ks).any univ then univX else collX 4 (((flatX 4 ks).filter fun k => decide (k.op ≠ 1)).foldl insX []) emptyX := by
  unfold joinR; rw [if_neg (by omega), if_neg (by omega), if_neg (by omega), if_pos rfl]
theorem joinR_6 {l : Int} {ks : List Ex} : joinR 6 l ks = if (flatX 6 ks).any (fun k => decide (k.op = 1)) then emptyX else collX 6 (((flatX 6 ks).filter fun k => !(univ k)).foldl insX []) univX := by
  unfold joinR; rw [if_neg (by omega), if_neg (by omega), if_neg (by omega), if_neg (by omega), if_pos rfl]
theorem joinR_7 {l : Int} {k : Ex} : joinR 7 l [k] = if k.op = 1 ∨ k.op = 2 then unitX else if k.op = 7 ∨ univ k = true then k else .node 7 l [k] := by
  unfold joinR; rw [if_neg (by omega), if_pos rfl]; rfl
theorem joinR_8 {l : Int} {k : Ex} : joinR 8 l [k] = if k.op = 8 then k.kids.getD 0 ex0 else .node 8 l [k] := by
  unfold joinR; rw [if_pos rfl]; rfl
theorem joinR_0 {o l : Int} (h : o = 1 ∨ o = 2 ∨ o = 3) {ks : List Ex} : joinR o l ks = .node o l ks := by
  unfold joinR; rw [if_neg (by omega), if_neg (by omega), if_neg (by omega), if_neg (by omega), if_neg (by omega)]
theorem fold_gd {n : Int} {l : List Ex} (h : ∀ k ∈ l, Gd n k) : ∀ k ∈ l.foldl insX [], Gd n k := fun k hk => by
  rcases ((insX_fold l [] .nil).2 k).1 hk with h1 | h1
  · exact h k h1
  · cases h1
theorem fold_mem {l : List Ex} {x : Ex} : x ∈ l.foldl insX [] ↔ x ∈ l := by
  rw [(insX_fold l [] .nil).2 x]; simp
theorem fold_srt {l : List Ex} : SrtX (l.foldl insX []) := (insX_fold l [] .nil).1
theorem nmOk5 {l : List Ex} (h : ∀ k ∈ l, k.op ≠ 5 ∧ k.op ≠ 1 ∧ k.op ≠ 2) : nmOk 5 l := ⟨by simp, by simp, fun _ => h, by simp, by simp⟩
theorem nmOk4 {l : List Ex} (h : SrtX l ∧ ∀ k ∈ l, k.op ≠ 4 ∧ k.op ≠ 1 ∧ univ k = false) : nmOk 4 l := ⟨by simp, by simp, by simp, fun _ => h, by simp⟩
theorem nmOk6 {l : List Ex} (h : SrtX l ∧ ∀ k ∈ l, k.op ≠ 6 ∧ k.op ≠ 1 ∧ univ k = false) : nmOk 6 l := ⟨by simp, by simp, by simp, by simp, fun _ => h⟩
theorem any_false {α : Type} {p : α → Bool} {l : List α} (h : ¬ l.any p = true) : ∀ x ∈ l, p x = false := fun x hx => by
  cases hp : p x with
  | false => rfl
  | true => exact absurd (List.any_eq_true.2 ⟨x, hx, hp⟩) h
theorem joinR_gd {n o l : Int} {ks : List Ex} (hk : ∀ k ∈ ks, Gd n k) (hs : shapeOk o l ks.length n = true) : Gd n (joinR o l ks) := by
  rcases shape_cases hs with ⟨rfl, h1, _⟩ | ⟨rfl, ⟨rfl, h1⟩ | ⟨rfl, h1⟩ | ⟨rfl, h1⟩ | ⟨rfl, h1⟩ | ⟨rfl, h1⟩ | ⟨rfl, h1⟩ | ⟨rfl, h1⟩⟩
  · rw [joinR_0 (by omega)]; exact .mk' hk ⟨by simp, by simp, by simp, by simp, by simp⟩ hs
  · rw [joinR_0 (by omega)]; exact .mk' hk ⟨by simp, by simp, by simp, by simp, by simp⟩ hs
  · rw [joinR_0 (by omega)]; exact .mk' hk ⟨by simp, by simp, by simp, by simp, by simp⟩ hs
  · rw [joinR_4]
    split
    · exact univX_gd
    · rename_i hu
      refine coll_gd emptyX_gd (fold_gd fun k h => flat_gd hk 4 k (List.mem_filter.1 h).1) (nmOk4 ⟨fold_srt, fun k h => ?_⟩) (by omega)
      have h2 := List.mem_filter.1 (fold_mem.1 h)
      exact ⟨flat4 hk k h2.1, of_decide_eq_true h2.2, any_false hu k h2.1⟩
  · rw [joinR_5]
    split
    · exact emptyX_gd
    · rename_i hu
      refine coll_gd unitX_gd (fun k h => flat_gd hk 5 k (List.mem_filter.1 h).1) (nmOk5 fun k h => ?_) (by omega)
      have h2 := List.mem_filter.1 h
      exact ⟨flat5 hk k h2.1, of_decide_eq_false (any_false hu k h2.1), of_decide_eq_true h2.2⟩
  · rw [joinR_6]
    split
    · exact emptyX_gd
    · rename_i hu
      refine coll_gd univX_gd (fold_gd fun k h => flat_gd hk 6 k (List.mem_filter.1 h).1) (nmOk6 ⟨fold_srt, fun k h => ?_⟩) (by omega)
      have h2 := List.mem_filter.1 (fold_mem.1 h)
      exact ⟨flat6 hk k h2.1, of_decide_eq_false (any_false hu k h2.1), by simpa using h2.2⟩
  · match ks, h1 with
    | [k], _ =>
      rw [joinR_7]
      split
      · exact unitX_gd
      · split
        · exact hk k (by simp)
        · rename_i h2 h3
          refine .mk' hk ⟨by simp, fun _ x hx => ?_, by simp, by simp, by simp⟩ hs
          rw [List.mem_singleton.1 hx]
          exact ⟨by omega, by omega, fun h => h3 (.inl h), by simpa using fun h => h3 (.inr h)⟩
  · match ks, h1 with
    | [k], _ =>
      rw [joinR_8]
      split
      · rename_i h8
        have hg := hk k (by simp)
        have hs2 := shape_cases hg.shape
        obtain ⟨o2, l2, ks2⟩ := k
        simp only [Ex.op, Ex.kids, Ex.letter] at *
        match ks2, (show (ks2.length : Int) = 1 by omega) with
        | [x], _ => exact hg.kids x (by simp [Ex.kids])
      · rename_i h8
        refine .mk' hk ⟨fun _ x hx => ?_, by simp, by simp, by simp, by simp⟩ hs
        rw [List.mem_singleton.1 hx]
        exact h8
theorem joinR_size {n o l : Int} {ks : List Ex} (hs : shapeOk o l ks.length n = true) : (joinR o l ks).size ≤ 1 + sizes ks := by
  have hl := sizes_len ks
  have z1 : emptyX.size = 1 := by simp [emptyX, size, sizes]
  have z2 : unitX.size = 1 := by simp [unitX, size, sizes]
  have z3 : univX.size = 2 := by simp [univX, emptyX, size, sizes]
  rcases shape_cases hs with ⟨rfl, h1, _⟩ | ⟨rfl, ⟨rfl, h1⟩ | ⟨rfl, h1⟩ | ⟨rfl, h1⟩ | ⟨rfl, h1⟩ | ⟨rfl, h1⟩ | ⟨rfl, h1⟩ | ⟨rfl, h1⟩⟩
  · rw [joinR_0 (by omega)]; simp only [size]; omega
  · rw [joinR_0 (by omega)]; simp only [size]; omega
  · rw [joinR_0 (by omega)]; simp only [size]; omega
  · rw [joinR_4]
    have a1 := sizes_flat 4 ks
    have a2 := sizes_filter (fun k => decide (k.op ≠ 1)) (flatX 4 ks)
    have a3 := fold_sizes ((flatX 4 ks).filter fun k => decide (k.op ≠ 1)) []
    simp only [sizes] at a3
    split
    · omega
    · exact coll_size (by omega) (by omega)
  · rw [joinR_5]
    have a1 := sizes_flat 5 ks
    have a2 := sizes_filter (fun k => decide (k.op ≠ 2)) (flatX 5 ks)
    split
    · omega
    · exact coll_size (by omega) (by omega)
  · rw [joinR_6]
    have a1 := sizes_flat 6 ks
    have a2 := sizes_filter (fun k => !(univ k)) (flatX 6 ks)
    have a3 := fold_sizes ((flatX 6 ks).filter fun k => !(univ k)) []
    simp only [sizes] at a3
    split
    · omega
    · exact coll_size (by omega) (by omega)
  · match ks, h1 with
    | [k], _ =>
      rw [joinR_7]
      simp only [sizes] at *
      split
      · omega
      · split
        · omega
        · simp only [size, sizes]; omega
  · match ks, h1 with
    | [k], _ =>
      rw [joinR_8]
      simp only [sizes] at *
      split
      · obtain ⟨o2, l2, ks2⟩ := k
        match ks2 with
        | [] => simp [Ex.kids, ex0, size, sizes]
        | x :: ks2 => simp only [Ex.kids, List.getD_cons_zero, size, sizes]; omega
      · simp only [size, sizes]; omega
theorem joinR_depth {n o l : Int} {ks : List Ex} (hs : shapeOk o l ks.length n = true) : (joinR o l ks).depth ≤ 1 + depths ks := by
  have z1 : emptyX.depth = 1 := by simp [emptyX, depth, depths]
  have z2 : unitX.depth = 1 := by simp [unitX, depth, depths]
  have z3 : univX.depth = 2 := by simp [univX, emptyX, depth, depths]
  have hl : 2 ≤ ks.length → 1 ≤ depths ks := fun h => by
    match ks, h with
    | k :: ks, _ => have := k.depth_pos; simp only [depths]; omega
  rcases shape_cases hs with ⟨rfl, h1, _⟩ | ⟨rfl, ⟨rfl, h1⟩ | ⟨rfl, h1⟩ | ⟨rfl, h1⟩ | ⟨rfl, h1⟩ | ⟨rfl, h1⟩ | ⟨rfl, h1⟩ | ⟨rfl, h1⟩⟩
  · rw [joinR_0 (by omega)]; simp only [depth]; omega
  · rw [joinR_0 (by omega)]; simp only [depth]; omega
  · rw [joinR_0 (by omega)]; simp only [depth]; omega
  · rw [joinR_4]
    have a1 := depths_le.1 (flat_depth (o := 4) (Nat.le_refl (depths ks)))
    have a3 : depths (((flatX 4 ks).filter fun k => decide (k.op ≠ 1)).foldl insX []) ≤ depths ks := depths_le.2 fun k h => a1 k (List.mem_filter.1 (fold_mem.1 h)).1
    split
    · omega
    · exact coll_depth (by omega) (by omega)
  · rw [joinR_5]
    have a1 := depths_le.1 (flat_depth (o := 5) (Nat.le_refl (depths ks)))
    have a3 : depths ((flatX 5 ks).filter fun k => decide (k.op ≠ 2)) ≤ depths ks := depths_le.2 fun k h => a1 k (List.mem_filter.1 h).1
    split
    · omega
    · exact coll_depth (by omega) (by omega)
  · rw [joinR_6]
    have a1 := depths_le.1 (flat_depth (o := 6) (Nat.le_refl (depths ks)))
    have a3 : depths (((flatX 6 ks).filter fun k => !(univ k)).foldl insX []) ≤ depths ks := depths_le.2 fun k h => a1 k (List.mem_filter.1 (fold_mem.1 h)).1
    split
    · omega
    · exact coll_depth (by omega) (by omega)
  · match ks, h1 with
    | [k], _ =>
      rw [joinR_7]
      simp only [depths] at *
      split
      · omega
      · split
        · omega
        · simp only [depth, depths]; omega
  · match ks, h1 with
    | [k], _ =>
      rw [joinR_8]
      simp only [depths] at *
      split
      · obtain ⟨o2, l2, ks2⟩ := k
        match ks2 with
        | [] => simp [Ex.kids, ex0, depth, depths]
        | x :: ks2 => simp only [Ex.kids, List.getD_cons_zero, depth, depths]; omega
      · simp only [depth, depths]; omega
theorem nrm_node {o l : Int} {ks : List Ex} : nrm (.node o l ks) = joinR o l (ks.map nrm) := by rw [nrm, nrms_map]
theorem nrm_gd {n : Int} : ∀ e : Ex, e.wf n = true → Gd n (nrm e) := ind fun o l ks ih hw => by
  obtain ⟨h1, h2⟩ := wf_node hw
  rw [nrm_node]
  refine joinR_gd (fun k hk => ?_) (by simpa using h1)
  obtain ⟨x, hx, rfl⟩ := List.mem_map.1 hk
  exact ih x hx (h2 x hx)
theorem nrm_size {n : Int} : ∀ e : Ex, e.wf n = true → (nrm e).size ≤ e.size := ind fun o l ks ih hw => by
  obtain ⟨h1, h2⟩ := wf_node hw
  have : ∀ ks : List Ex, (∀ k ∈ ks, (nrm k).size ≤ k.size) → sizes (ks.map nrm) ≤ sizes ks := by
    intro ks
    induction ks with
    | nil => intro _; simp [sizes]
    | cons k ks ih => intro h; have a := h k (by simp); have b := ih fun k hk => h k (by simp [hk]); simp only [List.map_cons, sizes]; omega
  have h3 := this ks fun k hk => ih k hk (h2 k hk)
  rw [nrm_node]
  have := joinR_size (n := n) (o := o) (l := l) (ks := ks.map nrm) (by simpa using h1)
  simp only [size]
  omega
theorem nrm_depth {n : Int} : ∀ e : Ex, e.wf n = true → (nrm e).depth ≤ e.depth := ind fun o l ks ih hw => by
  obtain ⟨h1, h2⟩ := wf_node hw
  have h3 : depths (ks.map nrm) ≤ depths ks := depths_le.2 fun x hx => by
    obtain ⟨k, hk, rfl⟩ := List.mem_map.1 hx
    exact Nat.le_trans (ih k hk (h2 k hk)) (kid_depth hk)
  rw [nrm_node]
  have := joinR_depth (n := n) (o := o) (l := l) (ks := ks.map nrm) (by simpa using h1)
  simp only [depth]
  omega
theorem wf_ok {n : Int} (hn : n ≤ 6) : ∀ e : Ex, e.wf n = true → e.size ≤ 1000000 → e.Ok := ind fun o l ks ih hw hs => by
  obtain ⟨h1, h2⟩ := wf_node hw
  have hl := sizes_len ks
  simp only [size] at hs
  have h3 := shape_cases h1
  have hm : ks.length ≤ maxLen := by unfold maxLen; omega
  exact .node (by omega) (by omega) hm fun k hk => ih k hk (h2 k hk) (by have := kid_size hk; omega)
end Go.AM
set_option maxRecDepth 100000
set_option linter.unusedSimpArgs false
namespace Go.AM
open Go.Proofs Ex
theorem any_of_false {α : Type} {p : α → Bool} {l : List α} (h : ∀ x ∈ l, p x = false) : l.any p = false := by
  cases e : l.any p with
  | false => rfl
  | true => obtain ⟨x, h1, h2⟩ := List.any_eq_true.1 e; rw [h x h1] at h2; cases h2
def mem4 (e : Ex) : List Ex := if e.op = 4 then e.kids else if e.op = 1 then [] else [e]
def mem5 (e : Ex) : List Ex := if e.op = 5 then e.kids else if e.op = 2 then [] else [e]
def mem6 (e : Ex) : List Ex := if e.op = 6 then e.kids else if univ e = true then [] else [e]
section
variable {n : Int} {ks : List Ex} (hk : ∀ k ∈ ks, Gd n k)
include hk
theorem ff4 : (flatX 4 ks).filter (fun k => decide (k.op ≠ 1)) = ks.flatMap mem4 := by
  induction ks with
  | nil => rfl
  | cons k ks ih =>
    have e : flatX 4 (k :: ks) = (if k.op = 4 then k.kids else [k]) ++ flatX 4 ks := by simp [flatX]
    rw [e, List.filter_append, List.flatMap_cons, ih fun k h => hk k (by simp [h])]
    refine congrArg (· ++ _) ?_
    unfold mem4
    have h := hk k (by simp)
    by_cases h4 : k.op = 4
    · rw [if_pos h4, if_pos h4]
      exact List.filter_eq_self.2 fun x hx => decide_eq_true ((h.ok.2.2.2.1 h4).2 x hx).2.1
    · rw [if_neg h4, if_neg h4]
      by_cases h1 : k.op = 1
      · rw [if_pos h1]; simp [h1]
      · rw [if_neg h1]; simp [h1]
theorem ff5 : (flatX 5 ks).filter (fun k => decide (k.op ≠ 2)) = ks.flatMap mem5 := by
  induction ks with
  | nil => rfl
  | cons k ks ih =>
    have e : flatX 5 (k :: ks) = (if k.op = 5 then k.kids else [k]) ++ flatX 5 ks := by simp [flatX]
    rw [e, List.filter_append, List.flatMap_cons, ih fun k h => hk k (by simp [h])]
    refine congrArg (· ++ _) ?_
    unfold mem5
    have h := hk k (by simp)
    by_cases h4 : k.op = 5
    · rw [if_pos h4, if_pos h4]
      exact List.filter_eq_self.2 fun x hx => decide_eq_true (h.ok.2.2.1 h4 x hx).2.2
    · rw [if_neg h4, if_neg h4]
      by_cases h1 : k.op = 2
      · rw [if_pos h1]; simp [h1]
      · rw [if_neg h1]; simp [h1]
theorem ff6 : (flatX 6 ks).filter (fun k => !(univ k)) = ks.flatMap mem6 := by
  induction ks with
  | nil => rfl
  | cons k ks ih =>
    have e : flatX 6 (k :: ks) = (if k.op = 6 then k.kids else [k]) ++ flatX 6 ks := by simp [flatX]
    rw [e, List.filter_append, List.flatMap_cons, ih fun k h => hk k (by simp [h])]
    refine congrArg (· ++ _) ?_
    unfold mem6
    have h := hk k (by simp)
    by_cases h4 : k.op = 6
    · rw [if_pos h4, if_pos h4]
      exact List.filter_eq_self.2 fun x hx => by rw [((h.ok.2.2.2.2 h4).2 x hx).2.2]; rfl
    · rw [if_neg h4, if_neg h4]
      by_cases h1 : univ k = true
      · rw [if_pos h1]; simp [h1]
      · rw [if_neg h1]; simp [h1]
theorem joinG4 {l : Int} : joinR 4 l ks = if ks.any univ then univX else collX 4 ((ks.flatMap mem4).foldl insX []) emptyX := by
  rw [joinR_4, any4 hk, ff4 hk]
theorem joinG5 {l : Int} : joinR 5 l ks = if ks.any (fun k => decide (k.op = 1)) then emptyX else collX 5 (ks.flatMap mem5) unitX := by
  rw [joinR_5, any5 hk, ff5 hk]
theorem joinG6 {l : Int} : joinR 6 l ks = if ks.any (fun k => decide (k.op = 1)) then emptyX else collX 6 ((ks.flatMap mem6).foldl insX []) univX := by
  rw [joinR_6, any6 hk, ff6 hk]
theorem atom4 (hu : ks.any univ = false) : ∀ x ∈ ks.flatMap mem4, x.op ≠ 4 ∧ x.op ≠ 1 ∧ univ x = false := fun x hx => by
  obtain ⟨k, h1, h2⟩ := List.mem_flatMap.1 hx
  unfold mem4 at h2
  split at h2
  · rename_i h4; exact ((hk k h1).ok.2.2.2.1 h4).2 x h2
  · split at h2
    · cases h2
    · rename_i h4 h5
      rw [List.mem_singleton.1 h2]
      exact ⟨h4, h5, any_false (by rw [hu]; simp) k h1⟩
theorem atom5 (hu : ks.any (fun k => decide (k.op = 1)) = false) : ∀ x ∈ ks.flatMap mem5, x.op ≠ 5 ∧ x.op ≠ 1 ∧ x.op ≠ 2 := fun x hx => by
  obtain ⟨k, h1, h2⟩ := List.mem_flatMap.1 hx
  unfold mem5 at h2
  split at h2
  · rename_i h4; exact (hk k h1).ok.2.2.1 h4 x h2
  · split at h2
    · cases h2
    · rename_i h4 h5
      rw [List.mem_singleton.1 h2]
      exact ⟨h4, of_decide_eq_false (any_false (by rw [hu]; simp) k h1), h5⟩
theorem atom6 (hu : ks.any (fun k => decide (k.op = 1)) = false) : ∀ x ∈ ks.flatMap mem6, x.op ≠ 6 ∧ x.op ≠ 1 ∧ univ x = false := fun x hx => by
  obtain ⟨k, h1, h2⟩ := List.mem_flatMap.1 hx
  unfold mem6 at h2
  split at h2
  · rename_i h4; exact ((hk k h1).ok.2.2.2.2 h4).2 x h2
  · split at h2
    · cases h2
    · rename_i h4 h5
      rw [List.mem_singleton.1 h2]
      exact ⟨h4, of_decide_eq_false (any_false (by rw [hu]; simp) k h1), by simpa using h5⟩
end
theorem any_mem {α : Type} {p : α → Bool} {A B : List α} (h : ∀ x, x ∈ A ↔ x ∈ B) : A.any p = B.any p := by
  rw [Bool.eq_iff_iff, List.any_eq_true, List.any_eq_true]
  exact ⟨fun ⟨x, h1, h2⟩ => ⟨x, (h x).1 h1, h2⟩, fun ⟨x, h1, h2⟩ => ⟨x, (h x).2 h1, h2⟩⟩
theorem fold_ext {A B : List Ex} (h : ∀ x, x ∈ A ↔ x ∈ B) : A.foldl insX [] = B.foldl insX [] :=
  srt_extX fold_srt fold_srt fun x => by rw [fold_mem, fold_mem, h x]
theorem flatMap_ext {f : Ex → List Ex} {A B : List Ex} (h : ∀ x, x ∈ A ↔ x ∈ B) (x : Ex) : x ∈ A.flatMap f ↔ x ∈ B.flatMap f := by
  rw [List.mem_flatMap, List.mem_flatMap]
  exact ⟨fun ⟨y, h1, h2⟩ => ⟨y, (h y).1 h1, h2⟩, fun ⟨y, h1, h2⟩ => ⟨y, (h y).2 h1, h2⟩⟩
theorem join4_ext {n l l' : Int} {A B : List Ex} (hA : ∀ k ∈ A, Gd n k) (h : ∀ x, x ∈ A ↔ x ∈ B) : joinR 4 l A = joinR 4 l' B := by
  rw [joinG4 hA, joinG4 fun k hk => hA k ((h k).2 hk), any_mem h, fold_ext (flatMap_ext h)]
theorem join6_ext {n l l' : Int} {A B : List Ex} (hA : ∀ k ∈ A, Gd n k) (h : ∀ x, x ∈ A ↔ x ∈ B) : joinR 6 l A = joinR 6 l' B := by
  rw [joinG6 hA, joinG6 fun k hk => hA k ((h k).2 hk), any_mem h, fold_ext (flatMap_ext h)]
theorem univ_univX : univ univX = true := by simp [univ, univX, emptyX, Ex.op, Ex.kids]
theorem coll_mem4 {R : List Ex} (h : ∀ x ∈ R, x.op ≠ 4 ∧ x.op ≠ 1 ∧ univ x = false) : mem4 (collX 4 R emptyX) = R ∧ univ (collX 4 R emptyX) = false := by
  match R, h with
  | [], _ => exact ⟨by simp [collX, mem4, emptyX, Ex.op], by simp [collX, univ, emptyX, Ex.op]⟩
  | [k], h => have := h k (by simp); exact ⟨by simp [collX, mem4, this.1, this.2.1], this.2.2⟩
  | k :: k2 :: R, _ => exact ⟨by simp [collX, mem4, Ex.op, Ex.kids], by simp [collX, univ, Ex.op]⟩
theorem coll_mem6 {R : List Ex} (h : ∀ x ∈ R, x.op ≠ 6 ∧ x.op ≠ 1 ∧ univ x = false) : mem6 (collX 6 R univX) = R ∧ (collX 6 R univX).op ≠ 1 := by
  match R, h with
  | [], _ => exact ⟨by simp [collX, mem6, univ_univX, univX, Ex.op]; simp [univ, emptyX, Ex.op, Ex.kids], by simp [collX, univX, Ex.op]⟩
  | [k], h => have := h k (by simp); exact ⟨by simp [collX, mem6, this.1, this.2.2], this.2.1⟩
  | k :: k2 :: R, _ => exact ⟨by simp [collX, mem6, Ex.op, Ex.kids], by simp [collX, Ex.op]⟩
theorem coll_mem5 {R : List Ex} (h : ∀ x ∈ R, x.op ≠ 5 ∧ x.op ≠ 1 ∧ x.op ≠ 2) : mem5 (collX 5 R unitX) = R ∧ (collX 5 R unitX).op ≠ 1 := by
  match R, h with
  | [], _ => exact ⟨by simp [collX, mem5, unitX, Ex.op], by simp [collX, unitX, Ex.op]⟩
  | [k], h => have := h k (by simp); exact ⟨by simp [collX, mem5, this.1, this.2.2], this.2.1⟩
  | k :: k2 :: R, _ => exact ⟨by simp [collX, mem5, Ex.op, Ex.kids], by simp [collX, Ex.op]⟩
theorem gd4 {n : Int} {A : List Ex} (hA : ∀ k ∈ A, Gd n k) : Gd n (joinR 4 0 A) := by
  rw [joinG4 hA]
  split
  · exact univX_gd
  · rename_i hu
    have ha := atom4 hA (by simpa using hu)
    refine coll_gd emptyX_gd (fold_gd fun x hx => ?_) (nmOk4 ⟨fold_srt, fun k h => ha k (fold_mem.1 h)⟩) (by omega)
    obtain ⟨k, h1, h2⟩ := List.mem_flatMap.1 hx
    unfold mem4 at h2
    split at h2
    · exact (hA k h1).kids x h2
    · split at h2
      · cases h2
      · rw [List.mem_singleton.1 h2]; exact hA k h1
theorem gd6 {n : Int} {A : List Ex} (hA : ∀ k ∈ A, Gd n k) : Gd n (joinR 6 0 A) := by
  rw [joinG6 hA]
  split
  · exact emptyX_gd
  · rename_i hu
    have ha := atom6 hA (by simpa using hu)
    refine coll_gd univX_gd (fold_gd fun x hx => ?_) (nmOk6 ⟨fold_srt, fun k h => ha k (fold_mem.1 h)⟩) (by omega)
    obtain ⟨k, h1, h2⟩ := List.mem_flatMap.1 hx
    unfold mem6 at h2
    split at h2
    · exact (hA k h1).kids x h2
    · split at h2
      · cases h2
      · rw [List.mem_singleton.1 h2]; exact hA k h1
theorem gd5 {n : Int} {A : List Ex} (hA : ∀ k ∈ A, Gd n k) : Gd n (joinR 5 0 A) := by
  rw [joinG5 hA]
  split
  · exact emptyX_gd
  · rename_i hu
    have ha := atom5 hA (by simpa using hu)
    refine coll_gd unitX_gd (fun x hx => ?_) (nmOk5 ha) (by omega)
    obtain ⟨k, h1, h2⟩ := List.mem_flatMap.1 hx
    unfold mem5 at h2
    split at h2
    · exact (hA k h1).kids x h2
    · split at h2
      · cases h2
      · rw [List.mem_singleton.1 h2]; exact hA k h1
theorem join4_join {n l : Int} {A B : List Ex} (hA : ∀ k ∈ A, Gd n k) (hB : ∀ k ∈ B, Gd n k) : joinR 4 l (joinR 4 0 A :: B) = joinR 4 l (A ++ B) := by
  have hg := gd4 hA
  have h1 : ∀ k ∈ joinR 4 0 A :: B, Gd n k := fun k hk => by
    rcases List.mem_cons.1 hk with rfl | hk
    · exact hg
    · exact hB k hk
  have h2 : ∀ k ∈ A ++ B, Gd n k := fun k hk => (List.mem_append.1 hk).elim (hA k) (hB k)
  rw [joinG4 h1, joinG4 h2, List.any_cons, List.any_append]
  rw [joinG4 hA] at *
  by_cases hu : A.any univ = true
  · rw [if_pos hu, hu, univ_univX]; simp
  · have hu' : A.any univ = false := by simpa using hu
    obtain ⟨m1, m2⟩ := coll_mem4 (R := (A.flatMap mem4).foldl insX []) fun x hx => atom4 hA hu' x (fold_mem.1 hx)
    rw [if_neg hu, m2, hu']
    simp only [List.flatMap_cons, List.flatMap_append, m1]
    rw [fold_ext (A := (A.flatMap mem4).foldl insX [] ++ B.flatMap mem4) (B := A.flatMap mem4 ++ B.flatMap mem4)]
    intro x
    rw [List.mem_append, List.mem_append, fold_mem]
theorem join6_join {n l : Int} {A B : List Ex} (hA : ∀ k ∈ A, Gd n k) (hB : ∀ k ∈ B, Gd n k) : joinR 6 l (joinR 6 0 A :: B) = joinR 6 l (A ++ B) := by
  have hg := gd6 hA
  have h1 : ∀ k ∈ joinR 6 0 A :: B, Gd n k := fun k hk => by
    rcases List.mem_cons.1 hk with rfl | hk
    · exact hg
    · exact hB k hk
  have h2 : ∀ k ∈ A ++ B, Gd n k := fun k hk => (List.mem_append.1 hk).elim (hA k) (hB k)
  rw [joinG6 h1, joinG6 h2, List.any_cons, List.any_append]
  rw [joinG6 hA] at *
  by_cases hu : A.any (fun k => decide (k.op = 1)) = true
  · rw [if_pos hu, hu]; simp [emptyX, Ex.op]
  · have hu' : A.any (fun k => decide (k.op = 1)) = false := by simpa using hu
    obtain ⟨m1, m2⟩ := coll_mem6 (R := (A.flatMap mem6).foldl insX []) fun x hx => atom6 hA hu' x (fold_mem.1 hx)
    rw [if_neg hu, decide_eq_false m2, hu']
    simp only [List.flatMap_cons, List.flatMap_append, m1]
    rw [fold_ext (A := (A.flatMap mem6).foldl insX [] ++ B.flatMap mem6) (B := A.flatMap mem6 ++ B.flatMap mem6)]
    intro x
    rw [List.mem_append, List.mem_append, fold_mem]
theorem join5_join {n l : Int} {P A B : List Ex} (hP : ∀ k ∈ P, Gd n k) (hA : ∀ k ∈ A, Gd n k) (hB : ∀ k ∈ B, Gd n k) : joinR 5 l (P ++ joinR 5 0 A :: B) = joinR 5 l (P ++ (A ++ B)) := by
  have hg := gd5 hA
  have h1 : ∀ k ∈ P ++ joinR 5 0 A :: B, Gd n k := fun k hk => by
    rcases List.mem_append.1 hk with hk | hk
    · exact hP k hk
    · rcases List.mem_cons.1 hk with rfl | hk
      · exact hg
      · exact hB k hk
  have h2 : ∀ k ∈ P ++ (A ++ B), Gd n k := fun k hk => (List.mem_append.1 hk).elim (hP k) fun hk => (List.mem_append.1 hk).elim (hA k) (hB k)
  rw [joinG5 h1, joinG5 h2, List.any_append, List.any_append, List.any_cons, List.any_append]
  rw [joinG5 hA] at *
  by_cases hu : A.any (fun k => decide (k.op = 1)) = true
  · rw [if_pos hu, hu]; simp [emptyX, Ex.op]
  · have hu' : A.any (fun k => decide (k.op = 1)) = false := by simpa using hu
    obtain ⟨m1, m2⟩ := coll_mem5 (R := A.flatMap mem5) (atom5 hA hu')
    rw [if_neg hu, decide_eq_false m2, hu']
    simp only [List.flatMap_cons, List.flatMap_append, m1]
theorem ignores4 {n : Int} {a b c : Ex} (ha : Gd n a) (hb : Gd n b) (hc : Gd n c) : joinR 4 0 [a, b, c] = joinR 4 0 [joinR 4 0 [c, a], b, a] := by
  rw [join4_join (n := n) (by simp [ha, hc]) (by simp [ha, hb])]
  refine join4_ext (n := n) (by simp [ha, hb, hc]) fun x => ?_
  simp only [List.mem_cons, List.mem_append, List.not_mem_nil, or_false]
  constructor
  · rintro (h | h | h)
    · exact .inl (.inr h)
    · exact .inr (.inl h)
    · exact .inl (.inl h)
  · rintro ((h | h) | h | h)
    · exact .inr (.inr h)
    · exact .inl h
    · exact .inr (.inl h)
    · exact .inl h
theorem ignores6 {n : Int} {a b c : Ex} (ha : Gd n a) (hb : Gd n b) (hc : Gd n c) : joinR 6 0 [a, b, c] = joinR 6 0 [joinR 6 0 [c, a], b, a] := by
  rw [join6_join (n := n) (by simp [ha, hc]) (by simp [ha, hb])]
  refine join6_ext (n := n) (by simp [ha, hb, hc]) fun x => ?_
  simp only [List.mem_cons, List.mem_append, List.not_mem_nil, or_false]
  constructor
  · rintro (h | h | h)
    · exact .inl (.inr h)
    · exact .inr (.inl h)
    · exact .inl (.inl h)
  · rintro ((h | h) | h | h)
    · exact .inr (.inr h)
    · exact .inl h
    · exact .inr (.inl h)
    · exact .inl h
theorem ignores5 {n : Int} {a b c : Ex} (ha : Gd n a) (hb : Gd n b) (hc : Gd n c) : joinR 5 0 [a, joinR 5 0 [b, c]] = joinR 5 0 [joinR 5 0 [a, b], c] := by
  rw [show [a, joinR 5 0 [b, c]] = [a] ++ joinR 5 0 [b, c] :: [] from rfl, show [joinR 5 0 [a, b], c] = [] ++ joinR 5 0 [a, b] :: [c] from rfl, join5_join (n := n) (by simp [ha]) (by simp [hb, hc]) (by simp), join5_join (n := n) (by simp) (by simp [ha, hb]) (by simp [hc])]
  rfl
end Go.AM
set_option maxRecDepth 100000
namespace Go.AM
open Go.Proofs
noncomputable def f_expr_isEmpty (C : CallF) (e_0 e_1 : Int) (e_2 : List V) : Option (List V) :=
  some [.bool ((e_0 : Int) == 1)]
theorem f_expr_isEmpty_of {e_0 e_1 : Int} {e_2 : List V} {r : Option (List V)} (h : f_expr_isEmpty CC e_0 e_1 e_2 = r) : CC F_expr_isEmpty [.int .i64 e_0, .int .i64 e_1, .list T_api_Expr e_2] = r :=
  func_of (key := 84) (L := LT0) (bs := []) (by kernel_rfl) tells_nil (Eq.trans (by kernel_rfl) h)
end Go.AM
set_option maxRecDepth 100000
namespace Go.AM
open Go.Proofs
noncomputable def f_expr_isUnit (C : CallF) (e_0 e_1 : Int) (e_2 : List V) : Option (List V) :=
  some [.bool ((e_0 : Int) == 2)]
theorem f_expr_isUnit_of {e_0 e_1 : Int} {e_2 : List V} {r : Option (List V)} (h : f_expr_isUnit CC e_0 e_1 e_2 = r) : CC F_expr_isUnit [.int .i64 e_0, .int .i64 e_1, .list T_api_Expr e_2] = r :=
  func_of (key := 88) (L := LT0) (bs := []) (by kernel_rfl) tells_nil (Eq.trans (by kernel_rfl) h)
end Go.AM
set_option maxRecDepth 100000
namespace Go.AM
open Go.Proofs
noncomputable def f_expr_isUniversal (C : CallF) (e_0 e_1 : Int) (e_2 : List V) : Option (List V) :=
  bif (e_0 : Int) == 8 then
   bif ((e_2.length : Int) : Int) == 1 then
    (e_2[0]?).bind fun x1 =>
    (C F_expr_isEmpty [.int .i64 ((x1.cell 0).toInt), .int .i64 ((x1.cell 1).toInt), .list T_api_Expr ((x1.cell 2).toList)]).bind fun r2 =>
    some [.bool ((V.nth r2 0).toBool)]
   else
    some [.bool false]
  else
   some [.bool false]
theorem f_expr_isUniversal_of {e_0 e_1 : Int} {e_2 : List V} {r : Option (List V)} (h : f_expr_isUniversal CC e_0 e_1 e_2 = r) : CC F_expr_isUniversal [.int .i64 e_0, .int .i64 e_1, .list T_api_Expr e_2] = r :=
  func_of (key := 77) (L := LT0) (bs := []) (by kernel_rfl) tells_nil (Eq.trans (by kernel_rfl) h)
end Go.AM
set_option maxRecDepth 100000
namespace Go.AM
open Go.Proofs
noncomputable abbrev B_slices_IndexFunc___api_Expr_api_Expr_ : Code := bodyOf Try.prog (ann.fid 72)
noncomputable def s_slices_IndexFunc___api_Expr_api_Expr__1 (C : CallF) (s : List V) (t7 t8 : Int) {β : Type} (kn : Int → Option β) (kr : ((Int) ⊕ (Int × Bool)) → Option β) : Option β :=
  bif decide ((t8 : Int) < t7) then
   (idx s t8).bind fun x1 =>
   (C F_expr_isEmpty [.int .i64 ((x1.cell 0).toInt), .int .i64 ((x1.cell 1).toInt), .list T_api_Expr ((x1.cell 2).toList)]).bind fun r2 =>
   bif (V.nth r2 0).toBool then
    kr (.inl t8)
   else
    kn (IntKind.wrap .i64 (t8 + 1))
  else
   kr (.inr (t8, decide ((t8 : Int) < t7)))
noncomputable def s_slices_IndexFunc___api_Expr_api_Expr__1L (C : CallF) (s : List V) (t7 : Int) : (Int) → Option ((Int) ⊕ ((Int) ⊕ (Int × Bool))) := fun t8 => s_slices_IndexFunc___api_Expr_api_Expr__1 C s t7 t8 (fun y => some (.inl y)) (fun r => some (.inr r))
noncomputable def LT_slices_IndexFunc___api_Expr_api_Expr_ (C : CallF) : LTab := fun β n ds k =>
  bif Nat.beq n 33 then loopS S72_33 [false, false, true] [[0], [1, 2, 0, 0]] (@s_slices_IndexFunc___api_Expr_api_Expr__1 C) ds k else
  none
abbrev TS_slices_IndexFunc___api_Expr_api_Expr_ (C : CallF) (b : Bar) : Prop := Tells Try.prog ann C (LT_slices_IndexFunc___api_Expr_api_Expr_ C) 72 (ntmpsOf Try.prog (ann.fid 72)) (ann.sin 72).blks.length b
theorem t_slices_IndexFunc___api_Expr_api_Expr__1 (C : CallF) : TS_slices_IndexFunc___api_Expr_api_Expr_ C (.loop (codeAt [1, 0, 1, 0, 0] B_slices_IndexFunc___api_Expr_api_Expr_)) :=
  tl3 S72_33 [false, false, true] [[0], [1, 2, 0, 0]] (@s_slices_IndexFunc___api_Expr_api_Expr__1 C) (by kernel_rfl) (ltok_of (bs := []) (by kernel_rfl) tells_nil) (fun ds => by kernel_rfl) (fun i x => by kernel_rfl) (fun i x β k => by kernel_rfl) (fun β ds k => by kernel_rfl)
noncomputable def f_slices_IndexFunc___api_Expr_api_Expr_ (C : CallF) (s : List V) : Option (List V) :=
  (Loop (s_slices_IndexFunc___api_Expr_api_Expr__1L C s (s.length : Int)) 0).bind (way2 (fun (t_3 : Int) =>
    some [.int .i64 t_3]) (un fun (t_4 : Int) (t_5 : Bool) =>
    some [.int .i64 (-1)]))
theorem f_slices_IndexFunc___api_Expr_api_Expr__of {s : List V} {r : Option (List V)} (h : f_slices_IndexFunc___api_Expr_api_Expr_ CC s = r) : CC F_slices_IndexFunc___api_Expr_api_Expr_ [.list T_api_Expr s] = r :=
  func_of (key := 72) (L := LT_slices_IndexFunc___api_Expr_api_Expr_ CC) (bs := [.loop (codeAt [1, 0, 1, 0, 0] B_slices_IndexFunc___api_Expr_api_Expr_)]) (by kernel_rfl) (tells_cons (t_slices_IndexFunc___api_Expr_api_Expr__1 CC) tells_nil) (Eq.trans (by kernel_rfl) h)
end Go.AM
set_option maxRecDepth 100000
namespace Go.AM
open Go.Proofs
noncomputable def f_slices_ContainsFunc___api_Expr_api_Expr_ (C : CallF) (s : List V) : Option (List V) :=
  (C F_slices_IndexFunc___api_Expr_api_Expr_ [.list T_api_Expr s]).bind fun r1 =>
  some [.bool (decide ((((V.nth r1 0).toInt) : Int) ≥ 0))]
theorem f_slices_ContainsFunc___api_Expr_api_Expr__of {s : List V} {r : Option (List V)} (h : f_slices_ContainsFunc___api_Expr_api_Expr_ CC s = r) : CC F_slices_ContainsFunc___api_Expr_api_Expr_ [.list T_api_Expr s] = r :=
  func_of (key := 65) (L := LT0) (bs := []) (by kernel_rfl) tells_nil (Eq.trans (by kernel_rfl) h)
end Go.AM
set_option maxRecDepth 100000
namespace Go.AM
open Go.Proofs
noncomputable abbrev B_slices_DeleteFunc___api_Expr_api_Expr__k137 : Code := bodyOf Try.prog (ann.fid 137)
noncomputable def s_slices_DeleteFunc___api_Expr_api_Expr__k137_1 (C : CallF) (i j : Int) (ss : List V) {β : Type} (kn : (Int × Int × (List V)) → Option β) (kr : (Int × Int × Bool × (List V)) → Option β) : Option β :=
  bif decide ((j : Int) < (ss.length : Int)) then
   bif (decide (0 ≤ j)) && (decide (j < (ss.length : Int))) then
    (ss[(j : Int).toNat]?).bind fun x2 =>
    (C F_expr_isEmpty [.int .i64 ((x2.cell 0).toInt), .int .i64 ((x2.cell 1).toInt), .list T_api_Expr ((x2.cell 2).toList)]).bind fun r3 =>
    bif !((V.nth r3 0).toBool) then
     bif (decide (0 ≤ i)) && (decide (i < (ss.length : Int))) then
      (ss[(i : Int).toNat]?).bind fun x4 =>
      kn (IntKind.wrap .i64 (i + 1), IntKind.wrap .i64 (j + 1), ss.set ((i : Int).toNat) (.agg [.int .i64 ((x2.cell 0).toInt), .int .i64 ((x2.cell 1).toInt), .list T_api_Expr ((x2.cell 2).toList)]))
     else none
    else
     kn (i, IntKind.wrap .i64 (j + 1), ss)
   else none
  else
   kr (i, j, decide ((j : Int) < (ss.length : Int)), ss)
noncomputable def s_slices_DeleteFunc___api_Expr_api_Expr__k137_1L (C : CallF) : (Int × Int × (List V)) → Option ((Int × Int × (List V)) ⊕ (Int × Int × Bool × (List V))) := un fun i => un fun j ss => s_slices_DeleteFunc___api_Expr_api_Expr__k137_1 C i j ss (fun y => some (.inl y)) (fun r => some (.inr r))
noncomputable def LT_slices_DeleteFunc___api_Expr_api_Expr__k137 (C : CallF) : LTab := fun β n ds k =>
  bif Nat.beq n 81 then loopS S137_81 [true, true, true] [[0, 0, 0, 0]] (@s_slices_DeleteFunc___api_Expr_api_Expr__k137_1 C) ds k else
  none
abbrev TS_slices_DeleteFunc___api_Expr_api_Expr__k137 (C : CallF) (b : Bar) : Prop := Tells Try.prog ann C (LT_slices_DeleteFunc___api_Expr_api_Expr__k137 C) 137 (ntmpsOf Try.prog (ann.fid 137)) (ann.sin 137).blks.length b
theorem t_slices_DeleteFunc___api_Expr_api_Expr__k137_1 (C : CallF) : TS_slices_DeleteFunc___api_Expr_api_Expr__k137 C (.loop (codeAt [1, 1, 1, 0, 1, 0, 0] B_slices_DeleteFunc___api_Expr_api_Expr__k137)) :=
  tl3 S137_81 [true, true, true] [[0, 0, 0, 0]] (@s_slices_DeleteFunc___api_Expr_api_Expr__k137_1 C) (by kernel_rfl) (ltok_of (bs := []) (by kernel_rfl) tells_nil) (fun ds => by kernel_rfl) (fun i x => by kernel_rfl) (fun i x β k => by kernel_rfl) (fun β ds k => by kernel_rfl)
noncomputable def f_slices_DeleteFunc___api_Expr_api_Expr__k137 (C : CallF) (ss : List V) : Option (List V) :=
  (C F_slices_IndexFunc___api_Expr_api_Expr_ [.list T_api_Expr ss]).bind fun r1 =>
  bif (((V.nth r1 0).toInt) : Int) == (-1) then
   some [V.bool true, .list T_api_Expr ss]
  else
   (Loop (s_slices_DeleteFunc___api_Expr_api_Expr__k137_1L C) ((V.nth r1 0).toInt, IntKind.wrap .i64 (((V.nth r1 0).toInt) + 1), ss)).bind (un fun (i_5 : Int) => un fun (j_6 : Int) => un fun (t_7 : Bool) (ss_8 : List V) =>
     bif (decide (0 ≤ i_5)) && (decide (i_5 ≤ (ss_8.length : Int))) then
      bif (decide (0 ≤ i_5)) && (decide (i_5 ≤ ((ss_8.take ((i_5 : Int).toNat) ++ (List.replicate (ss_8.length - ((i_5 : Int).toNat)) (V.agg [.int .i64 0, .int .i64 0, .list T_api_Expr ([] : List V)]) ++ ss_8.drop (((i_5 : Int).toNat) + (ss_8.length - ((i_5 : Int).toNat))))).length : Int))) then
       some [V.bool false, .list T_api_Expr ((ss_8.take ((i_5 : Int).toNat) ++ (List.replicate (ss_8.length - ((i_5 : Int).toNat)) (V.agg [.int .i64 0, .int .i64 0, .list T_api_Expr ([] : List V)]) ++ ss_8.drop (((i_5 : Int).toNat) + (ss_8.length - ((i_5 : Int).toNat))))).take ((i_5 : Int).toNat))]
      else none
     else none)
theorem f_slices_DeleteFunc___api_Expr_api_Expr__k137_of {ss : List V} {r : Option (List V)} (h : f_slices_DeleteFunc___api_Expr_api_Expr__k137 CC ss = r) : CC K_slices_DeleteFunc___api_Expr_api_Expr__k137 [.list T_api_Expr ss] = r :=
  func_of (key := 137) (L := LT_slices_DeleteFunc___api_Expr_api_Expr__k137 CC) (bs := [.loop (codeAt [1, 1, 1, 0, 1, 0, 0] B_slices_DeleteFunc___api_Expr_api_Expr__k137)]) (by kernel_rfl) (tells_cons (t_slices_DeleteFunc___api_Expr_api_Expr__k137_1 CC) tells_nil) (Eq.trans (by kernel_rfl) h)
end Go.AM
set_option maxRecDepth 100000
namespace Go.AM
open Go.Proofs
noncomputable abbrev B_slices_IndexFunc___api_Expr_api_Expr__k136 : Code := bodyOf Try.prog (ann.fid 136)
noncomputable def s_slices_IndexFunc___api_Expr_api_Expr__k136_1 (C : CallF) (s : List V) (t7 t8 : Int) {β : Type} (kn : Int → Option β) (kr : ((Int) ⊕ (Int × Bool)) → Option β) : Option β :=
  bif decide ((t8 : Int) < t7) then
   (idx s t8).bind fun x1 =>
   (C F_expr_isUnit [.int .i64 ((x1.cell 0).toInt), .int .i64 ((x1.cell 1).toInt), .list T_api_Expr ((x1.cell 2).toList)]).bind fun r2 =>
   bif (V.nth r2 0).toBool then
    kr (.inl t8)
   else
    kn (IntKind.wrap .i64 (t8 + 1))
  else
   kr (.inr (t8, decide ((t8 : Int) < t7)))
noncomputable def s_slices_IndexFunc___api_Expr_api_Expr__k136_1L (C : CallF) (s : List V) (t7 : Int) : (Int) → Option ((Int) ⊕ ((Int) ⊕ (Int × Bool))) := fun t8 => s_slices_IndexFunc___api_Expr_api_Expr__k136_1 C s t7 t8 (fun y => some (.inl y)) (fun r => some (.inr r))
noncomputable def LT_slices_IndexFunc___api_Expr_api_Expr__k136 (C : CallF) : LTab := fun β n ds k =>
  bif Nat.beq n 33 then loopS S136_33 [false, false, true] [[0], [1, 2, 0, 0]] (@s_slices_IndexFunc___api_Expr_api_Expr__k136_1 C) ds k else
  none
abbrev TS_slices_IndexFunc___api_Expr_api_Expr__k136 (C : CallF) (b : Bar) : Prop := Tells Try.prog ann C (LT_slices_IndexFunc___api_Expr_api_Expr__k136 C) 136 (ntmpsOf Try.prog (ann.fid 136)) (ann.sin 136).blks.length b
theorem t_slices_IndexFunc___api_Expr_api_Expr__k136_1 (C : CallF) : TS_slices_IndexFunc___api_Expr_api_Expr__k136 C (.loop (codeAt [1, 0, 1, 0, 0] B_slices_IndexFunc___api_Expr_api_Expr__k136)) :=
  tl3 S136_33 [false, false, true] [[0], [1, 2, 0, 0]] (@s_slices_IndexFunc___api_Expr_api_Expr__k136_1 C) (by kernel_rfl) (ltok_of (bs := []) (by kernel_rfl) tells_nil) (fun ds => by kernel_rfl) (fun i x => by kernel_rfl) (fun i x β k => by kernel_rfl) (fun β ds k => by kernel_rfl)
noncomputable def f_slices_IndexFunc___api_Expr_api_Expr__k136 (C : CallF) (s : List V) : Option (List V) :=
  (Loop (s_slices_IndexFunc___api_Expr_api_Expr__k136_1L C s (s.length : Int)) 0).bind (way2 (fun (t_3 : Int) =>
    some [.int .i64 t_3]) (un fun (t_4 : Int) (t_5 : Bool) =>
    some [.int .i64 (-1)]))
theorem f_slices_IndexFunc___api_Expr_api_Expr__k136_of {s : List V} {r : Option (List V)} (h : f_slices_IndexFunc___api_Expr_api_Expr__k136 CC s = r) : CC K_slices_IndexFunc___api_Expr_api_Expr__k136 [.list T_api_Expr s] = r :=
  func_of (key := 136) (L := LT_slices_IndexFunc___api_Expr_api_Expr__k136 CC) (bs := [.loop (codeAt [1, 0, 1, 0, 0] B_slices_IndexFunc___api_Expr_api_Expr__k136)]) (by kernel_rfl) (tells_cons (t_slices_IndexFunc___api_Expr_api_Expr__k136_1 CC) tells_nil) (Eq.trans (by kernel_rfl) h)
end Go.AM
set_option maxRecDepth 100000
namespace Go.AM
open Go.Proofs
noncomputable abbrev B_slices_DeleteFunc___api_Expr_api_Expr__k135 : Code := bodyOf Try.prog (ann.fid 135)
noncomputable def s_slices_DeleteFunc___api_Expr_api_Expr__k135_1 (C : CallF) (i j : Int) (ss : List V) {β : Type} (kn : (Int × Int × (List V)) → Option β) (kr : (Int × Int × Bool × (List V)) → Option β) : Option β :=
  bif decide ((j : Int) < (ss.length : Int)) then
   bif (decide (0 ≤ j)) && (decide (j < (ss.length : Int))) then
    (ss[(j : Int).toNat]?).bind fun x2 =>
    (C F_expr_isUnit [.int .i64 ((x2.cell 0).toInt), .int .i64 ((x2.cell 1).toInt), .list T_api_Expr ((x2.cell 2).toList)]).bind fun r3 =>
    bif !((V.nth r3 0).toBool) then
     bif (decide (0 ≤ i)) && (decide (i < (ss.length : Int))) then
      (ss[(i : Int).toNat]?).bind fun x4 =>
      kn (IntKind.wrap .i64 (i + 1), IntKind.wrap .i64 (j + 1), ss.set ((i : Int).toNat) (.agg [.int .i64 ((x2.cell 0).toInt), .int .i64 ((x2.cell 1).toInt), .list T_api_Expr ((x2.cell 2).toList)]))
     else none
    else
     kn (i, IntKind.wrap .i64 (j + 1), ss)
   else none
  else
   kr (i, j, decide ((j : Int) < (ss.length : Int)), ss)
noncomputable def s_slices_DeleteFunc___api_Expr_api_Expr__k135_1L (C : CallF) : (Int × Int × (List V)) → Option ((Int × Int × (List V)) ⊕ (Int × Int × Bool × (List V))) := un fun i => un fun j ss => s_slices_DeleteFunc___api_Expr_api_Expr__k135_1 C i j ss (fun y => some (.inl y)) (fun r => some (.inr r))
noncomputable def LT_slices_DeleteFunc___api_Expr_api_Expr__k135 (C : CallF) : LTab := fun β n ds k =>
  bif Nat.beq n 81 then loopS S135_81 [true, true, true] [[0, 0, 0, 0]] (@s_slices_DeleteFunc___api_Expr_api_Expr__k135_1 C) ds k else
  none
abbrev TS_slices_DeleteFunc___api_Expr_api_Expr__k135 (C : CallF) (b : Bar) : Prop := Tells Try.prog ann C (LT_slices_DeleteFunc___api_Expr_api_Expr__k135 C) 135 (ntmpsOf Try.prog (ann.fid 135)) (ann.sin 135).blks.length b
theorem t_slices_DeleteFunc___api_Expr_api_Expr__k135_1 (C : CallF) : TS_slices_DeleteFunc___api_Expr_api_Expr__k135 C (.loop (codeAt [1, 1, 1, 0, 1, 0, 0] B_slices_DeleteFunc___api_Expr_api_Expr__k135)) :=
  tl3 S135_81 [true, true, true] [[0, 0, 0, 0]] (@s_slices_DeleteFunc___api_Expr_api_Expr__k135_1 C) (by kernel_rfl) (ltok_of (bs := []) (by kernel_rfl) tells_nil) (fun ds => by kernel_rfl) (fun i x => by kernel_rfl) (fun i x β k => by kernel_rfl) (fun β ds k => by kernel_rfl)
noncomputable def f_slices_DeleteFunc___api_Expr_api_Expr__k135 (C : CallF) (ss : List V) : Option (List V) :=
  (C K_slices_IndexFunc___api_Expr_api_Expr__k136 [.list T_api_Expr ss]).bind fun r1 =>
  bif (((V.nth r1 0).toInt) : Int) == (-1) then
   some [V.bool true, .list T_api_Expr ss]
  else
   (Loop (s_slices_DeleteFunc___api_Expr_api_Expr__k135_1L C) ((V.nth r1 0).toInt, IntKind.wrap .i64 (((V.nth r1 0).toInt) + 1), ss)).bind (un fun (i_5 : Int) => un fun (j_6 : Int) => un fun (t_7 : Bool) (ss_8 : List V) =>
     bif (decide (0 ≤ i_5)) && (decide (i_5 ≤ (ss_8.length : Int))) then
      bif (decide (0 ≤ i_5)) && (decide (i_5 ≤ ((ss_8.take ((i_5 : Int).toNat) ++ (List.replicate (ss_8.length - ((i_5 : Int).toNat)) (V.agg [.int .i64 0, .int .i64 0, .list T_api_Expr ([] : List V)]) ++ ss_8.drop (((i_5 : Int).toNat) + (ss_8.length - ((i_5 : Int).toNat))))).length : Int))) then
       some [V.bool false, .list T_api_Expr ((ss_8.take ((i_5 : Int).toNat) ++ (List.replicate (ss_8.length - ((i_5 : Int).toNat)) (V.agg [.int .i64 0, .int .i64 0, .list T_api_Expr ([] : List V)]) ++ ss_8.drop (((i_5 : Int).toNat) + (ss_8.length - ((i_5 : Int).toNat))))).take ((i_5 : Int).toNat))]
      else none
     else none)
theorem f_slices_DeleteFunc___api_Expr_api_Expr__k135_of {ss : List V} {r : Option (List V)} (h : f_slices_DeleteFunc___api_Expr_api_Expr__k135 CC ss = r) : CC K_slices_DeleteFunc___api_Expr_api_Expr__k135 [.list T_api_Expr ss] = r :=
  func_of (key := 135) (L := LT_slices_DeleteFunc___api_Expr_api_Expr__k135 CC) (bs := [.loop (codeAt [1, 1, 1, 0, 1, 0, 0] B_slices_DeleteFunc___api_Expr_api_Expr__k135)]) (by kernel_rfl) (tells_cons (t_slices_DeleteFunc___api_Expr_api_Expr__k135_1 CC) tells_nil) (Eq.trans (by kernel_rfl) h)
end Go.AM
set_option maxRecDepth 100000
namespace Go.AM
open Go.Proofs
noncomputable abbrev B_slices_IndexFunc___api_Expr_api_Expr__k134 : Code := bodyOf Try.prog (ann.fid 134)
noncomputable def s_slices_IndexFunc___api_Expr_api_Expr__k134_1 (C : CallF) (s : List V) (t7 t8 : Int) {β : Type} (kn : Int → Option β) (kr : ((Int) ⊕ (Int × Bool)) → Option β) : Option β :=
  bif decide ((t8 : Int) < t7) then
   (idx s t8).bind fun x1 =>
   (C F_expr_isUniversal [.int .i64 ((x1.cell 0).toInt), .int .i64 ((x1.cell 1).toInt), .list T_api_Expr ((x1.cell 2).toList)]).bind fun r2 =>
   bif (V.nth r2 0).toBool then
    kr (.inl t8)
   else
    kn (IntKind.wrap .i64 (t8 + 1))
  else
   kr (.inr (t8, decide ((t8 : Int) < t7)))
noncomputable def s_slices_IndexFunc___api_Expr_api_Expr__k134_1L (C : CallF) (s : List V) (t7 : Int) : (Int) → Option ((Int) ⊕ ((Int) ⊕ (Int × Bool))) := fun t8 => s_slices_IndexFunc___api_Expr_api_Expr__k134_1 C s t7 t8 (fun y => some (.inl y)) (fun r => some (.inr r))
noncomputable def LT_slices_IndexFunc___api_Expr_api_Expr__k134 (C : CallF) : LTab := fun β n ds k =>
  bif Nat.beq n 33 then loopS S134_33 [false, false, true] [[0], [1, 2, 0, 0]] (@s_slices_IndexFunc___api_Expr_api_Expr__k134_1 C) ds k else
  none
abbrev TS_slices_IndexFunc___api_Expr_api_Expr__k134 (C : CallF) (b : Bar) : Prop := Tells Try.prog ann C (LT_slices_IndexFunc___api_Expr_api_Expr__k134 C) 134 (ntmpsOf Try.prog (ann.fid 134)) (ann.sin 134).blks.length b
theorem t_slices_IndexFunc___api_Expr_api_Expr__k134_1 (C : CallF) : TS_slices_IndexFunc___api_Expr_api_Expr__k134 C (.loop (codeAt [1, 0, 1, 0, 0] B_slices_IndexFunc___api_Expr_api_Expr__k134)) :=
  tl3 S134_33 [false, false, true] [[0], [1, 2, 0, 0]] (@s_slices_IndexFunc___api_Expr_api_Expr__k134_1 C) (by kernel_rfl) (ltok_of (bs := []) (by kernel_rfl) tells_nil) (fun ds => by kernel_rfl) (fun i x => by kernel_rfl) (fun i x β k => by kernel_rfl) (fun β ds k => by kernel_rfl)
noncomputable def f_slices_IndexFunc___api_Expr_api_Expr__k134 (C : CallF) (s : List V) : Option (List V) :=
  (Loop (s_slices_IndexFunc___api_Expr_api_Expr__k134_1L C s (s.length : Int)) 0).bind (way2 (fun (t_3 : Int) =>
    some [.int .i64 t_3]) (un fun (t_4 : Int) (t_5 : Bool) =>
    some [.int .i64 (-1)]))
theorem f_slices_IndexFunc___api_Expr_api_Expr__k134_of {s : List V} {r : Option (List V)} (h : f_slices_IndexFunc___api_Expr_api_Expr__k134 CC s = r) : CC K_slices_IndexFunc___api_Expr_api_Expr__k134 [.list T_api_Expr s] = r :=
  func_of (key := 134) (L := LT_slices_IndexFunc___api_Expr_api_Expr__k134 CC) (bs := [.loop (codeAt [1, 0, 1, 0, 0] B_slices_IndexFunc___api_Expr_api_Expr__k134)]) (by kernel_rfl) (tells_cons (t_slices_IndexFunc___api_Expr_api_Expr__k134_1 CC) tells_nil) (Eq.trans (by kernel_rfl) h)
end Go.AM
set_option maxRecDepth 100000
namespace Go.AM
open Go.Proofs
noncomputable def f_slices_ContainsFunc___api_Expr_api_Expr__k133 (C : CallF) (s : List V) : Option (List V) :=
  (C K_slices_IndexFunc___api_Expr_api_Expr__k134 [.list T_api_Expr s]).bind fun r1 =>
  some [.bool (decide ((((V.nth r1 0).toInt) : Int) ≥ 0))]
theorem f_slices_ContainsFunc___api_Expr_api_Expr__k133_of {s : List V} {r : Option (List V)} (h : f_slices_ContainsFunc___api_Expr_api_Expr__k133 CC s = r) : CC K_slices_ContainsFunc___api_Expr_api_Expr__k133 [.list T_api_Expr s] = r :=
  func_of (key := 133) (L := LT0) (bs := []) (by kernel_rfl) tells_nil (Eq.trans (by kernel_rfl) h)
end Go.AM
set_option maxRecDepth 100000
namespace Go.AM
open Go.Proofs
noncomputable abbrev B_slices_DeleteFunc___api_Expr_api_Expr_ : Code := bodyOf Try.prog (ann.fid 82)
noncomputable def s_slices_DeleteFunc___api_Expr_api_Expr__1 (C : CallF) (i j : Int) (ss : List V) {β : Type} (kn : (Int × Int × (List V)) → Option β) (kr : (Int × Int × Bool × (List V)) → Option β) : Option β :=
  bif decide ((j : Int) < (ss.length : Int)) then
   bif (decide (0 ≤ j)) && (decide (j < (ss.length : Int))) then
    (ss[(j : Int).toNat]?).bind fun x2 =>
    (C F_expr_isUniversal [.int .i64 ((x2.cell 0).toInt), .int .i64 ((x2.cell 1).toInt), .list T_api_Expr ((x2.cell 2).toList)]).bind fun r3 =>
    bif !((V.nth r3 0).toBool) then
     bif (decide (0 ≤ i)) && (decide (i < (ss.length : Int))) then
      (ss[(i : Int).toNat]?).bind fun x4 =>
      kn (IntKind.wrap .i64 (i + 1), IntKind.wrap .i64 (j + 1), ss.set ((i : Int).toNat) (.agg [.int .i64 ((x2.cell 0).toInt), .int .i64 ((x2.cell 1).toInt), .list T_api_Expr ((x2.cell 2).toList)]))
     else none
    else
     kn (i, IntKind.wrap .i64 (j + 1), ss)
   else none
  else
   kr (i, j, decide ((j : Int) < (ss.length : Int)), ss)
noncomputable def s_slices_DeleteFunc___api_Expr_api_Expr__1L (C : CallF) : (Int × Int × (List V)) → Option ((Int × Int × (List V)) ⊕ (Int × Int × Bool × (List V))) := un fun i => un fun j ss => s_slices_DeleteFunc___api_Expr_api_Expr__1 C i j ss (fun y => some (.inl y)) (fun r => some (.inr r))
noncomputable def LT_slices_DeleteFunc___api_Expr_api_Expr_ (C : CallF) : LTab := fun β n ds k =>
  bif Nat.beq n 81 then loopS S82_81 [true, true, true] [[0, 0, 0, 0]] (@s_slices_DeleteFunc___api_Expr_api_Expr__1 C) ds k else
  none
abbrev TS_slices_DeleteFunc___api_Expr_api_Expr_ (C : CallF) (b : Bar) : Prop := Tells Try.prog ann C (LT_slices_DeleteFunc___api_Expr_api_Expr_ C) 82 (ntmpsOf Try.prog (ann.fid 82)) (ann.sin 82).blks.length b
theorem t_slices_DeleteFunc___api_Expr_api_Expr__1 (C : CallF) : TS_slices_DeleteFunc___api_Expr_api_Expr_ C (.loop (codeAt [1, 1, 1, 0, 1, 0, 0] B_slices_DeleteFunc___api_Expr_api_Expr_)) :=
  tl3 S82_81 [true, true, true] [[0, 0, 0, 0]] (@s_slices_DeleteFunc___api_Expr_api_Expr__1 C) (by kernel_rfl) (ltok_of (bs := []) (by kernel_rfl) tells_nil) (fun ds => by kernel_rfl) (fun i x => by kernel_rfl) (fun i x β k => by kernel_rfl) (fun β ds k => by kernel_rfl)
noncomputable def f_slices_DeleteFunc___api_Expr_api_Expr_ (C : CallF) (ss : List V) : Option (List V) :=
  (C K_slices_IndexFunc___api_Expr_api_Expr__k134 [.list T_api_Expr ss]).bind fun r1 =>
  bif (((V.nth r1 0).toInt) : Int) == (-1) then
   some [V.bool true, .list T_api_Expr ss]
  else
   (Loop (s_slices_DeleteFunc___api_Expr_api_Expr__1L C) ((V.nth r1 0).toInt, IntKind.wrap .i64 (((V.nth r1 0).toInt) + 1), ss)).bind (un fun (i_5 : Int) => un fun (j_6 : Int) => un fun (t_7 : Bool) (ss_8 : List V) =>
     bif (decide (0 ≤ i_5)) && (decide (i_5 ≤ (ss_8.length : Int))) then
      bif (decide (0 ≤ i_5)) && (decide (i_5 ≤ ((ss_8.take ((i_5 : Int).toNat) ++ (List.replicate (ss_8.length - ((i_5 : Int).toNat)) (V.agg [.int .i64 0, .int .i64 0, .list T_api_Expr ([] : List V)]) ++ ss_8.drop (((i_5 : Int).toNat) + (ss_8.length - ((i_5 : Int).toNat))))).length : Int))) then
       some [V.bool false, .list T_api_Expr ((ss_8.take ((i_5 : Int).toNat) ++ (List.replicate (ss_8.length - ((i_5 : Int).toNat)) (V.agg [.int .i64 0, .int .i64 0, .list T_api_Expr ([] : List V)]) ++ ss_8.drop (((i_5 : Int).toNat) + (ss_8.length - ((i_5 : Int).toNat))))).take ((i_5 : Int).toNat))]
      else none
     else none)
theorem f_slices_DeleteFunc___api_Expr_api_Expr__of {ss : List V} {r : Option (List V)} (h : f_slices_DeleteFunc___api_Expr_api_Expr_ CC ss = r) : CC F_slices_DeleteFunc___api_Expr_api_Expr_ [.list T_api_Expr ss] = r :=
  func_of (key := 82) (L := LT_slices_DeleteFunc___api_Expr_api_Expr_ CC) (bs := [.loop (codeAt [1, 1, 1, 0, 1, 0, 0] B_slices_DeleteFunc___api_Expr_api_Expr_)]) (by kernel_rfl) (tells_cons (t_slices_DeleteFunc___api_Expr_api_Expr__1 CC) tells_nil) (Eq.trans (by kernel_rfl) h)
end Go.AM
