/-
  Functions of the program, lifted to plain data.
-/
import Derived.Test.YtcgkkhgapeiabaaDoorProg
import Derived.Tactics
import Derived.Tactics2
import Derived.StillTactics
import Derived.Laws.Pointers
import Derived.Lib.LazyBuf
import Derived.RegionTactic
import Derived.LoopTactic
import Derived.WalkKit
import Derived.Recover
import Derived.Laws.Externs
import Derived.Lib.Builder
import Derived.Test.YtcgkkhgapeiabaaDoorRows
import Derived.Lib.LaidTab
import Derived.LaidHandle
import Derived.MakeChecks
import Derived.Lay
import Derived.Test.YtcgkkhgapeiabaaDoorP3
set_option linter.unusedVariables false
set_option linter.unusedSimpArgs false
set_option maxRecDepth 100000
namespace Go.AM
open Go.Proofs
abbrev F_semigrouplaw04_ExprMatches : FuncId := 3
abbrev F_semigrouplaw04_ExprBoolean : FuncId := 4
abbrev F_semigrouplaw04_ExprSplits : FuncId := 5
abbrev F_expr_Match : FuncId := 6
abbrev F_semigroupref04_Valid : FuncId := 7
abbrev F_semigroupref01_Valid : FuncId := 8
abbrev F_semigrouplaw04_awake : FuncId := 9
abbrev F_semigrouplaw04_little : FuncId := 10
abbrev F_semigroupref04_Match : FuncId := 11
abbrev F_semigroupref04_Depth : FuncId := 12
abbrev F_expr_Nullable : FuncId := 13
abbrev F_expr_valid : FuncId := 14
abbrev F_word_Valid : FuncId := 15
abbrev F_expr_matcher_none : FuncId := 16
abbrev F_expr_offsets_add : FuncId := 17
abbrev F_expr_matcher_ends : FuncId := 18
abbrev F_expr_offsets_has : FuncId := 19
abbrev F_semigroupref04_Validate : FuncId := 20
abbrev F_semigroupref01_MayLetters : FuncId := 21
abbrev F_expr_Parse : FuncId := 22
abbrev F_expr_Format : FuncId := 23
abbrev F_semigroupref04_Size : FuncId := 24
abbrev F_semigroupref04_spans : FuncId := 25
abbrev F_semigroupref04_measure : FuncId := 26
abbrev F_expr_HasUnit : FuncId := 27
abbrev F_expr_Validate : FuncId := 28
abbrev F_expr_matcher_concat : FuncId := 29
abbrev F_expr_matcher_star : FuncId := 30
abbrev F_expr_matcher_combine : FuncId := 31
abbrev F_expr_matcher_complement : FuncId := 32
abbrev F_expr_offsets_each : FuncId := 33
abbrev F_expr_matcher_ends_1 : FuncId := 34
abbrev F_semigroupref04_Within : FuncId := 35
abbrev F_semigroupref04_shaped : FuncId := 36
abbrev F_expr_parseText : FuncId := 37
abbrev F_expr_withinLimits : FuncId := 38
abbrev F_expr_write : FuncId := 39
abbrev F_strings_Builder_String : FuncId := 40
abbrev F_semigroupref04_times : FuncId := 41
abbrev F_slices_ContainsFunc___api_Expr_api_Expr_ : FuncId := 42
abbrev F_expr_wellFormed : FuncId := 43
abbrev F_expr_matcher_concat_1 : FuncId := 44
abbrev F_expr_offsets_unite : FuncId := 45
abbrev F_expr_isUniversal : FuncId := 46
abbrev F_expr_matcher_concat_2 : FuncId := 47
abbrev F_expr_matcher_concat_2_1 : FuncId := 48
abbrev F_expr_matcher_star_1 : FuncId := 49
abbrev F_expr_matcher_star_2 : FuncId := 50
abbrev F_expr_matcher_combine_1 : FuncId := 51
abbrev F_expr_matcher_complement_1 : FuncId := 52
abbrev F_bits_TrailingZeros64 : FuncId := 53
abbrev F_expr_parser_union : FuncId := 55
abbrev F_expr_parser_peek : FuncId := 56
abbrev F_expr_fits : FuncId := 58
abbrev F_strings_Builder_WriteByte : FuncId := 59
abbrev F_expr_writeKids : FuncId := 60
abbrev F_slices_IndexFunc___api_Expr_api_Expr_ : FuncId := 61
abbrev F_expr_isEmpty : FuncId := 62
abbrev F_expr_parser_list : FuncId := 63
abbrev F_expr_parser_and : FuncId := 64
abbrev F_strings_Builder_WriteString : FuncId := 66
abbrev F_expr_level : FuncId := 67
abbrev F_expr_node : FuncId := 68
abbrev F_expr_parser_cat : FuncId := 69
abbrev F_expr_parser_unary : FuncId := 71
abbrev F_expr_parser_begins : FuncId := 72
abbrev F_expr_parser_postfix : FuncId := 73
abbrev F_expr_parser_isLetter : FuncId := 74
abbrev F_expr_parser_atom : FuncId := 75
abbrev T_int : TypeId := 3
abbrev T_bool : TypeId := 4
abbrev T_uint8 : TypeId := 5
abbrev T_l_api_Expr : TypeId := 22
abbrev T_api_Expr : TypeId := 24
abbrev T_expr_offsets : TypeId := 35
abbrev T_l_bool : TypeId := 46
abbrev T_uint64 : TypeId := 52
abbrev K_expr_offsets_each_k98 : Nat := 98
abbrev K_expr_offsets_add_k99 : Nat := 99
abbrev K_expr_offsets_each_k100 : Nat := 100
abbrev K_expr_offsets_each_k101 : Nat := 101
abbrev K_expr_offsets_each_k102 : Nat := 102
abbrev K_expr_offsets_each_k103 : Nat := 103
abbrev K_expr_offsets_each_k104 : Nat := 104
abbrev K_expr_offsets_each_k105 : Nat := 105
def tab_0 : List V := [.int .u8 0, .int .u8 1, .int .u8 56, .int .u8 2, .int .u8 57, .int .u8 49, .int .u8 28, .int .u8 3, .int .u8 61, .int .u8 58, .int .u8 42, .int .u8 50, .int .u8 38, .int .u8 29, .int .u8 17, .int .u8 4, .int .u8 62, .int .u8 47, .int .u8 59, .int .u8 36, .int .u8 45, .int .u8 43, .int .u8 51, .int .u8 22, .int .u8 53, .int .u8 39, .int .u8 33, .int .u8 30, .int .u8 24, .int .u8 18, .int .u8 12, .int .u8 5, .int .u8 63, .int .u8 55, .int .u8 48, .int .u8 27, .int .u8 60, .int .u8 41, .int .u8 37, .int .u8 16, .int .u8 46, .int .u8 35, .int .u8 44, .int .u8 21, .int .u8 52, .int .u8 32, .int .u8 23, .int .u8 11, .int .u8 54, .int .u8 26, .int .u8 40, .int .u8 15, .int .u8 34, .int .u8 20, .int .u8 31, .int .u8 10, .int .u8 25, .int .u8 14, .int .u8 19, .int .u8 9, .int .u8 13, .int .u8 8, .int .u8 7, .int .u8 6]
def S5_97 : Shape × List (Out × Shape) := (⟨[(2, .one (.str)), (3, .one (.ptrC 0 0 0)), (4, .one (.ptrC 1 0 0)), (7, .one (.ptrC 2 0 0)), (8, .one (.bool)), (9, .one (.bool)), (10, .one (.int .i64))], [.var 24 [.one (.int .i64), .one (.int .i64), .one (.list T_api_Expr)], .var 24 [.one (.int .i64), .one (.int .i64), .one (.list T_api_Expr)], .var 24 [.one (.int .i64), .one (.int .i64), .one (.whole T_api_Expr 3)], .arr T_api_Expr false]⟩, [(.exit 0, ⟨[(2, .one (.str)), (3, .one (.ptrC 0 0 0)), (4, .one (.ptrC 1 0 0)), (7, .one (.ptrC 2 0 0)), (8, .one (.bool)), (9, .one (.bool)), (10, .one (.int .i64)), (48, .one (.bool))], [.var 24 [.one (.int .i64), .one (.int .i64), .one (.list T_api_Expr)], .var 24 [.one (.int .i64), .one (.int .i64), .one (.list T_api_Expr)], .var 24 [.one (.int .i64), .one (.int .i64), .one (.whole T_api_Expr 3)], .arr T_api_Expr false]⟩)])
def S8_65 : Shape × List (Out × Shape) := (⟨[(0, .one (.str)), (1, .one (.int .i64)), (5, .one (.int .i64))], []⟩, [(.ret, ⟨[(4, .one (.bool))], []⟩), (.exit 0, ⟨[(0, .one (.str)), (1, .one (.int .i64)), (5, .one (.int .i64)), (17, .one (.bool))], []⟩)])
def S15_65 : Shape × List (Out × Shape) := (⟨[(0, .one (.str)), (1, .one (.int .i64)), (18, .one (.int .i64)), (19, .one (.int .i64))], []⟩, [(.ret, ⟨[(4, .one (.bool))], []⟩), (.exit 0, ⟨[(0, .one (.str)), (1, .one (.int .i64)), (18, .one (.int .i64)), (19, .one (.int .i64)), (20, .one (.bool))], []⟩)])
def S25_895 : Shape × List (Out × Shape) := (⟨[(1, .one (.str)), (2, .one (.ptrC 0 0 0)), (5, .one (.int .i64)), (6, .one (.whole T_l_bool 1)), (7, .one (.int .i64)), (8, .one (.int .i64)), (24, .one (.int .i64)), (25, .one (.int .i64)), (41, .one (.int .i64)), (55, .one (.bool))], [.var 24 [.one (.int .i64), .one (.int .i64), .one (.list T_api_Expr)], .nest T_l_bool]⟩, [(.norm, ⟨[(1, .one (.str)), (2, .one (.ptrC 0 0 0)), (5, .one (.int .i64)), (6, .one (.whole T_l_bool 1)), (7, .one (.int .i64)), (8, .one (.int .i64)), (24, .one (.int .i64)), (25, .one (.int .i64))], [.var 24 [.one (.int .i64), .one (.int .i64), .one (.list T_api_Expr)], .nest T_l_bool]⟩)])
def S25_129 : Shape × List (Out × Shape) := (⟨[(1, .one (.str)), (2, .one (.ptrC 0 0 0)), (5, .one (.int .i64)), (6, .one (.whole T_l_bool 1)), (7, .one (.int .i64)), (8, .one (.int .i64)), (24, .one (.int .i64)), (25, .one (.int .i64))], [.var 24 [.one (.int .i64), .one (.int .i64), .one (.list T_api_Expr)], .nest T_l_bool]⟩, [(.exit 2, ⟨[(1, .one (.str)), (2, .one (.ptrC 0 0 0)), (5, .one (.int .i64)), (6, .one (.whole T_l_bool 1)), (7, .one (.int .i64)), (8, .one (.int .i64)), (24, .one (.int .i64)), (25, .one (.int .i64)), (37, .one (.bool))], [.var 24 [.one (.int .i64), .one (.int .i64), .one (.list T_api_Expr)], .nest T_l_bool]⟩)])
def S25_65 : Shape × List (Out × Shape) := (⟨[(1, .one (.str)), (2, .one (.ptrC 0 0 0)), (5, .one (.int .i64)), (6, .one (.whole T_l_bool 1)), (24, .one (.int .i64)), (25, .one (.int .i64))], [.var 24 [.one (.int .i64), .one (.int .i64), .one (.list T_api_Expr)], .nest T_l_bool]⟩, [(.exit 0, ⟨[(1, .one (.str)), (2, .one (.ptrC 0 0 0)), (5, .one (.int .i64)), (6, .one (.whole T_l_bool 1)), (24, .one (.int .i64)), (25, .one (.int .i64)), (26, .one (.bool))], [.var 24 [.one (.int .i64), .one (.int .i64), .one (.list T_api_Expr)], .nest T_l_bool]⟩)])
def S25_817 : Shape × List (Out × Shape) := (⟨[(1, .one (.str)), (2, .one (.ptrC 0 0 0)), (5, .one (.int .i64)), (6, .one (.whole T_l_bool 1)), (11, .one (.whole T_l_bool 2)), (12, .one (.int .i64)), (13, .one (.whole T_l_bool 3)), (14, .one (.int .i64)), (88, .one (.list T_api_Expr)), (89, .one (.int .i64)), (90, .one (.int .i64)), (193, .one (.int .i64)), (194, .one (.int .i64)), (198, .one (.int .i64)), (199, .one (.int .i64))], [.var 24 [.one (.int .i64), .one (.int .i64), .one (.list T_api_Expr)], .nest T_l_bool, .nest T_l_bool, .nest T_l_bool]⟩, [(.exit 17, ⟨[(1, .one (.str)), (2, .one (.ptrC 0 0 0)), (5, .one (.int .i64)), (6, .one (.whole T_l_bool 1)), (11, .one (.whole T_l_bool 2)), (12, .one (.int .i64)), (13, .one (.whole T_l_bool 3)), (14, .one (.int .i64)), (88, .one (.list T_api_Expr)), (89, .one (.int .i64)), (90, .one (.int .i64)), (193, .one (.int .i64)), (194, .one (.int .i64)), (198, .one (.int .i64)), (199, .one (.int .i64)), (200, .one (.bool))], [.var 24 [.one (.int .i64), .one (.int .i64), .one (.list T_api_Expr)], .nest T_l_bool, .nest T_l_bool, .nest T_l_bool]⟩)])
def S25_769 : Shape × List (Out × Shape) := (⟨[(1, .one (.str)), (2, .one (.ptrC 0 0 0)), (5, .one (.int .i64)), (6, .one (.whole T_l_bool 1)), (11, .one (.whole T_l_bool 2)), (12, .one (.int .i64)), (13, .one (.whole T_l_bool 3)), (88, .one (.list T_api_Expr)), (89, .one (.int .i64)), (90, .one (.int .i64)), (193, .one (.int .i64)), (194, .one (.int .i64))], [.var 24 [.one (.int .i64), .one (.int .i64), .one (.list T_api_Expr)], .nest T_l_bool, .nest T_l_bool, .nest T_l_bool]⟩, [(.exit 15, ⟨[(1, .one (.str)), (2, .one (.ptrC 0 0 0)), (5, .one (.int .i64)), (6, .one (.whole T_l_bool 1)), (11, .one (.whole T_l_bool 2)), (12, .one (.int .i64)), (13, .one (.whole T_l_bool 3)), (88, .one (.list T_api_Expr)), (89, .one (.int .i64)), (90, .one (.int .i64)), (193, .one (.int .i64)), (194, .one (.int .i64)), (195, .one (.bool))], [.var 24 [.one (.int .i64), .one (.int .i64), .one (.list T_api_Expr)], .nest T_l_bool, .nest T_l_bool, .nest T_l_bool]⟩)])
def S25_705 : Shape × List (Out × Shape) := (⟨[(1, .one (.str)), (2, .one (.ptrC 0 0 0)), (5, .one (.int .i64)), (6, .one (.whole T_l_bool 1)), (11, .one (.whole T_l_bool 2)), (12, .one (.int .i64)), (88, .one (.list T_api_Expr)), (89, .one (.int .i64)), (90, .one (.int .i64))], [.var 24 [.one (.int .i64), .one (.int .i64), .one (.list T_api_Expr)], .nest T_l_bool, .nest T_l_bool]⟩, [(.exit 13, ⟨[(1, .one (.str)), (2, .one (.ptrC 0 0 0)), (5, .one (.int .i64)), (6, .one (.whole T_l_bool 1)), (11, .one (.whole T_l_bool 2)), (12, .one (.int .i64)), (88, .one (.list T_api_Expr)), (89, .one (.int .i64)), (90, .one (.int .i64)), (186, .one (.bool))], [.var 24 [.one (.int .i64), .one (.int .i64), .one (.list T_api_Expr)], .nest T_l_bool, .nest T_l_bool]⟩)])
def S25_1807 : Shape × List (Out × Shape) := (⟨[(1, .one (.str)), (2, .one (.ptrC 0 0 0)), (5, .one (.int .i64)), (6, .one (.whole T_l_bool 1)), (11, .one (.whole T_l_bool 2)), (16, .one (.int .i64)), (17, .one (.int .i64)), (88, .one (.list T_api_Expr)), (89, .one (.int .i64)), (90, .one (.int .i64)), (100, .one (.int .i64)), (101, .one (.int .i64)), (111, .one (.int .i64)), (112, .one (.bool))], [.var 24 [.one (.int .i64), .one (.int .i64), .one (.list T_api_Expr)], .nest T_l_bool, .nest T_l_bool]⟩, [(.norm, ⟨[(1, .one (.str)), (2, .one (.ptrC 0 0 0)), (5, .one (.int .i64)), (6, .one (.whole T_l_bool 1)), (11, .one (.whole T_l_bool 2)), (16, .one (.int .i64)), (17, .one (.int .i64)), (88, .one (.list T_api_Expr)), (89, .one (.int .i64)), (90, .one (.int .i64)), (100, .one (.int .i64)), (101, .one (.int .i64))], [.var 24 [.one (.int .i64), .one (.int .i64), .one (.list T_api_Expr)], .nest T_l_bool, .nest T_l_bool]⟩)])
def S25_481 : Shape × List (Out × Shape) := (⟨[(1, .one (.str)), (2, .one (.ptrC 0 0 0)), (5, .one (.int .i64)), (6, .one (.whole T_l_bool 1)), (11, .one (.whole T_l_bool 2)), (16, .one (.int .i64)), (17, .one (.int .i64)), (88, .one (.list T_api_Expr)), (89, .one (.int .i64)), (90, .one (.int .i64)), (100, .one (.int .i64)), (101, .one (.int .i64))], [.var 24 [.one (.int .i64), .one (.int .i64), .one (.list T_api_Expr)], .nest T_l_bool, .nest T_l_bool]⟩, [(.exit 10, ⟨[(1, .one (.str)), (2, .one (.ptrC 0 0 0)), (5, .one (.int .i64)), (6, .one (.whole T_l_bool 1)), (11, .one (.whole T_l_bool 2)), (16, .one (.int .i64)), (17, .one (.int .i64)), (88, .one (.list T_api_Expr)), (89, .one (.int .i64)), (90, .one (.int .i64)), (100, .one (.int .i64)), (101, .one (.int .i64)), (107, .one (.bool))], [.var 24 [.one (.int .i64), .one (.int .i64), .one (.list T_api_Expr)], .nest T_l_bool, .nest T_l_bool]⟩)])
def S25_433 : Shape × List (Out × Shape) := (⟨[(1, .one (.str)), (2, .one (.ptrC 0 0 0)), (5, .one (.int .i64)), (6, .one (.whole T_l_bool 1)), (11, .one (.whole T_l_bool 2)), (88, .one (.list T_api_Expr)), (89, .one (.int .i64)), (90, .one (.int .i64)), (100, .one (.int .i64)), (101, .one (.int .i64))], [.var 24 [.one (.int .i64), .one (.int .i64), .one (.list T_api_Expr)], .nest T_l_bool, .nest T_l_bool]⟩, [(.exit 8, ⟨[(1, .one (.str)), (2, .one (.ptrC 0 0 0)), (5, .one (.int .i64)), (6, .one (.whole T_l_bool 1)), (11, .one (.whole T_l_bool 2)), (88, .one (.list T_api_Expr)), (89, .one (.int .i64)), (90, .one (.int .i64)), (100, .one (.int .i64)), (101, .one (.int .i64)), (102, .one (.bool))], [.var 24 [.one (.int .i64), .one (.int .i64), .one (.list T_api_Expr)], .nest T_l_bool, .nest T_l_bool]⟩)])
def S25_353 : Shape × List (Out × Shape) := (⟨[(1, .one (.str)), (2, .one (.ptrC 0 0 0)), (5, .one (.int .i64)), (6, .one (.whole T_l_bool 1)), (88, .one (.list T_api_Expr)), (89, .one (.int .i64)), (90, .one (.int .i64))], [.var 24 [.one (.int .i64), .one (.int .i64), .one (.list T_api_Expr)], .nest T_l_bool]⟩, [(.exit 5, ⟨[(1, .one (.str)), (2, .one (.ptrC 0 0 0)), (5, .one (.int .i64)), (6, .one (.whole T_l_bool 1)), (88, .one (.list T_api_Expr)), (89, .one (.int .i64)), (90, .one (.int .i64)), (91, .one (.bool))], [.var 24 [.one (.int .i64), .one (.int .i64), .one (.list T_api_Expr)], .nest T_l_bool]⟩)])
def S26_49 : Shape × List (Out × Shape) := (⟨[(1, .one (.int .i64)), (2, .one (.ptrC 0 0 0)), (6, .one (.int .i64)), (7, .one (.int .i64)), (8, .one (.int .i64))], [.var 24 [.one (.int .i64), .one (.int .i64), .one (.list T_api_Expr)]]⟩, [(.exit 0, ⟨[(1, .one (.int .i64)), (2, .one (.ptrC 0 0 0)), (6, .one (.int .i64)), (7, .one (.int .i64)), (8, .one (.int .i64)), (20, .one (.bool))], [.var 24 [.one (.int .i64), .one (.int .i64), .one (.list T_api_Expr)]]⟩)])
def S27_161 : Shape × List (Out × Shape) := (⟨[(19, .one (.list T_api_Expr)), (20, .one (.int .i64)), (21, .one (.int .i64))], []⟩, [(.ret, ⟨[(2, .one (.bool))], []⟩), (.exit 1, ⟨[(19, .one (.list T_api_Expr)), (20, .one (.int .i64)), (21, .one (.int .i64)), (22, .one (.bool))], []⟩)])
def S29_49 : Shape × List (Out × Shape) := (⟨[(2, .one (.list T_uint64)), (3, .one (.ptrC 0 0 0)), (7, .one (.ptrC 1 0 0)), (20, .one (.list T_api_Expr)), (21, .one (.int .i64)), (22, .one (.int .i64))], [.var 33 [.one (.str)], .var 38 [.one (.whole T_expr_offsets 2)], .nest T_expr_offsets]⟩, [(.exit 0, ⟨[(2, .one (.list T_uint64)), (3, .one (.ptrC 0 0 0)), (7, .one (.ptrC 1 0 0)), (20, .one (.list T_api_Expr)), (21, .one (.int .i64)), (22, .one (.int .i64)), (23, .one (.bool))], [.var 33 [.one (.str)], .var 38 [.one (.whole T_expr_offsets 2)], .nest T_expr_offsets]⟩)])
def S30_65 : Shape × List (Out × Shape) := (⟨[(3, .one (.ptrC 0 0 0)), (4, .one (.ptrC 1 0 0)), (7, .one (.whole T_uint64 2)), (8, .one (.ptrC 3 0 0)), (9, .one (.int .i64))], [.var 33 [.one (.str)], .var 24 [.one (.int .i64), .one (.int .i64), .one (.list T_api_Expr)], .arr T_uint64 false, .var 3 [.one (.int .i64)]]⟩, [(.exit 0, ⟨[(3, .one (.ptrC 0 0 0)), (4, .one (.ptrC 1 0 0)), (7, .one (.whole T_uint64 2)), (8, .one (.ptrC 3 0 0)), (9, .one (.int .i64)), (28, .one (.bool))], [.var 33 [.one (.str)], .var 24 [.one (.int .i64), .one (.int .i64), .one (.list T_api_Expr)], .arr T_uint64 false, .var 3 [.one (.int .i64)]]⟩)])
def S30_161 : Shape × List (Out × Shape) := (⟨[(3, .one (.ptrC 0 0 0)), (8, .one (.ptrC 1 0 0)), (10, .one (.whole T_expr_offsets 2)), (11, .one (.ptrC 3 0 0)), (12, .one (.int .i64))], [.var 33 [.one (.str)], .var 3 [.one (.int .i64)], .nest T_expr_offsets, .var 38 [.one (.whole T_expr_offsets 4)], .nest T_expr_offsets]⟩, [(.exit 2, ⟨[(3, .one (.ptrC 0 0 0)), (8, .one (.ptrC 1 0 0)), (10, .one (.whole T_expr_offsets 2)), (11, .one (.ptrC 3 0 0)), (12, .one (.int .i64)), (48, .one (.bool))], [.var 33 [.one (.str)], .var 3 [.one (.int .i64)], .nest T_expr_offsets, .var 38 [.one (.whole T_expr_offsets 4)], .nest T_expr_offsets]⟩)])
def S31_49 : Shape × List (Out × Shape) := (⟨[(2, .one (.list T_uint64)), (3, .one (.ptrC 0 0 0)), (4, .one (.ptrC 1 0 0)), (7, .one (.ptrC 2 0 0)), (20, .one (.list T_api_Expr)), (21, .one (.int .i64)), (22, .one (.int .i64))], [.var 33 [.one (.str)], .var 24 [.one (.int .i64), .one (.int .i64), .one (.list T_api_Expr)], .var 38 [.one (.whole T_expr_offsets 3)], .nest T_expr_offsets]⟩, [(.exit 0, ⟨[(2, .one (.list T_uint64)), (3, .one (.ptrC 0 0 0)), (4, .one (.ptrC 1 0 0)), (7, .one (.ptrC 2 0 0)), (20, .one (.list T_api_Expr)), (21, .one (.int .i64)), (22, .one (.int .i64)), (23, .one (.bool))], [.var 33 [.one (.str)], .var 24 [.one (.int .i64), .one (.int .i64), .one (.list T_api_Expr)], .var 38 [.one (.whole T_expr_offsets 3)], .nest T_expr_offsets]⟩)])
def S33_49 : Shape × List (Out × Shape) := (⟨[(1, .fn F_expr_matcher_ends_1 [] [.ptrC 0 0 0, .ptrC 1 0 0, .ptrC 2 0 0]), (4, .one (.int .i64)), (5, .one (.int .u64)), (6, .one (.list T_uint64)), (7, .one (.int .i64)), (8, .one (.int .i64))], [.var 33 [.one (.str)], .var 38 [.one (.whole T_expr_offsets 3)], .var 24 [.one (.int .i64), .one (.int .i64), .one (.list T_api_Expr)], .nest T_expr_offsets]⟩, [(.exit 2, ⟨[(1, .fn F_expr_matcher_ends_1 [] [.ptrC 0 0 0, .ptrC 1 0 0, .ptrC 2 0 0]), (4, .one (.int .i64)), (5, .one (.int .u64)), (6, .one (.list T_uint64)), (7, .one (.int .i64)), (8, .one (.int .i64)), (14, .one (.bool))], [.var 33 [.one (.str)], .var 38 [.one (.whole T_expr_offsets 3)], .var 24 [.one (.int .i64), .one (.int .i64), .one (.list T_api_Expr)], .nest T_expr_offsets]⟩)])
def S33_17 : Shape × List (Out × Shape) := (⟨[(1, .fn F_expr_matcher_ends_1 [] [.ptrC 0 0 0, .ptrC 1 0 0, .ptrC 2 0 0]), (6, .one (.list T_uint64)), (7, .one (.int .i64)), (8, .one (.int .i64))], [.var 33 [.one (.str)], .var 38 [.one (.whole T_expr_offsets 3)], .var 24 [.one (.int .i64), .one (.int .i64), .one (.list T_api_Expr)], .nest T_expr_offsets]⟩, [(.exit 0, ⟨[(1, .fn F_expr_matcher_ends_1 [] [.ptrC 0 0 0, .ptrC 1 0 0, .ptrC 2 0 0]), (6, .one (.list T_uint64)), (7, .one (.int .i64)), (8, .one (.int .i64)), (9, .one (.bool))], [.var 33 [.one (.str)], .var 38 [.one (.whole T_expr_offsets 3)], .var 24 [.one (.int .i64), .one (.int .i64), .one (.list T_api_Expr)], .nest T_expr_offsets]⟩)])
def S34_175 : Shape × List (Out × Shape) := (⟨[(0, .one (.int .i64)), (1, .one (.ptrC 0 0 0)), (2, .one (.ptrC 1 0 0)), (3, .one (.ptrC 2 0 0)), (10, .one (.bool))], [.var 33 [.one (.str)], .var 38 [.one (.whole T_expr_offsets 3)], .var 24 [.one (.int .i64), .one (.int .i64), .one (.list T_api_Expr)], .nest T_expr_offsets]⟩, [(.norm, ⟨[], [.var 33 [.one (.str)], .var 38 [.one (.whole T_expr_offsets 3)], .var 24 [.one (.int .i64), .one (.int .i64), .one (.list T_api_Expr)], .nest T_expr_offsets]⟩)])
def S36_639 : Shape × List (Out × Shape) := (⟨[(1, .one (.int .i64)), (2, .one (.ptrC 0 0 0)), (5, .one (.int .i64)), (6, .one (.bool)), (39, .one (.bool))], [.var 24 [.one (.int .i64), .one (.int .i64), .one (.list T_api_Expr)]]⟩, [(.norm, ⟨[(1, .one (.int .i64)), (2, .one (.ptrC 0 0 0)), (5, .one (.int .i64)), (6, .one (.bool))], [.var 24 [.one (.int .i64), .one (.int .i64), .one (.list T_api_Expr)]]⟩)])
def S36_257 : Shape × List (Out × Shape) := (⟨[(1, .one (.int .i64)), (2, .one (.ptrC 0 0 0)), (5, .one (.int .i64)), (6, .one (.bool)), (7, .one (.int .i64))], [.var 24 [.one (.int .i64), .one (.int .i64), .one (.list T_api_Expr)]]⟩, [(.exit 1, ⟨[(1, .one (.int .i64)), (2, .one (.ptrC 0 0 0)), (5, .one (.int .i64)), (6, .one (.bool)), (7, .one (.int .i64)), (63, .one (.bool))], [.var 24 [.one (.int .i64), .one (.int .i64), .one (.list T_api_Expr)]]⟩)])
def S39_463 : Shape × List (Out × Shape) := (⟨[(0, .one (.ptrC 0 0 0)), (3, .one (.ptrC 2 0 0)), (5, .one (.int .i64)), (28, .one (.bool))], [.var 60 [.one (.und), .one (.whole T_uint8 3)], .dead, .var 24 [.one (.int .i64), .one (.int .i64), .one (.list T_api_Expr)], .arr T_uint8 false]⟩, [(.norm, ⟨[], [.var 60 [.one (.und), .one (.whole T_uint8 2)], .dead, .arr T_uint8 false]⟩)])
def S39_367 : Shape × List (Out × Shape) := (⟨[(0, .one (.ptrC 0 0 0)), (3, .one (.ptrC 2 0 0)), (5, .one (.int .i64)), (22, .one (.bool))], [.var 60 [.one (.und), .one (.whole T_uint8 3)], .dead, .var 24 [.one (.int .i64), .one (.int .i64), .one (.list T_api_Expr)], .arr T_uint8 false]⟩, [(.norm, ⟨[], [.var 60 [.one (.und), .one (.whole T_uint8 2)], .dead, .arr T_uint8 false]⟩)])
def S39_239 : Shape × List (Out × Shape) := (⟨[(0, .one (.ptrC 0 0 0)), (3, .one (.ptrC 2 0 0)), (5, .one (.int .i64)), (14, .one (.bool))], [.var 60 [.one (.und), .one (.whole T_uint8 3)], .dead, .var 24 [.one (.int .i64), .one (.int .i64), .one (.list T_api_Expr)], .arr T_uint8 false]⟩, [(.norm, ⟨[], [.var 60 [.one (.und), .one (.whole T_uint8 2)], .dead, .arr T_uint8 false]⟩)])
def S39_175 : Shape × List (Out × Shape) := (⟨[(0, .one (.ptrC 0 0 0)), (3, .one (.ptrC 2 0 0)), (5, .one (.int .i64)), (10, .one (.bool))], [.var 60 [.one (.und), .one (.whole T_uint8 3)], .dead, .var 24 [.one (.int .i64), .one (.int .i64), .one (.list T_api_Expr)], .arr T_uint8 false]⟩, [(.norm, ⟨[], [.var 60 [.one (.und), .one (.whole T_uint8 2)], .dead, .arr T_uint8 false]⟩)])
def S39_111 : Shape × List (Out × Shape) := (⟨[(0, .one (.ptrC 0 0 0)), (3, .one (.ptrC 2 0 0)), (5, .one (.int .i64)), (6, .one (.bool))], [.var 60 [.one (.und), .one (.whole T_uint8 3)], .dead, .var 24 [.one (.int .i64), .one (.int .i64), .one (.list T_api_Expr)], .arr T_uint8 false]⟩, [(.norm, ⟨[], [.var 60 [.one (.und), .one (.whole T_uint8 2)], .dead, .arr T_uint8 false]⟩)])
def S41_161 : Shape × List (Out × Shape) := (⟨[(0, .one (.list T_l_bool)), (1, .one (.list T_l_bool)), (5, .one (.whole T_l_bool 0)), (6, .one (.int .i64)), (7, .one (.int .i64)), (8, .one (.int .i64)), (13, .one (.int .i64)), (14, .one (.int .i64))], [.nest T_l_bool]⟩, [(.exit 4, ⟨[(0, .one (.list T_l_bool)), (1, .one (.list T_l_bool)), (5, .one (.whole T_l_bool 0)), (6, .one (.int .i64)), (7, .one (.int .i64)), (8, .one (.int .i64)), (13, .one (.int .i64)), (14, .one (.int .i64)), (33, .one (.bool))], [.nest T_l_bool]⟩)])
def S41_113 : Shape × List (Out × Shape) := (⟨[(0, .one (.list T_l_bool)), (1, .one (.list T_l_bool)), (5, .one (.whole T_l_bool 0)), (6, .one (.int .i64)), (7, .one (.int .i64)), (13, .one (.int .i64)), (14, .one (.int .i64))], [.nest T_l_bool]⟩, [(.exit 2, ⟨[(0, .one (.list T_l_bool)), (1, .one (.list T_l_bool)), (5, .one (.whole T_l_bool 0)), (6, .one (.int .i64)), (7, .one (.int .i64)), (13, .one (.int .i64)), (14, .one (.int .i64)), (27, .one (.bool))], [.nest T_l_bool]⟩)])
def S41_49 : Shape × List (Out × Shape) := (⟨[(0, .one (.list T_l_bool)), (1, .one (.list T_l_bool)), (5, .one (.whole T_l_bool 0)), (13, .one (.int .i64)), (14, .one (.int .i64))], [.nest T_l_bool]⟩, [(.exit 0, ⟨[(0, .one (.list T_l_bool)), (1, .one (.list T_l_bool)), (5, .one (.whole T_l_bool 0)), (13, .one (.int .i64)), (14, .one (.int .i64)), (15, .one (.bool))], [.nest T_l_bool]⟩)])
def S43_321 : Shape × List (Out × Shape) := (⟨[(1, .one (.int .i64)), (53, .one (.list T_api_Expr)), (54, .one (.int .i64)), (55, .one (.int .i64))], []⟩, [(.ret, ⟨[(4, .one (.bool))], []⟩), (.exit 1, ⟨[(1, .one (.int .i64)), (53, .one (.list T_api_Expr)), (54, .one (.int .i64)), (55, .one (.int .i64)), (56, .one (.bool))], []⟩)])
def S45_17 : Shape × List (Out × Shape) := (⟨[(0, .one (.whole T_uint64 0)), (1, .one (.list T_uint64)), (6, .one (.int .i64))], [.arr T_uint64 false]⟩, [(.exit 0, ⟨[(0, .one (.whole T_uint64 0)), (1, .one (.list T_uint64)), (6, .one (.int .i64)), (12, .one (.bool))], [.arr T_uint64 false]⟩)])
def S51_17 : Shape × List (Out × Shape) := (⟨[(0, .one (.int .i64)), (1, .one (.ptrC 0 0 0)), (2, .one (.ptrC 1 0 0)), (3, .one (.ptrC 2 0 0)), (10, .one (.int .i64)), (11, .one (.int .i64))], [.var 38 [.one (.whole T_expr_offsets 3)], .var 24 [.one (.int .i64), .one (.int .i64), .one (.list T_api_Expr)], .var 38 [.one (.whole T_expr_offsets 4)], .nest T_expr_offsets, .nest T_expr_offsets]⟩, [(.exit 0, ⟨[(0, .one (.int .i64)), (1, .one (.ptrC 0 0 0)), (2, .one (.ptrC 1 0 0)), (3, .one (.ptrC 2 0 0)), (10, .one (.int .i64)), (11, .one (.int .i64)), (12, .one (.bool))], [.var 38 [.one (.whole T_expr_offsets 3)], .var 24 [.one (.int .i64), .one (.int .i64), .one (.list T_api_Expr)], .var 38 [.one (.whole T_expr_offsets 4)], .nest T_expr_offsets, .nest T_expr_offsets]⟩)])
def S52_33 : Shape × List (Out × Shape) := (⟨[(0, .one (.int .i64)), (1, .one (.ptrC 0 0 0)), (2, .one (.ptrC 1 0 0)), (3, .one (.ptrC 2 0 0)), (5, .one (.whole T_uint64 4)), (6, .one (.int .i64))], [.var 33 [.one (.str)], .var 3 [.one (.int .i64)], .var 38 [.one (.whole T_expr_offsets 3)], .nest T_expr_offsets, .arr T_uint64 false]⟩, [(.exit 0, ⟨[(0, .one (.int .i64)), (1, .one (.ptrC 0 0 0)), (2, .one (.ptrC 1 0 0)), (3, .one (.ptrC 2 0 0)), (5, .one (.whole T_uint64 4)), (6, .one (.int .i64)), (13, .one (.bool))], [.var 33 [.one (.str)], .var 3 [.one (.int .i64)], .var 38 [.one (.whole T_expr_offsets 3)], .nest T_expr_offsets, .arr T_uint64 false]⟩)])
def S56_17 : Shape × List (Out × Shape) := (⟨[(0, .one (.ptrC 0 0 0))], [.var 71 [.one (.str), .one (.int .i64), .one (.int .i64)]]⟩, [(.exit 0, ⟨[(0, .one (.ptrC 0 0 0)), (24, .one (.bool))], [.var 71 [.one (.str), .one (.int .i64), .one (.int .i64)]]⟩)])
def S58_81 : Shape × List (Out × Shape) := (⟨[(1, .one (.int .i64)), (2, .one (.ptrC 0 0 0)), (23, .one (.list T_api_Expr)), (24, .one (.int .i64)), (25, .one (.int .i64))], [.var 3 [.one (.int .i64)]]⟩, [(.ret, ⟨[(6, .one (.bool))], [.var 3 [.one (.int .i64)]]⟩), (.exit 0, ⟨[(1, .one (.int .i64)), (2, .one (.ptrC 0 0 0)), (23, .one (.list T_api_Expr)), (24, .one (.int .i64)), (25, .one (.int .i64)), (26, .one (.bool))], [.var 3 [.one (.int .i64)]]⟩)])
def S60_303 : Shape × List (Out × Shape) := (⟨[(0, .one (.ptrC 0 0 0)), (2, .one (.str)), (3, .one (.int .i64)), (9, .one (.ptrC 2 0 0)), (10, .one (.list T_api_Expr)), (11, .one (.int .i64)), (12, .one (.int .i64)), (18, .one (.bool))], [.var 60 [.one (.und), .one (.whole T_uint8 3)], .dead, .var 24 [.one (.int .i64), .one (.int .i64), .one (.list T_api_Expr)], .arr T_uint8 false]⟩, [(.norm, ⟨[(0, .one (.ptrC 0 0 0)), (2, .one (.str)), (3, .one (.int .i64)), (9, .one (.ptrC 2 0 0)), (10, .one (.list T_api_Expr)), (11, .one (.int .i64)), (12, .one (.int .i64))], [.var 60 [.one (.und), .one (.whole T_uint8 3)], .dead, .var 24 [.one (.int .i64), .one (.int .i64), .one (.list T_api_Expr)], .arr T_uint8 false]⟩)])
def S60_17 : Shape × List (Out × Shape) := (⟨[(0, .one (.ptrC 0 0 0)), (2, .one (.str)), (3, .one (.int .i64)), (10, .one (.list T_api_Expr)), (11, .one (.int .i64)), (12, .one (.int .i64))], [.var 60 [.one (.und), .one (.whole T_uint8 2)], .dead, .arr T_uint8 false]⟩, [(.exit 0, ⟨[(0, .one (.ptrC 0 0 0)), (2, .one (.str)), (3, .one (.int .i64)), (10, .one (.list T_api_Expr)), (11, .one (.int .i64)), (12, .one (.int .i64)), (13, .one (.bool))], [.var 60 [.one (.und), .one (.whole T_uint8 2)], .dead, .arr T_uint8 false]⟩)])
def S61_33 : Shape × List (Out × Shape) := (⟨[(0, .one (.list T_api_Expr)), (1, .fn F_expr_HasUnit [] []), (7, .one (.int .i64)), (8, .one (.int .i64))], []⟩, [(.ret, ⟨[(4, .one (.int .i64))], []⟩), (.exit 0, ⟨[(0, .one (.list T_api_Expr)), (1, .fn F_expr_HasUnit [] []), (7, .one (.int .i64)), (8, .one (.int .i64)), (9, .one (.bool))], []⟩)])
def S63_33 : Shape × List (Out × Shape) := (⟨[(0, .one (.ptrC 0 0 0)), (1, .one (.int .i64)), (2, .one (.int .u8)), (3, .fn F_expr_parser_and [.ptrC 0 0 0] []), (8, .one (.ptrC 1 0 0)), (9, .one (.whole T_api_Expr 2))], [.var 71 [.one (.str), .one (.int .i64), .one (.int .i64)], .var 24 [.one (.int .i64), .one (.int .i64), .one (.whole T_api_Expr 3)], .arr T_api_Expr false, .arr T_api_Expr false]⟩, [(.exit 0, ⟨[(0, .one (.ptrC 0 0 0)), (1, .one (.int .i64)), (2, .one (.int .u8)), (3, .fn F_expr_parser_and [.ptrC 0 0 0] []), (8, .one (.ptrC 1 0 0)), (9, .one (.whole T_api_Expr 2)), (16, .one (.bool))], [.var 71 [.one (.str), .one (.int .i64), .one (.int .i64)], .var 24 [.one (.int .i64), .one (.int .i64), .one (.whole T_api_Expr 3)], .arr T_api_Expr false, .arr T_api_Expr false]⟩)])
def S69_33 : Shape × List (Out × Shape) := (⟨[(0, .one (.ptrC 0 0 0)), (2, .one (.ptrC 1 0 0)), (3, .one (.whole T_api_Expr 2))], [.var 71 [.one (.str), .one (.int .i64), .one (.int .i64)], .var 24 [.one (.int .i64), .one (.int .i64), .one (.whole T_api_Expr 3)], .arr T_api_Expr false, .arr T_api_Expr false]⟩, [(.exit 0, ⟨[(0, .one (.ptrC 0 0 0)), (2, .one (.ptrC 1 0 0)), (3, .one (.whole T_api_Expr 2)), (8, .one (.bool))], [.var 71 [.one (.str), .one (.int .i64), .one (.int .i64)], .var 24 [.one (.int .i64), .one (.int .i64), .one (.whole T_api_Expr 3)], .arr T_api_Expr false, .arr T_api_Expr false]⟩)])
def S73_33 : Shape × List (Out × Shape) := (⟨[(0, .one (.ptrC 0 0 0)), (2, .one (.ptrC 1 0 0)), (3, .one (.ptrC 2 0 0))], [.var 71 [.one (.str), .one (.int .i64), .one (.int .i64)], .var 24 [.one (.int .i64), .one (.int .i64), .one (.whole T_api_Expr 3)], .var 24 [.one (.int .i64), .one (.int .i64), .one (.list T_api_Expr)], .arr T_api_Expr false]⟩, [(.exit 0, ⟨[(0, .one (.ptrC 0 0 0)), (2, .one (.ptrC 1 0 0)), (3, .one (.ptrC 2 0 0)), (8, .one (.bool))], [.var 71 [.one (.str), .one (.int .i64), .one (.int .i64)], .var 24 [.one (.int .i64), .one (.int .i64), .one (.whole T_api_Expr 3)], .var 24 [.one (.int .i64), .one (.int .i64), .one (.list T_api_Expr)], .arr T_api_Expr false]⟩)])
def S75_223 : Shape × List (Out × Shape) := (⟨[(0, .one (.ptrC 0 0 0)), (2, .one (.ptrC 1 0 0)), (3, .one (.ptrC 2 0 0)), (4, .one (.int .u8)), (13, .one (.bool))], [.var 71 [.one (.str), .one (.int .i64), .one (.int .i64)], .var 24 [.one (.int .i64), .one (.int .i64), .one (.whole T_api_Expr 3)], .var 24 [.one (.int .i64), .one (.int .i64), .one (.list T_api_Expr)], .arr T_api_Expr false]⟩, [(.norm, ⟨[(0, .one (.ptrC 0 0 0)), (2, .one (.ptrC 1 0 0)), (3, .one (.ptrC 2 0 0))], [.var 71 [.one (.str), .one (.int .i64), .one (.int .i64)], .var 24 [.one (.int .i64), .one (.int .i64), .one (.whole T_api_Expr 3)], .var 24 [.one (.int .i64), .one (.int .i64), .one (.list T_api_Expr)], .arr T_api_Expr false]⟩)])
def S75_159 : Shape × List (Out × Shape) := (⟨[(0, .one (.ptrC 0 0 0)), (2, .one (.ptrC 1 0 0)), (3, .one (.ptrC 2 0 0)), (4, .one (.int .u8)), (9, .one (.bool))], [.var 71 [.one (.str), .one (.int .i64), .one (.int .i64)], .var 24 [.one (.int .i64), .one (.int .i64), .one (.whole T_api_Expr 3)], .var 24 [.one (.int .i64), .one (.int .i64), .one (.list T_api_Expr)], .arr T_api_Expr false]⟩, [(.norm, ⟨[(0, .one (.ptrC 0 0 0)), (2, .one (.ptrC 1 0 0)), (3, .one (.ptrC 2 0 0))], [.var 71 [.one (.str), .one (.int .i64), .one (.int .i64)], .var 24 [.one (.int .i64), .one (.int .i64), .one (.whole T_api_Expr 3)], .var 24 [.one (.int .i64), .one (.int .i64), .one (.list T_api_Expr)], .arr T_api_Expr false]⟩)])
def S97_33 : Shape × List (Out × Shape) := (⟨[(0, .one (.ptrC 0 0 0)), (1, .one (.int .i64)), (2, .one (.int .u8)), (3, .fn F_expr_parser_cat [.ptrC 0 0 0] []), (8, .one (.ptrC 1 0 0)), (9, .one (.whole T_api_Expr 2))], [.var 71 [.one (.str), .one (.int .i64), .one (.int .i64)], .var 24 [.one (.int .i64), .one (.int .i64), .one (.whole T_api_Expr 3)], .arr T_api_Expr false, .arr T_api_Expr false]⟩, [(.exit 0, ⟨[(0, .one (.ptrC 0 0 0)), (1, .one (.int .i64)), (2, .one (.int .u8)), (3, .fn F_expr_parser_cat [.ptrC 0 0 0] []), (8, .one (.ptrC 1 0 0)), (9, .one (.whole T_api_Expr 2)), (16, .one (.bool))], [.var 71 [.one (.str), .one (.int .i64), .one (.int .i64)], .var 24 [.one (.int .i64), .one (.int .i64), .one (.whole T_api_Expr 3)], .arr T_api_Expr false, .arr T_api_Expr false]⟩)])
def S98_49 : Shape × List (Out × Shape) := (⟨[(1, .fn F_expr_matcher_star_1 [] [.ptrC 0 0 0]), (4, .one (.int .i64)), (5, .one (.int .u64)), (6, .one (.list T_uint64)), (7, .one (.int .i64)), (8, .one (.int .i64))], [.var 3 [.one (.int .i64)]]⟩, [(.exit 2, ⟨[(1, .fn F_expr_matcher_star_1 [] [.ptrC 0 0 0]), (4, .one (.int .i64)), (5, .one (.int .u64)), (6, .one (.list T_uint64)), (7, .one (.int .i64)), (8, .one (.int .i64)), (14, .one (.bool))], [.var 3 [.one (.int .i64)]]⟩)])
def S98_17 : Shape × List (Out × Shape) := (⟨[(1, .fn F_expr_matcher_star_1 [] [.ptrC 0 0 0]), (6, .one (.list T_uint64)), (7, .one (.int .i64)), (8, .one (.int .i64))], [.var 3 [.one (.int .i64)]]⟩, [(.exit 0, ⟨[(1, .fn F_expr_matcher_star_1 [] [.ptrC 0 0 0]), (6, .one (.list T_uint64)), (7, .one (.int .i64)), (8, .one (.int .i64)), (9, .one (.bool))], [.var 3 [.one (.int .i64)]]⟩)])
def S100_49 : Shape × List (Out × Shape) := (⟨[(1, .fn F_expr_matcher_combine_1 [] [.ptrC 0 0 0, .ptrC 1 0 0, .ptrC 2 0 0]), (4, .one (.int .i64)), (5, .one (.int .u64)), (6, .one (.list T_uint64)), (7, .one (.int .i64)), (8, .one (.int .i64))], [.var 38 [.one (.whole T_expr_offsets 3)], .var 24 [.one (.int .i64), .one (.int .i64), .one (.list T_api_Expr)], .var 38 [.one (.whole T_expr_offsets 4)], .nest T_expr_offsets, .nest T_expr_offsets]⟩, [(.exit 2, ⟨[(1, .fn F_expr_matcher_combine_1 [] [.ptrC 0 0 0, .ptrC 1 0 0, .ptrC 2 0 0]), (4, .one (.int .i64)), (5, .one (.int .u64)), (6, .one (.list T_uint64)), (7, .one (.int .i64)), (8, .one (.int .i64)), (14, .one (.bool))], [.var 38 [.one (.whole T_expr_offsets 3)], .var 24 [.one (.int .i64), .one (.int .i64), .one (.list T_api_Expr)], .var 38 [.one (.whole T_expr_offsets 4)], .nest T_expr_offsets, .nest T_expr_offsets]⟩)])
def S100_17 : Shape × List (Out × Shape) := (⟨[(1, .fn F_expr_matcher_combine_1 [] [.ptrC 0 0 0, .ptrC 1 0 0, .ptrC 2 0 0]), (6, .one (.list T_uint64)), (7, .one (.int .i64)), (8, .one (.int .i64))], [.var 38 [.one (.whole T_expr_offsets 3)], .var 24 [.one (.int .i64), .one (.int .i64), .one (.list T_api_Expr)], .var 38 [.one (.whole T_expr_offsets 4)], .nest T_expr_offsets, .nest T_expr_offsets]⟩, [(.exit 0, ⟨[(1, .fn F_expr_matcher_combine_1 [] [.ptrC 0 0 0, .ptrC 1 0 0, .ptrC 2 0 0]), (6, .one (.list T_uint64)), (7, .one (.int .i64)), (8, .one (.int .i64)), (9, .one (.bool))], [.var 38 [.one (.whole T_expr_offsets 3)], .var 24 [.one (.int .i64), .one (.int .i64), .one (.list T_api_Expr)], .var 38 [.one (.whole T_expr_offsets 4)], .nest T_expr_offsets, .nest T_expr_offsets]⟩)])
def S101_49 : Shape × List (Out × Shape) := (⟨[(1, .fn F_expr_matcher_star_2 [] [.ptrC 0 0 0, .ptrC 1 0 0]), (4, .one (.int .i64)), (5, .one (.int .u64)), (6, .one (.list T_uint64)), (7, .one (.int .i64)), (8, .one (.int .i64))], [.var 35 [.one (.whole T_uint64 4)], .var 38 [.one (.whole T_expr_offsets 3)], .dead, .nest T_expr_offsets, .arr T_uint64 false]⟩, [(.exit 2, ⟨[(1, .fn F_expr_matcher_star_2 [] [.ptrC 0 0 0, .ptrC 1 0 0]), (4, .one (.int .i64)), (5, .one (.int .u64)), (6, .one (.list T_uint64)), (7, .one (.int .i64)), (8, .one (.int .i64)), (14, .one (.bool))], [.var 35 [.one (.whole T_uint64 4)], .var 38 [.one (.whole T_expr_offsets 3)], .dead, .nest T_expr_offsets, .arr T_uint64 false]⟩)])
def S101_17 : Shape × List (Out × Shape) := (⟨[(1, .fn F_expr_matcher_star_2 [] [.ptrC 0 0 0, .ptrC 1 0 0]), (6, .one (.list T_uint64)), (7, .one (.int .i64)), (8, .one (.int .i64))], [.var 35 [.one (.whole T_uint64 4)], .var 38 [.one (.whole T_expr_offsets 3)], .dead, .nest T_expr_offsets, .arr T_uint64 false]⟩, [(.exit 0, ⟨[(1, .fn F_expr_matcher_star_2 [] [.ptrC 0 0 0, .ptrC 1 0 0]), (6, .one (.list T_uint64)), (7, .one (.int .i64)), (8, .one (.int .i64)), (9, .one (.bool))], [.var 35 [.one (.whole T_uint64 4)], .var 38 [.one (.whole T_expr_offsets 3)], .dead, .nest T_expr_offsets, .arr T_uint64 false]⟩)])
def S102_49 : Shape × List (Out × Shape) := (⟨[(1, .fn F_expr_matcher_concat_1 [] [.ptrC 0 0 0, .ptrC 1 0 0]), (4, .one (.int .i64)), (5, .one (.int .u64)), (6, .one (.list T_uint64)), (7, .one (.int .i64)), (8, .one (.int .i64))], [.var 35 [.one (.whole T_uint64 4)], .var 38 [.one (.whole T_expr_offsets 3)], .dead, .nest T_expr_offsets, .arr T_uint64 false]⟩, [(.exit 2, ⟨[(1, .fn F_expr_matcher_concat_1 [] [.ptrC 0 0 0, .ptrC 1 0 0]), (4, .one (.int .i64)), (5, .one (.int .u64)), (6, .one (.list T_uint64)), (7, .one (.int .i64)), (8, .one (.int .i64)), (14, .one (.bool))], [.var 35 [.one (.whole T_uint64 4)], .var 38 [.one (.whole T_expr_offsets 3)], .dead, .nest T_expr_offsets, .arr T_uint64 false]⟩)])
def S102_17 : Shape × List (Out × Shape) := (⟨[(1, .fn F_expr_matcher_concat_1 [] [.ptrC 0 0 0, .ptrC 1 0 0]), (6, .one (.list T_uint64)), (7, .one (.int .i64)), (8, .one (.int .i64))], [.var 35 [.one (.whole T_uint64 4)], .var 38 [.one (.whole T_expr_offsets 3)], .dead, .nest T_expr_offsets, .arr T_uint64 false]⟩, [(.exit 0, ⟨[(1, .fn F_expr_matcher_concat_1 [] [.ptrC 0 0 0, .ptrC 1 0 0]), (6, .one (.list T_uint64)), (7, .one (.int .i64)), (8, .one (.int .i64)), (9, .one (.bool))], [.var 35 [.one (.whole T_uint64 4)], .var 38 [.one (.whole T_expr_offsets 3)], .dead, .nest T_expr_offsets, .arr T_uint64 false]⟩)])
def S103_49 : Shape × List (Out × Shape) := (⟨[(1, .fn F_expr_matcher_complement_1 [] [.ptrC 0 0 0, .ptrC 1 0 0, .ptrC 2 0 0]), (4, .one (.int .i64)), (5, .one (.int .u64)), (6, .one (.list T_uint64)), (7, .one (.int .i64)), (8, .one (.int .i64))], [.var 33 [.one (.str)], .var 3 [.one (.int .i64)], .var 38 [.one (.whole T_expr_offsets 3)], .nest T_expr_offsets]⟩, [(.exit 2, ⟨[(1, .fn F_expr_matcher_complement_1 [] [.ptrC 0 0 0, .ptrC 1 0 0, .ptrC 2 0 0]), (4, .one (.int .i64)), (5, .one (.int .u64)), (6, .one (.list T_uint64)), (7, .one (.int .i64)), (8, .one (.int .i64)), (14, .one (.bool))], [.var 33 [.one (.str)], .var 3 [.one (.int .i64)], .var 38 [.one (.whole T_expr_offsets 3)], .nest T_expr_offsets]⟩)])
def S103_17 : Shape × List (Out × Shape) := (⟨[(1, .fn F_expr_matcher_complement_1 [] [.ptrC 0 0 0, .ptrC 1 0 0, .ptrC 2 0 0]), (6, .one (.list T_uint64)), (7, .one (.int .i64)), (8, .one (.int .i64))], [.var 33 [.one (.str)], .var 3 [.one (.int .i64)], .var 38 [.one (.whole T_expr_offsets 3)], .nest T_expr_offsets]⟩, [(.exit 0, ⟨[(1, .fn F_expr_matcher_complement_1 [] [.ptrC 0 0 0, .ptrC 1 0 0, .ptrC 2 0 0]), (6, .one (.list T_uint64)), (7, .one (.int .i64)), (8, .one (.int .i64)), (9, .one (.bool))], [.var 33 [.one (.str)], .var 3 [.one (.int .i64)], .var 38 [.one (.whole T_expr_offsets 3)], .nest T_expr_offsets]⟩)])
def S104_49 : Shape × List (Out × Shape) := (⟨[(1, .fn F_expr_matcher_concat_2 [] [.ptrC 0 0 0, .ptrC 1 0 0, .ptrC 2 0 0, .ptrC 3 0 0]), (4, .one (.int .i64)), (5, .one (.int .u64)), (6, .one (.list T_uint64)), (7, .one (.int .i64)), (8, .one (.int .i64))], [.var 33 [.one (.str)], .var 38 [.one (.whole T_expr_offsets 4)], .var 4 [.one (.bool)], .var 38 [.one (.whole T_expr_offsets 5)], .nest T_expr_offsets, .nest T_expr_offsets]⟩, [(.exit 2, ⟨[(1, .fn F_expr_matcher_concat_2 [] [.ptrC 0 0 0, .ptrC 1 0 0, .ptrC 2 0 0, .ptrC 3 0 0]), (4, .one (.int .i64)), (5, .one (.int .u64)), (6, .one (.list T_uint64)), (7, .one (.int .i64)), (8, .one (.int .i64)), (14, .one (.bool))], [.var 33 [.one (.str)], .var 38 [.one (.whole T_expr_offsets 4)], .var 4 [.one (.bool)], .var 38 [.one (.whole T_expr_offsets 5)], .nest T_expr_offsets, .nest T_expr_offsets]⟩)])
def S104_17 : Shape × List (Out × Shape) := (⟨[(1, .fn F_expr_matcher_concat_2 [] [.ptrC 0 0 0, .ptrC 1 0 0, .ptrC 2 0 0, .ptrC 3 0 0]), (6, .one (.list T_uint64)), (7, .one (.int .i64)), (8, .one (.int .i64))], [.var 33 [.one (.str)], .var 38 [.one (.whole T_expr_offsets 4)], .var 4 [.one (.bool)], .var 38 [.one (.whole T_expr_offsets 5)], .nest T_expr_offsets, .nest T_expr_offsets]⟩, [(.exit 0, ⟨[(1, .fn F_expr_matcher_concat_2 [] [.ptrC 0 0 0, .ptrC 1 0 0, .ptrC 2 0 0, .ptrC 3 0 0]), (6, .one (.list T_uint64)), (7, .one (.int .i64)), (8, .one (.int .i64)), (9, .one (.bool))], [.var 33 [.one (.str)], .var 38 [.one (.whole T_expr_offsets 4)], .var 4 [.one (.bool)], .var 38 [.one (.whole T_expr_offsets 5)], .nest T_expr_offsets, .nest T_expr_offsets]⟩)])
def S105_49 : Shape × List (Out × Shape) := (⟨[(1, .fn F_expr_matcher_concat_2_1 [] [.ptrC 0 0 0, .ptrC 1 0 0, .ptrC 2 0 0]), (4, .one (.int .i64)), (5, .one (.int .u64)), (6, .one (.list T_uint64)), (7, .one (.int .i64)), (8, .one (.int .i64))], [.var 4 [.one (.bool)], .var 35 [.one (.whole T_uint64 5)], .var 38 [.one (.whole T_expr_offsets 4)], .dead, .nest T_expr_offsets, .arr T_uint64 false]⟩, [(.exit 2, ⟨[(1, .fn F_expr_matcher_concat_2_1 [] [.ptrC 0 0 0, .ptrC 1 0 0, .ptrC 2 0 0]), (4, .one (.int .i64)), (5, .one (.int .u64)), (6, .one (.list T_uint64)), (7, .one (.int .i64)), (8, .one (.int .i64)), (14, .one (.bool))], [.var 4 [.one (.bool)], .var 35 [.one (.whole T_uint64 5)], .var 38 [.one (.whole T_expr_offsets 4)], .dead, .nest T_expr_offsets, .arr T_uint64 false]⟩)])
def S105_17 : Shape × List (Out × Shape) := (⟨[(1, .fn F_expr_matcher_concat_2_1 [] [.ptrC 0 0 0, .ptrC 1 0 0, .ptrC 2 0 0]), (6, .one (.list T_uint64)), (7, .one (.int .i64)), (8, .one (.int .i64))], [.var 4 [.one (.bool)], .var 35 [.one (.whole T_uint64 5)], .var 38 [.one (.whole T_expr_offsets 4)], .dead, .nest T_expr_offsets, .arr T_uint64 false]⟩, [(.exit 0, ⟨[(1, .fn F_expr_matcher_concat_2_1 [] [.ptrC 0 0 0, .ptrC 1 0 0, .ptrC 2 0 0]), (6, .one (.list T_uint64)), (7, .one (.int .i64)), (8, .one (.int .i64)), (9, .one (.bool))], [.var 4 [.one (.bool)], .var 35 [.one (.whole T_uint64 5)], .var 38 [.one (.whole T_expr_offsets 4)], .dead, .nest T_expr_offsets, .arr T_uint64 false]⟩)])
def annFid : List (Nat × FuncId) := [(3, F_semigrouplaw04_ExprMatches), (4, F_semigrouplaw04_ExprBoolean), (5, F_semigrouplaw04_ExprSplits), (6, F_expr_Match), (7, F_semigroupref04_Valid), (8, F_semigroupref01_Valid), (9, F_semigrouplaw04_awake), (10, F_semigrouplaw04_little), (11, F_semigroupref04_Match), (12, F_semigroupref04_Depth), (13, F_expr_Nullable), (14, F_expr_valid), (15, F_word_Valid), (16, F_expr_matcher_none), (17, F_expr_offsets_add), (18, F_expr_matcher_ends), (19, F_expr_offsets_has), (20, F_semigroupref04_Validate), (21, F_semigroupref01_MayLetters), (22, F_expr_Parse), (23, F_expr_Format), (24, F_semigroupref04_Size), (25, F_semigroupref04_spans), (26, F_semigroupref04_measure), (27, F_expr_HasUnit), (28, F_expr_Validate), (29, F_expr_matcher_concat), (30, F_expr_matcher_star), (31, F_expr_matcher_combine), (32, F_expr_matcher_complement), (33, F_expr_offsets_each), (34, F_expr_matcher_ends_1), (35, F_semigroupref04_Within), (36, F_semigroupref04_shaped), (37, F_expr_parseText), (38, F_expr_withinLimits), (39, F_expr_write), (40, F_strings_Builder_String), (41, F_semigroupref04_times), (42, F_slices_ContainsFunc___api_Expr_api_Expr_), (43, F_expr_wellFormed), (44, F_expr_matcher_concat_1), (45, F_expr_offsets_unite), (46, F_expr_isUniversal), (47, F_expr_matcher_concat_2), (48, F_expr_matcher_concat_2_1), (49, F_expr_matcher_star_1), (50, F_expr_matcher_star_2), (51, F_expr_matcher_combine_1), (52, F_expr_matcher_complement_1), (53, F_bits_TrailingZeros64), (55, F_expr_parser_union), (56, F_expr_parser_peek), (58, F_expr_fits), (59, F_strings_Builder_WriteByte), (60, F_expr_writeKids), (61, F_slices_IndexFunc___api_Expr_api_Expr_), (62, F_expr_isEmpty), (63, F_expr_parser_list), (64, F_expr_parser_and), (66, F_strings_Builder_WriteString), (67, F_expr_level), (68, F_expr_node), (69, F_expr_parser_cat), (71, F_expr_parser_unary), (72, F_expr_parser_begins), (73, F_expr_parser_postfix), (74, F_expr_parser_isLetter), (75, F_expr_parser_atom), (97, F_expr_parser_list), (98, F_expr_offsets_each), (99, F_expr_offsets_add), (100, F_expr_offsets_each), (101, F_expr_offsets_each), (102, F_expr_offsets_each), (103, F_expr_offsets_each), (104, F_expr_offsets_each), (105, F_expr_offsets_each)]
def annSin : List (Nat × Shape) := [(3, ⟨[(0, .agg [.int .i64, .int .i64, .list T_api_Expr]), (1, .one (.str))], []⟩),
 (4, ⟨[(0, .agg [.int .i64, .int .i64, .list T_api_Expr]), (1, .agg [.int .i64, .int .i64, .list T_api_Expr]), (2, .one (.str))], []⟩),
 (5, ⟨[(0, .agg [.int .i64, .int .i64, .list T_api_Expr]), (1, .agg [.int .i64, .int .i64, .list T_api_Expr]), (2, .one (.str))], []⟩),
 (6, ⟨[(0, .agg [.int .i64, .int .i64, .list T_api_Expr]), (1, .one (.str))], []⟩),
 (7, ⟨[(0, .agg [.int .i64, .int .i64, .list T_api_Expr])], []⟩),
 (8, ⟨[(0, .one (.str)), (1, .one (.int .i64))], []⟩),
 (9, ⟨[], []⟩),
 (10, ⟨[(0, .agg [.int .i64, .int .i64, .list T_api_Expr]), (1, .one (.int .i64))], []⟩),
 (11, ⟨[(0, .agg [.int .i64, .int .i64, .list T_api_Expr]), (1, .one (.str))], []⟩),
 (12, ⟨[(0, .agg [.int .i64, .int .i64, .list T_api_Expr])], []⟩),
 (13, ⟨[(0, .agg [.int .i64, .int .i64, .list T_api_Expr])], []⟩),
 (14, ⟨[(0, .agg [.int .i64, .int .i64, .list T_api_Expr])], []⟩),
 (15, ⟨[(0, .one (.str)), (1, .one (.int .i64))], []⟩),
 (16, ⟨[(0, .agg [.str])], []⟩),
 (17, ⟨[(0, .one (.whole T_uint64 0)), (1, .one (.int .i64))], [.arr T_uint64 false]⟩),
 (18, ⟨[(0, .agg [.str]), (1, .agg [.int .i64, .int .i64, .list T_api_Expr]), (2, .one (.list T_uint64))], []⟩),
 (19, ⟨[(0, .one (.list T_uint64)), (1, .one (.int .i64))], []⟩),
 (20, ⟨[(0, .agg [.int .i64, .int .i64, .list T_api_Expr]), (1, .one (.int .i64))], []⟩),
 (21, ⟨[(0, .one (.int .i64))], []⟩),
 (22, ⟨[(0, .one (.str)), (1, .one (.int .i64))], []⟩),
 (23, ⟨[(0, .agg [.int .i64, .int .i64, .list T_api_Expr])], []⟩),
 (24, ⟨[(0, .agg [.int .i64, .int .i64, .list T_api_Expr])], []⟩),
 (25, ⟨[(0, .agg [.int .i64, .int .i64, .list T_api_Expr]), (1, .one (.str))], []⟩),
 (26, ⟨[(0, .agg [.int .i64, .int .i64, .list T_api_Expr]), (1, .one (.int .i64))], []⟩),
 (27, ⟨[(0, .agg [.int .i64, .int .i64, .list T_api_Expr])], []⟩),
 (28, ⟨[(0, .agg [.int .i64, .int .i64, .list T_api_Expr]), (1, .one (.int .i64))], []⟩),
 (29, ⟨[(0, .agg [.str]), (1, .one (.list T_api_Expr)), (2, .one (.list T_uint64))], []⟩),
 (30, ⟨[(0, .agg [.str]), (1, .agg [.int .i64, .int .i64, .list T_api_Expr]), (2, .one (.list T_uint64))], []⟩),
 (31, ⟨[(0, .agg [.str]), (1, .agg [.int .i64, .int .i64, .list T_api_Expr]), (2, .one (.list T_uint64))], []⟩),
 (32, ⟨[(0, .agg [.str]), (1, .agg [.int .i64, .int .i64, .list T_api_Expr]), (2, .one (.list T_uint64))], []⟩),
 (33, ⟨[(0, .one (.list T_uint64)), (1, .fn F_expr_matcher_ends_1 [] [.ptrC 0 0 0, .ptrC 1 0 0, .ptrC 2 0 0])], [.var 33 [.one (.str)], .var 38 [.one (.whole T_expr_offsets 3)], .var 24 [.one (.int .i64), .one (.int .i64), .one (.list T_api_Expr)], .nest T_expr_offsets]⟩),
 (34, ⟨[(0, .one (.int .i64)), (1, .one (.ptrC 0 0 0)), (2, .one (.ptrC 1 0 0)), (3, .one (.ptrC 2 0 0))], [.var 33 [.one (.str)], .var 38 [.one (.whole T_expr_offsets 3)], .var 24 [.one (.int .i64), .one (.int .i64), .one (.list T_api_Expr)], .nest T_expr_offsets]⟩),
 (35, ⟨[(0, .agg [.int .i64, .int .i64, .list T_api_Expr])], []⟩),
 (36, ⟨[(0, .agg [.int .i64, .int .i64, .list T_api_Expr]), (1, .one (.int .i64))], []⟩),
 (37, ⟨[(0, .one (.str)), (1, .one (.int .i64))], []⟩),
 (38, ⟨[(0, .agg [.int .i64, .int .i64, .list T_api_Expr])], []⟩),
 (39, ⟨[(0, .one (.ptrC 0 0 0)), (1, .agg [.int .i64, .int .i64, .list T_api_Expr])], [.var 60 [.one (.und), .one (.whole T_uint8 1)], .arr T_uint8 false]⟩),
 (40, ⟨[(0, .one (.ptrC 0 0 0))], [.var 60 [.one (.und), .one (.whole T_uint8 1)], .arr T_uint8 false]⟩),
 (41, ⟨[(0, .one (.list T_l_bool)), (1, .one (.list T_l_bool))], []⟩),
 (42, ⟨[(0, .one (.list T_api_Expr)), (1, .fn F_expr_HasUnit [] [])], []⟩),
 (43, ⟨[(0, .agg [.int .i64, .int .i64, .list T_api_Expr]), (1, .one (.int .i64))], []⟩),
 (44, ⟨[(0, .one (.int .i64)), (1, .one (.ptrC 0 0 0)), (2, .one (.ptrC 1 0 0))], [.var 35 [.one (.whole T_uint64 2)], .var 38 [.one (.whole T_expr_offsets 3)], .arr T_uint64 false, .nest T_expr_offsets]⟩),
 (45, ⟨[(0, .one (.whole T_uint64 0)), (1, .one (.list T_uint64)), (2, .one (.int .i64))], [.arr T_uint64 false]⟩),
 (46, ⟨[(0, .agg [.int .i64, .int .i64, .list T_api_Expr])], []⟩),
 (47, ⟨[(0, .one (.int .i64)), (1, .one (.ptrC 0 0 0)), (2, .one (.ptrC 1 0 0)), (3, .one (.ptrC 2 0 0)), (4, .one (.ptrC 3 0 0))], [.var 33 [.one (.str)], .var 38 [.one (.whole T_expr_offsets 4)], .var 4 [.one (.bool)], .var 38 [.one (.whole T_expr_offsets 5)], .nest T_expr_offsets, .nest T_expr_offsets]⟩),
 (48, ⟨[(0, .one (.int .i64)), (1, .one (.ptrC 0 0 0)), (2, .one (.ptrC 1 0 0)), (3, .one (.ptrC 2 0 0))], [.var 4 [.one (.bool)], .var 35 [.one (.whole T_uint64 3)], .var 38 [.one (.whole T_expr_offsets 4)], .arr T_uint64 false, .nest T_expr_offsets]⟩),
 (49, ⟨[(0, .one (.int .i64)), (1, .one (.ptrC 0 0 0))], [.var 3 [.one (.int .i64)]]⟩),
 (50, ⟨[(0, .one (.int .i64)), (1, .one (.ptrC 0 0 0)), (2, .one (.ptrC 1 0 0))], [.var 35 [.one (.whole T_uint64 2)], .var 38 [.one (.whole T_expr_offsets 3)], .arr T_uint64 false, .nest T_expr_offsets]⟩),
 (51, ⟨[(0, .one (.int .i64)), (1, .one (.ptrC 0 0 0)), (2, .one (.ptrC 1 0 0)), (3, .one (.ptrC 2 0 0))], [.var 38 [.one (.whole T_expr_offsets 3)], .var 24 [.one (.int .i64), .one (.int .i64), .one (.list T_api_Expr)], .var 38 [.one (.whole T_expr_offsets 4)], .nest T_expr_offsets, .nest T_expr_offsets]⟩),
 (52, ⟨[(0, .one (.int .i64)), (1, .one (.ptrC 0 0 0)), (2, .one (.ptrC 1 0 0)), (3, .one (.ptrC 2 0 0))], [.var 33 [.one (.str)], .var 3 [.one (.int .i64)], .var 38 [.one (.whole T_expr_offsets 3)], .nest T_expr_offsets]⟩),
 (53, ⟨[(0, .one (.int .u64))], []⟩),
 (55, ⟨[(0, .one (.ptrC 0 0 0))], [.var 71 [.one (.str), .one (.int .i64), .one (.int .i64)]]⟩),
 (56, ⟨[(0, .one (.ptrC 0 0 0))], [.var 71 [.one (.str), .one (.int .i64), .one (.int .i64)]]⟩),
 (58, ⟨[(0, .agg [.int .i64, .int .i64, .list T_api_Expr]), (1, .one (.int .i64)), (2, .one (.ptrC 0 0 0))], [.var 3 [.one (.int .i64)]]⟩),
 (59, ⟨[(0, .one (.ptrC 0 0 0)), (1, .one (.int .u8))], [.var 60 [.one (.und), .one (.whole T_uint8 1)], .arr T_uint8 false]⟩),
 (60, ⟨[(0, .one (.ptrC 0 0 0)), (1, .one (.list T_api_Expr)), (2, .one (.str)), (3, .one (.int .i64))], [.var 60 [.one (.und), .one (.whole T_uint8 1)], .arr T_uint8 false]⟩),
 (61, ⟨[(0, .one (.list T_api_Expr)), (1, .fn F_expr_HasUnit [] [])], []⟩),
 (62, ⟨[(0, .agg [.int .i64, .int .i64, .list T_api_Expr])], []⟩),
 (63, ⟨[(0, .one (.ptrC 0 0 0)), (1, .one (.int .i64)), (2, .one (.int .u8)), (3, .fn F_expr_parser_and [.ptrC 0 0 0] [])], [.var 71 [.one (.str), .one (.int .i64), .one (.int .i64)]]⟩),
 (64, ⟨[(0, .one (.ptrC 0 0 0))], [.var 71 [.one (.str), .one (.int .i64), .one (.int .i64)]]⟩),
 (66, ⟨[(0, .one (.ptrC 0 0 0)), (1, .one (.str))], [.var 60 [.one (.und), .one (.whole T_uint8 1)], .arr T_uint8 false]⟩),
 (67, ⟨[(0, .one (.int .i64))], []⟩),
 (68, ⟨[(0, .one (.int .i64)), (1, .one (.list T_api_Expr))], []⟩),
 (69, ⟨[(0, .one (.ptrC 0 0 0))], [.var 71 [.one (.str), .one (.int .i64), .one (.int .i64)]]⟩),
 (71, ⟨[(0, .one (.ptrC 0 0 0))], [.var 71 [.one (.str), .one (.int .i64), .one (.int .i64)]]⟩),
 (72, ⟨[(0, .one (.ptrC 0 0 0))], [.var 71 [.one (.str), .one (.int .i64), .one (.int .i64)]]⟩),
 (73, ⟨[(0, .one (.ptrC 0 0 0))], [.var 71 [.one (.str), .one (.int .i64), .one (.int .i64)]]⟩),
 (74, ⟨[(0, .one (.ptrC 0 0 0)), (1, .one (.int .u8))], [.var 71 [.one (.str), .one (.int .i64), .one (.int .i64)]]⟩),
 (75, ⟨[(0, .one (.ptrC 0 0 0))], [.var 71 [.one (.str), .one (.int .i64), .one (.int .i64)]]⟩),
 (97, ⟨[(0, .one (.ptrC 0 0 0)), (1, .one (.int .i64)), (2, .one (.int .u8)), (3, .fn F_expr_parser_cat [.ptrC 0 0 0] [])], [.var 71 [.one (.str), .one (.int .i64), .one (.int .i64)]]⟩),
 (98, ⟨[(0, .one (.list T_uint64)), (1, .fn F_expr_matcher_star_1 [] [.ptrC 0 0 0])], [.var 3 [.one (.int .i64)]]⟩),
 (99, ⟨[(0, .one (.row T_uint64 0 [0])), (1, .one (.int .i64))], [.nest T_expr_offsets]⟩),
 (100, ⟨[(0, .one (.list T_uint64)), (1, .fn F_expr_matcher_combine_1 [] [.ptrC 0 0 0, .ptrC 1 0 0, .ptrC 2 0 0])], [.var 38 [.one (.whole T_expr_offsets 3)], .var 24 [.one (.int .i64), .one (.int .i64), .one (.list T_api_Expr)], .var 38 [.one (.whole T_expr_offsets 4)], .nest T_expr_offsets, .nest T_expr_offsets]⟩),
 (101, ⟨[(0, .one (.list T_uint64)), (1, .fn F_expr_matcher_star_2 [] [.ptrC 0 0 0, .ptrC 1 0 0])], [.var 35 [.one (.whole T_uint64 2)], .var 38 [.one (.whole T_expr_offsets 3)], .arr T_uint64 false, .nest T_expr_offsets]⟩),
 (102, ⟨[(0, .one (.list T_uint64)), (1, .fn F_expr_matcher_concat_1 [] [.ptrC 0 0 0, .ptrC 1 0 0])], [.var 35 [.one (.whole T_uint64 2)], .var 38 [.one (.whole T_expr_offsets 3)], .arr T_uint64 false, .nest T_expr_offsets]⟩),
 (103, ⟨[(0, .one (.list T_uint64)), (1, .fn F_expr_matcher_complement_1 [] [.ptrC 0 0 0, .ptrC 1 0 0, .ptrC 2 0 0])], [.var 33 [.one (.str)], .var 3 [.one (.int .i64)], .var 38 [.one (.whole T_expr_offsets 3)], .nest T_expr_offsets]⟩),
 (104, ⟨[(0, .one (.list T_uint64)), (1, .fn F_expr_matcher_concat_2 [] [.ptrC 0 0 0, .ptrC 1 0 0, .ptrC 2 0 0, .ptrC 3 0 0])], [.var 33 [.one (.str)], .var 38 [.one (.whole T_expr_offsets 4)], .var 4 [.one (.bool)], .var 38 [.one (.whole T_expr_offsets 5)], .nest T_expr_offsets, .nest T_expr_offsets]⟩),
 (105, ⟨[(0, .one (.list T_uint64)), (1, .fn F_expr_matcher_concat_2_1 [] [.ptrC 0 0 0, .ptrC 1 0 0, .ptrC 2 0 0])], [.var 4 [.one (.bool)], .var 35 [.one (.whole T_uint64 3)], .var 38 [.one (.whole T_expr_offsets 4)], .arr T_uint64 false, .nest T_expr_offsets]⟩)]
def annSout : List (Nat × Shape) := [(3, ⟨[(0, .one (.bool))], []⟩),
 (4, ⟨[(0, .one (.bool))], []⟩),
 (5, ⟨[(0, .one (.bool))], []⟩),
 (6, ⟨[(0, .one (.bool))], []⟩),
 (7, ⟨[(0, .one (.bool))], []⟩),
 (8, ⟨[(0, .one (.bool))], []⟩),
 (9, ⟨[(0, .one (.bool))], []⟩),
 (10, ⟨[(0, .one (.bool))], []⟩),
 (11, ⟨[(0, .one (.bool))], []⟩),
 (12, ⟨[(0, .one (.int .i64))], []⟩),
 (13, ⟨[(0, .one (.bool))], []⟩),
 (14, ⟨[(0, .one (.bool))], []⟩),
 (15, ⟨[(0, .one (.bool))], []⟩),
 (16, ⟨[(0, .one (.whole T_uint64 0))], [.arr T_uint64 false]⟩),
 (17, ⟨[], [.arr T_uint64 false]⟩),
 (18, ⟨[(0, .one (.whole T_expr_offsets 0))], [.nest T_expr_offsets]⟩),
 (19, ⟨[(0, .one (.bool))], []⟩),
 (20, ⟨[(0, .one (.int .i64))], []⟩),
 (21, ⟨[(0, .one (.bool))], []⟩),
 (22, ⟨[(0, .agg [.int .i64, .int .i64, .list T_api_Expr]), (1, .one (.int .i64)), (2, .one (.int .i64))], []⟩),
 (23, ⟨[(0, .one (.str))], []⟩),
 (24, ⟨[(0, .one (.int .i64))], []⟩),
 (25, ⟨[(0, .one (.whole T_l_bool 0))], [.nest T_l_bool]⟩),
 (26, ⟨[(0, .one (.int .i64)), (1, .one (.int .i64))], []⟩),
 (27, ⟨[(0, .one (.bool))], []⟩),
 (28, ⟨[(0, .one (.int .i64))], []⟩),
 (29, ⟨[(0, .one (.whole T_expr_offsets 0))], [.nest T_expr_offsets]⟩),
 (30, ⟨[(0, .one (.whole T_expr_offsets 0))], [.nest T_expr_offsets]⟩),
 (31, ⟨[(0, .one (.whole T_expr_offsets 0))], [.nest T_expr_offsets]⟩),
 (32, ⟨[(0, .one (.whole T_expr_offsets 0))], [.nest T_expr_offsets]⟩),
 (33, ⟨[], [.var 33 [.one (.str)], .var 38 [.one (.whole T_expr_offsets 3)], .var 24 [.one (.int .i64), .one (.int .i64), .one (.list T_api_Expr)], .nest T_expr_offsets]⟩),
 (34, ⟨[], [.var 33 [.one (.str)], .var 38 [.one (.whole T_expr_offsets 3)], .var 24 [.one (.int .i64), .one (.int .i64), .one (.list T_api_Expr)], .nest T_expr_offsets]⟩),
 (35, ⟨[(0, .one (.bool))], []⟩),
 (36, ⟨[(0, .one (.bool))], []⟩),
 (37, ⟨[(0, .agg [.int .i64, .int .i64, .list T_api_Expr]), (1, .one (.int .i64)), (2, .one (.bool))], []⟩),
 (38, ⟨[(0, .one (.bool))], []⟩),
 (39, ⟨[], [.var 60 [.one (.und), .one (.whole T_uint8 2)], .dead, .arr T_uint8 false]⟩),
 (40, ⟨[(0, .one (.str))], [.var 60 [.one (.und), .one (.und)], .dead]⟩),
 (41, ⟨[(0, .one (.whole T_l_bool 0))], [.nest T_l_bool]⟩),
 (42, ⟨[(0, .one (.bool))], []⟩),
 (43, ⟨[(0, .one (.bool))], []⟩),
 (44, ⟨[], [.var 35 [.one (.whole T_uint64 4)], .var 38 [.one (.whole T_expr_offsets 3)], .dead, .nest T_expr_offsets, .arr T_uint64 false]⟩),
 (45, ⟨[], [.arr T_uint64 false]⟩),
 (46, ⟨[(0, .one (.bool))], []⟩),
 (47, ⟨[], [.var 33 [.one (.str)], .var 38 [.one (.whole T_expr_offsets 4)], .var 4 [.one (.bool)], .var 38 [.one (.whole T_expr_offsets 5)], .nest T_expr_offsets, .nest T_expr_offsets]⟩),
 (48, ⟨[], [.var 4 [.one (.bool)], .var 35 [.one (.whole T_uint64 5)], .var 38 [.one (.whole T_expr_offsets 4)], .dead, .nest T_expr_offsets, .arr T_uint64 false]⟩),
 (49, ⟨[], [.var 3 [.one (.int .i64)]]⟩),
 (50, ⟨[], [.var 35 [.one (.whole T_uint64 4)], .var 38 [.one (.whole T_expr_offsets 3)], .dead, .nest T_expr_offsets, .arr T_uint64 false]⟩),
 (51, ⟨[], [.var 38 [.one (.whole T_expr_offsets 3)], .var 24 [.one (.int .i64), .one (.int .i64), .one (.list T_api_Expr)], .var 38 [.one (.whole T_expr_offsets 4)], .nest T_expr_offsets, .nest T_expr_offsets]⟩),
 (52, ⟨[], [.var 33 [.one (.str)], .var 3 [.one (.int .i64)], .var 38 [.one (.whole T_expr_offsets 3)], .nest T_expr_offsets]⟩),
 (53, ⟨[(0, .one (.int .i64))], []⟩),
 (55, ⟨[(0, .agg [.int .i64, .int .i64, .list T_api_Expr])], [.var 71 [.one (.str), .one (.int .i64), .one (.int .i64)]]⟩),
 (56, ⟨[(0, .one (.int .u8))], [.var 71 [.one (.str), .one (.int .i64), .one (.int .i64)]]⟩),
 (58, ⟨[(0, .one (.bool))], [.var 3 [.one (.int .i64)]]⟩),
 (59, ⟨[(0, .one (.und))], [.var 60 [.one (.und), .one (.whole T_uint8 2)], .dead, .arr T_uint8 false]⟩),
 (60, ⟨[], [.var 60 [.one (.und), .one (.whole T_uint8 2)], .dead, .arr T_uint8 false]⟩),
 (61, ⟨[(0, .one (.int .i64))], []⟩),
 (62, ⟨[(0, .one (.bool))], []⟩),
 (63, ⟨[(0, .agg [.int .i64, .int .i64, .list T_api_Expr])], [.var 71 [.one (.str), .one (.int .i64), .one (.int .i64)]]⟩),
 (64, ⟨[(0, .agg [.int .i64, .int .i64, .list T_api_Expr])], [.var 71 [.one (.str), .one (.int .i64), .one (.int .i64)]]⟩),
 (66, ⟨[(0, .one (.int .i64)), (1, .one (.und))], [.var 60 [.one (.und), .one (.whole T_uint8 2)], .dead, .arr T_uint8 false]⟩),
 (67, ⟨[(0, .one (.int .i64))], []⟩),
 (68, ⟨[(0, .agg [.int .i64, .int .i64, .list T_api_Expr])], []⟩),
 (69, ⟨[(0, .agg [.int .i64, .int .i64, .list T_api_Expr])], [.var 71 [.one (.str), .one (.int .i64), .one (.int .i64)]]⟩),
 (71, ⟨[(0, .agg [.int .i64, .int .i64, .list T_api_Expr])], [.var 71 [.one (.str), .one (.int .i64), .one (.int .i64)]]⟩),
 (72, ⟨[(0, .one (.bool))], [.var 71 [.one (.str), .one (.int .i64), .one (.int .i64)]]⟩),
 (73, ⟨[(0, .agg [.int .i64, .int .i64, .list T_api_Expr])], [.var 71 [.one (.str), .one (.int .i64), .one (.int .i64)]]⟩),
 (74, ⟨[(0, .one (.bool))], [.var 71 [.one (.str), .one (.int .i64), .one (.int .i64)]]⟩),
 (75, ⟨[(0, .agg [.int .i64, .int .i64, .list T_api_Expr])], [.var 71 [.one (.str), .one (.int .i64), .one (.int .i64)]]⟩),
 (97, ⟨[(0, .agg [.int .i64, .int .i64, .list T_api_Expr])], [.var 71 [.one (.str), .one (.int .i64), .one (.int .i64)]]⟩),
 (98, ⟨[], [.var 3 [.one (.int .i64)]]⟩),
 (99, ⟨[], [.nest T_expr_offsets]⟩),
 (100, ⟨[], [.var 38 [.one (.whole T_expr_offsets 3)], .var 24 [.one (.int .i64), .one (.int .i64), .one (.list T_api_Expr)], .var 38 [.one (.whole T_expr_offsets 4)], .nest T_expr_offsets, .nest T_expr_offsets]⟩),
 (101, ⟨[], [.var 35 [.one (.whole T_uint64 4)], .var 38 [.one (.whole T_expr_offsets 3)], .dead, .nest T_expr_offsets, .arr T_uint64 false]⟩),
 (102, ⟨[], [.var 35 [.one (.whole T_uint64 4)], .var 38 [.one (.whole T_expr_offsets 3)], .dead, .nest T_expr_offsets, .arr T_uint64 false]⟩),
 (103, ⟨[], [.var 33 [.one (.str)], .var 3 [.one (.int .i64)], .var 38 [.one (.whole T_expr_offsets 3)], .nest T_expr_offsets]⟩),
 (104, ⟨[], [.var 33 [.one (.str)], .var 38 [.one (.whole T_expr_offsets 4)], .var 4 [.one (.bool)], .var 38 [.one (.whole T_expr_offsets 5)], .nest T_expr_offsets, .nest T_expr_offsets]⟩),
 (105, ⟨[], [.var 4 [.one (.bool)], .var 35 [.one (.whole T_uint64 5)], .var 38 [.one (.whole T_expr_offsets 4)], .dead, .nest T_expr_offsets, .arr T_uint64 false]⟩)]
def annAlt : List (Nat × Shape) := []
def annLive : List (Nat × List (Nat × List Nat)) := [(3, [(0, [1, 2]), (1, [1, 2, 5]), (2, [1, 2, 5, 16]), (3, [4]), (4, [1, 2, 5, 29]), (5, [4]), (6, [4])]),
 (4, [(0, [2, 3, 4]), (1, [2, 3, 4, 39]), (2, [6]), (3, [2, 3, 4, 7, 8]), (4, [2, 3, 4, 7, 8, 9]), (5, [2, 3, 7, 8, 9, 10]), (6, [7, 8, 9, 10, 11]), (7, [6])]),
 (5, [(0, [2, 3, 4]), (1, [2, 3, 4, 38]), (2, [6]), (3, [2, 3, 4, 7]), (4, [2, 3, 4, 7, 8, 9]), (5, [2, 3, 4, 7, 8, 9, 10]), (6, [2, 3, 4, 7, 8, 9, 10, 48]), (7, [2, 3, 4, 7, 8, 9, 10]), (8, [2, 3, 4, 7, 8, 9, 10]), (9, [2, 3, 4, 7, 8, 9, 10]), (10, [6])]),
 (6, [(0, [1, 2]), (1, [1, 2, 14]), (2, [4]), (3, [1, 2, 5]), (4, [1, 2, 5, 6]), (5, [1, 2, 5, 6]), (6, [4])]),
 (7, [(0, [1]), (1, [2])]),
 (8, [(0, [0, 1]), (1, [0, 1, 13]), (2, [4]), (3, [0, 1, 5]), (4, [0, 1, 5, 17]), (5, [0, 1, 5]), (6, [0, 1, 5, 32]), (7, [4]), (8, [4])]),
 (9, [(0, []), (1, [1, 2, 3]), (2, [0])]),
 (10, [(0, [1, 2]), (1, [4])]),
 (11, [(0, [1, 2]), (1, [4])]),
 (12, [(0, [1]), (1, [4]), (2, [2])]),
 (13, [(0, [1]), (1, [2])]),
 (14, [(0, [1]), (1, [2])]),
 (15, [(0, [0, 1]), (1, [0, 1, 16]), (2, [4]), (3, [0, 1, 18, 19]), (4, [0, 1, 18, 19, 20]), (5, [0, 1, 5, 18, 19]), (6, [0, 1, 18, 19, 34]), (7, [4]), (8, [0, 1, 18, 19]), (9, [4])]),
 (16, [(0, [1]), (1, [2])]),
 (17, [(0, [])]),
 (18, [(0, [2, 3, 4]), (1, [2, 3, 4, 9]), (2, [2, 3, 4, 9, 10]), (3, [6]), (4, [2, 3, 4, 9, 17]), (5, [6]), (6, [2, 3, 4, 9, 26]), (7, [2, 3, 4, 9, 26]), (8, [6]), (9, [2, 3, 4, 33]), (10, [6]), (11, [2, 3, 4, 7]), (12, [7]), (13, [6])]),
 (19, [(0, [0, 1]), (1, [4])]),
 (20, [(0, [1, 2]), (1, [1, 2, 5]), (2, [4]), (3, [1, 2, 9]), (4, [4]), (5, [13]), (6, [4]), (7, [4])]),
 (21, [(0, [0]), (1, [2])]),
 (22, [(0, [0, 1, 4]), (1, [0, 1, 4, 15]), (2, [4, 5, 6]), (3, [0, 1, 4, 19]), (4, [4, 5, 6]), (5, [4, 7, 8, 9]), (6, [4, 7, 8, 29]), (7, [4, 5, 6]), (8, [4, 7, 34]), (9, [4, 5, 6]), (10, [4, 5, 6])]),
 (23, [(0, [1]), (1, [1, 6]), (2, [2]), (3, [1, 3]), (4, [3]), (5, [2])]),
 (24, [(0, [1]), (1, [3]), (2, [2])]),
 (25, [(0, [1, 2]), (1, [1, 2, 5]), (2, [1, 2, 5, 6]), (3, [1, 2, 5, 6, 24, 25]), (4, [1, 2, 5, 6, 24, 25, 26]), (5, [1, 2, 5, 6, 7, 24, 25]), (6, [1, 2, 5, 6, 7, 24, 25]), (7, [1, 2, 5, 6, 7, 8, 24, 25]), (8, [1, 2, 5, 6, 7, 8, 24, 25, 37]), (9, [1, 2, 5, 6, 7, 8, 24, 25]), (10, [1, 2, 5, 6, 7, 8, 24, 25, 41]), (11, [1, 2, 5, 6, 7, 8, 24, 25, 41, 42]), (12, [1, 2, 5, 6, 7, 8, 24, 25, 41, 42]), (13, [1, 2, 5, 6, 7, 8, 24, 25, 41, 42]), (14, [1, 2, 5, 6, 7, 8, 24, 25]), (15, [1, 2, 5, 6, 7, 8, 24, 25, 41, 55]), (16, [1, 2, 5, 6, 7, 8, 24, 25]), (17, [1, 2, 5, 6, 7, 8, 24, 25, 41, 77]), (18, [1, 2, 5, 6, 7, 8, 24, 25, 77]), (19, [1, 2, 5, 6, 7, 8, 24, 25]), (20, [1, 2, 5, 6, 24, 25]), (21, [1, 2, 5, 6, 88, 89, 90]), (22, [1, 2, 5, 6, 88, 89, 90, 91]), (23, [1, 2, 5, 6, 10, 88, 89, 90]), (24, [1, 2, 5, 6, 11, 88, 89, 90]), (25, [1, 2, 5, 6, 11, 88, 89, 90, 98]), (26, [1, 2, 5, 6, 11, 88, 89, 90, 100, 101]), (27, [1, 2, 5, 6, 11, 88, 89, 90, 100, 101, 102]), (28, [1, 2, 5, 6, 11, 16, 88, 89, 90, 100, 101]), (29, [1, 2, 5, 6, 11, 16, 17, 88, 89, 90, 100, 101]), (30, [1, 2, 5, 6, 11, 16, 17, 88, 89, 90, 100, 101, 107]), (31, [1, 2, 5, 6, 11, 16, 17, 88, 89, 90, 100, 101]), (32, [1, 2, 5, 6, 11, 16, 17, 88, 89, 90, 100, 101, 111]), (33, [1, 2, 5, 6, 11, 16, 17, 88, 89, 90, 100, 101, 111, 112]), (34, [1, 2, 5, 6, 11, 16, 17, 88, 89, 90, 100, 101]), (35, [1, 2, 5, 6, 11, 16, 17, 88, 89, 90, 100, 101, 111, 136]), (36, [1, 2, 5, 6, 11, 16, 17, 88, 89, 90, 100, 101]), (37, [1, 2, 5, 6, 11, 16, 17, 88, 89, 90, 100, 101, 160]), (38, [1, 2, 5, 6, 11, 16, 17, 88, 89, 90, 100, 101]), (39, [1, 2, 5, 6, 11, 88, 89, 90, 100, 101]), (40, [1, 2, 5, 6, 11, 88, 89, 90, 98, 177]), (41, [1, 2, 5, 6, 88, 89, 90]), (42, [1, 2, 5, 6, 11, 88, 89, 90, 182]), (43, [1, 2, 5, 6, 11, 12, 88, 89, 90]), (44, [1, 2, 5, 6, 11, 12, 88, 89, 90, 186]), (45, [1, 2, 5, 6, 11, 12, 88, 89, 90]), (46, [1, 2, 5, 6, 11, 12, 13, 88, 89, 90]), (47, [1, 2, 5, 6, 11, 12, 13, 88, 89, 90, 193, 194]), (48, [1, 2, 5, 6, 11, 12, 13, 88, 89, 90, 193, 194, 195]), (49, [1, 2, 5, 6, 11, 12, 13, 14, 88, 89, 90, 193, 194]), (50, [1, 2, 5, 6, 11, 12, 13, 14, 88, 89, 90, 193, 194, 198, 199]), (51, [1, 2, 5, 6, 11, 12, 13, 14, 88, 89, 90, 193, 194, 198, 199, 200]), (52, [1, 2, 5, 6, 11, 12, 13, 14, 15, 88, 89, 90, 193, 194, 198, 199]), (53, [1, 2, 5, 6, 11, 12, 13, 14, 88, 89, 90, 193, 194, 198, 199]), (54, [1, 2, 5, 6, 11, 12, 13, 14, 88, 89, 90, 193, 194, 198, 199]), (55, [1, 2, 5, 6, 11, 12, 13, 88, 89, 90, 193, 194]), (56, [1, 2, 5, 6, 88, 89, 90]), (57, [4])]),
 (26, [(0, [1, 2]), (1, [1, 2, 6, 7]), (2, [1, 2, 6, 7, 8]), (3, [1, 2, 6, 7, 8, 20]), (4, [1, 2, 6, 7, 8]), (5, [1, 2, 6, 7, 8, 9, 10]), (6, [1, 2, 6, 7, 8]), (7, [4, 5])]),
 (27, [(0, [1]), (1, [1, 6]), (2, [1, 6, 7]), (3, [1, 6, 7]), (4, [2]), (5, [1, 6, 10]), (6, [2]), (7, [1, 6, 15]), (8, [1, 6, 15]), (9, [19, 20, 21]), (10, [19, 20, 21, 22]), (11, [4, 19, 20, 21]), (12, [19, 20, 21, 27]), (13, [2]), (14, [19, 20, 21]), (15, [2]), (16, [1, 29]), (17, [2]), (18, [2])]),
 (28, [(0, [1, 2]), (1, [1, 2, 10]), (2, [4]), (3, [1, 2, 13]), (4, [4]), (5, [17]), (6, [4]), (7, [4])]),
 (29, [(0, [1, 2, 3]), (1, [1, 2, 3, 7]), (2, [2, 3, 7, 20, 21, 22]), (3, [2, 3, 7, 20, 21, 22, 23]), (4, [2, 3, 7, 9, 20, 21, 22]), (5, [2, 3, 7, 9, 10, 20, 21, 22]), (6, [2, 3, 7, 9, 10, 20, 21, 22]), (7, [2, 3, 7, 9, 11, 20, 21, 22]), (8, [2, 3, 7, 11, 12, 20, 21, 22]), (9, [2, 3, 7, 20, 21, 22]), (10, [2, 3, 7, 20, 21, 22]), (11, [6])]),
 (30, [(0, [2, 3, 4]), (1, [2, 3, 4, 7, 8]), (2, [3, 4, 7, 8]), (3, [3, 4, 7, 8, 9]), (4, [3, 4, 7, 8, 9, 28]), (5, [3, 4, 7, 8, 9]), (6, [3, 4, 7, 8, 9]), (7, [3, 8, 10]), (8, [3, 8, 10, 11]), (9, [3, 8, 10, 11, 12]), (10, [3, 8, 10, 11, 12, 48]), (11, [3, 8, 10, 11, 12]), (12, [3, 8, 10, 11, 12, 13]), (13, [3, 8, 10, 11, 12, 13]), (14, [3, 8, 10, 11, 12, 13]), (15, [3, 8, 10, 11, 12]), (16, [6])]),
 (31, [(0, [2, 3, 4]), (1, [2, 3, 4, 7]), (2, [2, 3, 4, 7, 20, 21, 22]), (3, [2, 3, 4, 7, 20, 21, 22, 23]), (4, [2, 3, 4, 7, 9, 20, 21, 22]), (5, [2, 3, 4, 7, 10, 20, 21, 22]), (6, [2, 3, 4, 7, 20, 21, 22]), (7, [2, 3, 4, 7, 20, 21, 22]), (8, [6])]),
 (32, [(0, [2, 3, 4]), (1, [2, 3, 7]), (2, [2, 3, 7, 8]), (3, [7]), (4, [6])]),
 (33, [(0, [1, 6, 7, 8]), (1, [1, 6, 7, 8, 9]), (2, [1, 4, 5, 6, 7, 8]), (3, [1, 4, 5, 6, 7, 8, 14]), (4, [1, 4, 5, 6, 7, 8]), (5, [1, 4, 5, 6, 7, 8]), (6, [1, 6, 7, 8])]),
 (34, [(0, [0, 1, 2, 3]), (1, [0, 1, 2, 3, 10]), (2, []), (3, [0, 2, 20]), (4, [])]),
 (35, [(0, [1]), (1, [3, 4]), (2, [2])]),
 (36, [(0, [1, 2]), (1, [1, 2, 5]), (2, [1, 2, 5, 6]), (3, [1, 2, 5, 6, 20]), (4, [1, 2, 5, 6]), (5, [1, 2, 5, 6, 20, 26]), (6, [1, 2, 5, 6, 20, 26]), (7, [1, 2, 5, 6, 20, 26]), (8, [1, 2, 5, 6]), (9, [1, 2, 5, 6, 20, 32]), (10, [1, 2, 5, 6, 32]), (11, [1, 2, 5, 6]), (12, [1, 2, 5, 6, 39]), (13, [1, 2, 5, 6]), (14, [1, 2, 5, 6]), (15, [1, 2, 5, 6, 7]), (16, [1, 2, 5, 6, 7, 63]), (17, [1, 2, 5, 6, 7]), (18, [1, 2, 5, 6, 7]), (19, [4])]),
 (37, [(0, [0, 1, 4, 5, 6]), (1, [0, 1, 4, 5, 6]), (2, [0, 4, 5, 6, 7]), (3, [0, 4, 5, 6, 7]), (4, [0, 4, 5, 6, 7]), (5, [4, 5, 6, 7, 18]), (6, [4, 5, 6]), (7, [4, 5, 6])]),
 (38, [(0, [1]), (1, [1, 3]), (2, [2])]),
 (39, [(0, [0, 3]), (1, [0, 3, 5]), (2, [0, 3, 5, 6]), (3, []), (4, [0, 3, 5, 10]), (5, []), (6, [0, 3, 5, 14]), (7, []), (8, [0, 3, 5, 22]), (9, []), (10, [0, 3, 5, 28]), (11, []), (12, [0, 3, 5, 34]), (13, []), (14, [0, 3, 5, 40]), (15, [0, 3]), (16, []), (17, [0, 3, 48]), (18, [0]), (19, [])]),
 (40, [(0, [0]), (1, [2])]),
 (41, [(0, [0, 1]), (1, [0, 1, 5]), (2, [0, 1, 5, 13, 14]), (3, [0, 1, 5, 13, 14, 15]), (4, [0, 1, 5, 6, 13, 14]), (5, [0, 1, 5, 6, 13, 14]), (6, [0, 1, 5, 6, 7, 13, 14]), (7, [0, 1, 5, 6, 7, 13, 14, 27]), (8, [0, 1, 5, 6, 7, 13, 14]), (9, [0, 1, 5, 6, 7, 8, 13, 14]), (10, [0, 1, 5, 6, 7, 8, 13, 14, 33]), (11, [0, 1, 5, 6, 7, 8, 13, 14]), (12, [0, 1, 5, 6, 7, 8, 13, 14]), (13, [0, 1, 5, 13, 14]), (14, [4])]),
 (42, [(0, [0, 1]), (1, [4])]),
 (43, [(0, [1, 2]), (1, [1, 2, 9]), (2, [4]), (3, [1, 2, 27]), (4, [4]), (5, [1, 2, 29]), (6, [4]), (7, [1, 2, 29, 30]), (8, [1, 2, 29, 30]), (9, [4]), (10, [1, 2, 29, 37]), (11, [1, 2, 29, 37]), (12, [1, 2, 29, 37]), (13, [1, 2, 44]), (14, [4]), (15, [1, 2, 29, 45]), (16, [1, 2, 45]), (17, [1, 2, 51]), (18, [4]), (19, [1, 53, 54, 55]), (20, [1, 53, 54, 55, 56]), (21, [1, 6, 53, 54, 55]), (22, [1, 53, 54, 55, 62]), (23, [4]), (24, [1, 53, 54, 55]), (25, [4])]),
 (44, [(0, [])]),
 (45, [(0, [0, 1, 6]), (1, [0, 1, 6, 12]), (2, [0, 1, 6]), (3, [0, 1, 6])]),
 (46, [(0, [1]), (1, [2])]),
 (47, [(0, [0, 2, 3, 4, 6]), (1, [0, 2, 6]), (2, [])]),
 (48, [(0, [0, 2, 3, 12]), (1, [])]),
 (49, [(0, [])]),
 (50, [(0, [0, 1, 2, 7]), (1, [])]),
 (51, [(0, [0, 1, 2, 3, 10, 11]), (1, [0, 1, 2, 3, 10, 11, 12]), (2, [0, 1, 2, 3, 5, 10, 11]), (3, [0, 1, 2, 3, 5, 10, 11, 16]), (4, [0, 1, 2, 3, 10, 11]), (5, [0, 1, 2, 3, 10, 11]), (6, [0, 1, 2, 3, 10, 11])]),
 (52, [(0, [0, 1, 2, 3, 5]), (1, [0, 1, 2, 3, 5, 6]), (2, [0, 1, 2, 3, 5, 6, 13]), (3, [0, 1, 2, 3, 5, 6]), (4, [0, 1, 2, 3, 5, 6]), (5, [0, 1, 2, 3, 5]), (6, [0, 3, 5]), (7, [])]),
 (53, [(0, [0]), (1, [0, 4]), (2, [2]), (3, [2])]),
 (55, [(0, [0, 2]), (1, [2])]),
 (56, [(0, [0]), (1, [0, 24]), (2, [0]), (3, [0, 41]), (4, [2]), (5, [2])]),
 (58, [(0, [1, 2, 3]), (1, [1, 2, 3, 16]), (2, [6]), (3, [1, 2, 3]), (4, [1, 2, 23, 24, 25]), (5, [1, 2, 23, 24, 25, 26]), (6, [1, 2, 8, 23, 24, 25]), (7, [1, 2, 23, 24, 25, 34]), (8, [6]), (9, [1, 2, 23, 24, 25]), (10, [6])]),
 (59, [(0, [0, 1]), (1, [0, 1]), (2, []), (3, [4])]),
 (60, [(0, [0, 2, 3, 10, 11, 12]), (1, [0, 2, 3, 10, 11, 12, 13]), (2, [0, 2, 3, 8, 9, 10, 11, 12]), (3, [0, 2, 3, 9, 10, 11, 12, 18]), (4, [0, 2, 3, 9, 10, 11, 12]), (5, [0, 2, 3, 9, 10, 11, 12, 26]), (6, [0, 2, 3, 10, 11, 12]), (7, [0, 2, 3, 9, 10, 11, 12]), (8, [0, 2, 3, 10, 11, 12]), (9, [0, 2, 3, 10, 11, 12]), (10, [0, 2, 3, 10, 11, 12])]),
 (61, [(0, [0, 1]), (1, [0, 1, 7, 8]), (2, [0, 1, 7, 8, 9]), (3, [0, 1, 5, 7, 8]), (4, [0, 1, 5, 7, 8, 16]), (5, [4]), (6, [0, 1, 7, 8]), (7, [4])]),
 (62, [(0, [1]), (1, [2])]),
 (63, [(0, [0, 1, 2, 3, 8]), (1, [0, 1, 2, 3, 8, 9]), (2, [0, 1, 2, 3, 8, 9, 16]), (3, [0, 1, 2, 3, 8, 9]), (4, [0, 1, 2, 3, 8, 9]), (5, [8])]),
 (64, [(0, [0, 2]), (1, [2])]),
 (66, [(0, [0, 1]), (1, [0, 1]), (2, [1]), (3, [4, 5])]),
 (67, [(0, [0]), (1, [3]), (2, [3, 4]), (3, [2]), (4, [3, 6]), (5, [2]), (6, [3, 8]), (7, [2]), (8, [3, 10]), (9, [2]), (10, [12]), (11, [2]), (12, [2])]),
 (68, [(0, [0, 1, 4]), (1, [0, 1, 4, 7]), (2, [4]), (3, [4])]),
 (69, [(0, [0, 2]), (1, [0, 2, 3]), (2, [0, 2, 3, 8]), (3, [0, 2, 3]), (4, [2])]),
 (71, [(0, [0, 2]), (1, [0, 2, 5]), (2, [2]), (3, [0, 2]), (4, [2])]),
 (72, [(0, [0]), (1, [0, 3]), (2, [2])]),
 (73, [(0, [0, 2]), (1, [0, 2, 3]), (2, [0, 2, 3, 8]), (3, [0, 2, 3]), (4, [0, 2, 3]), (5, [2])]),
 (74, [(0, [0, 1]), (1, [4])]),
 (75, [(0, [0, 2]), (1, [0, 2, 3]), (2, [0, 2, 3, 4]), (3, [0, 2, 3]), (4, [0, 2, 3, 4, 9]), (5, [0, 2, 3]), (6, [0, 2, 3, 4, 13]), (7, [0, 2, 3]), (8, [0, 2, 3, 4, 17]), (9, [0, 2, 3]), (10, [0, 2, 3, 26]), (11, [0, 2, 3]), (12, [0, 2, 3]), (13, [0, 2, 3, 40]), (14, [0, 2, 3]), (15, [2, 3]), (16, [2])])]
def annJoin : List (Nat × List (Nat × List Nat)) := [(3, [(16, [1, 2, 5]), (29, [1, 2, 5])]),
 (4, [(39, [2, 3, 4])]),
 (5, [(38, [2, 3, 4]), (48, [2, 3, 4, 7, 8, 9, 10])]),
 (6, [(14, [1, 2])]),
 (7, []),
 (8, [(13, [0, 1]), (17, [0, 1, 5]), (32, [0, 1, 5])]),
 (9, []),
 (10, []),
 (11, []),
 (12, []),
 (13, []),
 (14, []),
 (15, [(16, [0, 1]), (20, [0, 1, 18, 19]), (34, [0, 1, 18, 19])]),
 (16, []),
 (17, []),
 (18, [(10, [2, 3, 4]), (17, [2, 3, 4]), (26, [2, 3, 4, 9, 26]), (33, [2, 3, 4])]),
 (19, []),
 (20, [(5, []), (9, []), (13, [])]),
 (21, []),
 (22, [(15, [0, 1, 4]), (19, [0, 1, 4]), (29, [4, 7]), (34, [4, 7])]),
 (23, [(6, [1])]),
 (24, []),
 (25, [(26, [1, 2, 5, 6, 24, 25]), (37, [1, 2, 5, 6, 7, 8, 24, 25]), (42, [1, 2, 5, 6, 7, 8, 24, 25, 41, 42]), (55, [1, 2, 5, 6, 7, 8, 24, 25]), (77, [1, 2, 5, 6, 7, 8, 24, 25, 77]), (91, [1, 2, 5, 6, 88, 89, 90]), (102, [1, 2, 5, 6, 11, 88, 89, 90, 100, 101]), (107, [1, 2, 5, 6, 11, 16, 17, 88, 89, 90, 100, 101]), (112, [1, 2, 5, 6, 11, 16, 17, 88, 89, 90, 100, 101]), (136, [1, 2, 5, 6, 11, 16, 17, 88, 89, 90, 100, 101]), (160, [1, 2, 5, 6, 11, 16, 17, 88, 89, 90, 100, 101]), (177, [1, 2, 5, 6, 88, 89, 90]), (182, [1, 2, 5, 6, 88, 89, 90]), (186, [1, 2, 5, 6, 11, 12, 88, 89, 90]), (195, [1, 2, 5, 6, 11, 12, 13, 88, 89, 90, 193, 194]), (200, [1, 2, 5, 6, 11, 12, 13, 14, 88, 89, 90, 193, 194, 198, 199])]),
 (26, [(20, [1, 2, 6, 7, 8])]),
 (27, [(7, [1, 6, 7]), (10, []), (15, [1, 6, 15]), (22, [19, 20, 21]), (27, [19, 20, 21]), (29, [])]),
 (28, [(10, [1, 2]), (13, [1, 2]), (17, [])]),
 (29, [(23, [2, 3, 7, 20, 21, 22])]),
 (30, [(28, [3, 4, 7, 8, 9]), (48, [3, 8, 10, 11, 12])]),
 (31, [(23, [2, 3, 4, 7, 20, 21, 22])]),
 (32, []),
 (33, [(9, [1, 6, 7, 8]), (14, [1, 4, 5, 6, 7, 8])]),
 (34, [(10, []), (20, [])]),
 (35, []),
 (36, [(26, [1, 2, 5, 6, 20, 26]), (32, [1, 2, 5, 6, 32]), (39, [1, 2, 5, 6]), (63, [1, 2, 5, 7])]),
 (37, [(18, [4, 5, 6])]),
 (38, []),
 (39, [(6, []), (10, []), (14, []), (22, []), (28, []), (34, []), (40, []), (48, [])]),
 (40, []),
 (41, [(15, [0, 1, 5, 13, 14]), (27, [0, 1, 5, 6, 7, 13, 14]), (33, [0, 1, 5, 6, 7, 8, 13, 14])]),
 (42, []),
 (43, [(9, [1, 2]), (27, [1, 2]), (30, [1, 2, 29, 30]), (37, [1, 2, 29, 37]), (44, [1, 2]), (45, [1, 2, 45]), (51, [1, 2]), (56, [1, 53, 54, 55]), (62, [1, 53, 54, 55])]),
 (44, []),
 (45, [(12, [0, 1, 6])]),
 (46, []),
 (47, []),
 (48, [(12, [])]),
 (49, []),
 (50, [(7, [])]),
 (51, [(12, [0, 1, 2, 3, 10, 11]), (16, [0, 1, 2, 3, 10, 11])]),
 (52, [(13, [0, 1, 2, 3, 5, 6])]),
 (53, [(4, [0])]),
 (55, []),
 (56, [(24, [0]), (41, [0])]),
 (58, [(16, [1, 2, 3]), (26, [1, 2, 23, 24, 25]), (34, [1, 2, 23, 24, 25])]),
 (59, []),
 (60, [(13, [0, 2, 3, 10, 11, 12]), (18, [0, 2, 3, 9, 10, 11, 12]), (26, [0, 2, 3, 9, 10, 11, 12])]),
 (61, [(9, [0, 1, 7, 8]), (16, [0, 1, 7, 8])]),
 (62, []),
 (63, [(16, [0, 1, 2, 3, 8, 9])]),
 (64, []),
 (66, []),
 (67, [(4, []), (6, []), (8, []), (10, []), (12, [])]),
 (68, [(7, [0, 1, 4])]),
 (69, [(8, [0, 2, 3])]),
 (71, [(5, [0, 2])]),
 (72, []),
 (73, [(8, [0, 2, 3])]),
 (74, []),
 (75, [(9, [0, 2, 3]), (13, [0, 2, 3]), (17, [0, 2, 3]), (26, [0, 2, 3]), (40, [0, 2, 3])])]
def annBlk : List (Nat × List (Nat × List Nat)) := [(3, []),
 (4, []),
 (5, [(0, [2, 3, 4, 7, 8, 9]), (1, [2, 3, 4, 7, 8, 9, 10])]),
 (6, []),
 (7, []),
 (8, [(0, []), (1, [0, 1, 5])]),
 (9, []),
 (10, []),
 (11, []),
 (12, []),
 (13, []),
 (14, []),
 (15, [(0, []), (1, [0, 1, 18, 19])]),
 (16, []),
 (17, []),
 (18, [(0, [2, 3, 4])]),
 (19, []),
 (20, [(0, [])]),
 (21, []),
 (22, []),
 (23, []),
 (24, []),
 (25, [(0, [1, 2, 5, 6]), (1, [1, 2, 5, 6, 24, 25]), (2, [1, 2, 5, 6, 24, 25]), (3, [1, 2, 5, 6, 7, 8, 24, 25]), (4, [1, 2, 5, 6, 7, 8, 24, 25]), (5, [6]), (6, [1, 2, 5, 6, 88, 89, 90]), (7, [1, 2, 5, 6, 88, 89, 90]), (8, [1, 2, 5, 6, 88, 89, 90]), (9, [1, 2, 5, 6, 11, 88, 89, 90, 100, 101]), (10, [1, 2, 5, 6, 11, 88, 89, 90, 100, 101]), (11, [1, 2, 5, 6, 11, 16, 17, 88, 89, 90, 100, 101]), (12, [1, 2, 5, 6, 11, 16, 17, 88, 89, 90, 100, 101]), (13, [1, 2, 5, 6, 88, 89, 90]), (14, [1, 2, 5, 6, 11, 12, 88, 89, 90]), (15, [1, 2, 5, 6, 11, 12, 88, 89, 90]), (16, [1, 2, 5, 6, 11, 12, 13, 88, 89, 90, 193, 194]), (17, [1, 2, 5, 6, 11, 12, 13, 88, 89, 90, 193, 194]), (18, [1, 2, 5, 6, 11, 12, 13, 14, 88, 89, 90, 193, 194, 198, 199])]),
 (26, [(0, [6, 7]), (1, [1, 2, 6, 7, 8])]),
 (27, [(0, []), (1, []), (2, [19, 20, 21])]),
 (28, []),
 (29, [(0, [7]), (1, [2, 3, 7, 20, 21, 22])]),
 (30, [(0, [3, 4, 7, 8]), (1, [3, 4, 7, 8, 9]), (2, [11]), (3, [3, 8, 10, 11, 12])]),
 (31, [(0, [7]), (1, [2, 3, 4, 7, 20, 21, 22])]),
 (32, []),
 (33, [(0, []), (1, [1, 6, 7, 8]), (2, [1, 6, 7, 8]), (3, [1, 4, 5, 6, 7, 8])]),
 (34, [(0, [])]),
 (35, []),
 (36, [(0, [1, 2, 5, 6]), (1, [6]), (2, [1, 2, 5, 6, 7])]),
 (37, []),
 (38, []),
 (39, [(0, [])]),
 (40, []),
 (41, [(0, [5]), (1, [0, 1, 5, 13, 14]), (2, [0, 1, 5, 13, 14]), (3, [0, 1, 5, 6, 7, 13, 14]), (4, [0, 1, 5, 6, 7, 13, 14]), (5, [0, 1, 5, 6, 7, 8, 13, 14])]),
 (42, []),
 (43, [(0, [1, 2]), (1, []), (2, [1, 53, 54, 55])]),
 (44, []),
 (45, [(0, []), (1, [0, 1, 6])]),
 (46, []),
 (47, []),
 (48, []),
 (49, []),
 (50, []),
 (51, [(0, []), (1, [0, 1, 2, 3, 10, 11])]),
 (52, [(0, [0, 1, 2, 3, 5]), (1, [0, 1, 2, 3, 5, 6])]),
 (53, []),
 (55, []),
 (56, [(0, [0]), (1, [0])]),
 (58, [(0, []), (1, [1, 2, 23, 24, 25])]),
 (59, []),
 (60, [(0, []), (1, [0, 2, 3, 10, 11, 12])]),
 (61, [(0, []), (1, [0, 1, 7, 8])]),
 (62, []),
 (63, [(0, [1, 8, 9]), (1, [0, 1, 2, 3, 8, 9])]),
 (64, []),
 (66, []),
 (67, [(0, [])]),
 (68, []),
 (69, [(0, [2, 3]), (1, [0, 2, 3])]),
 (71, []),
 (72, []),
 (73, [(0, [2, 3]), (1, [0, 2, 3])]),
 (74, []),
 (75, [(0, [0, 2, 3])])]
def annPur : List (Nat × List (Nat × List Nat)) := [(73, [(1, [3]), (2, [3]), (3, [3]), (4, [3])]),
 (75, [(1, [3]), (2, [3]), (3, [3]), (4, [3]), (5, [3]), (6, [3]), (7, [3]), (8, [3]), (9, [3]), (10, [3]), (11, [3]), (12, [3]), (13, [3]), (14, [3]), (15, [3])])]
def annOutp : List (Nat × List Nat) := [(22, [0]),
 (71, [0])]
def annCk : List (Nat × List (Nat × List (Nat × Nat))) := [(3, [(1, [(2, 6)]), (2, [(1, 7), (5, 8)]), (3, [(3, 9)]), (4, [(1, 10)]), (5, [(0, 9)]), (6, [(3, 11), (6, 9)])]),
 (4, [(1, [(1, 10), (5, 10), (15, 8), (20, 12), (25, 12)]), (2, [(0, 9)]), (3, [(2, 6), (5, 6)]), (4, [(5, 6)]), (5, [(5, 6)]), (6, [(4, 6)]), (7, [(21, 9)])]),
 (5, [(1, [(1, 10), (5, 10), (15, 8), (20, 12), (25, 12)]), (2, [(0, 9)]), (8, [(6, 6), (12, 6)]), (9, [(9, 6), (16, 6)]), (10, [(5, 6), (11, 6), (17, 13), (19, 6), (23, 9)])]),
 (6, [(1, [(1, 14), (5, 15)]), (4, [(1, 16)]), (5, [(1, 17)]), (6, [(3, 18), (8, 19)])]),
 (7, [(1, [(1, 20)])]),
 (8, [(1, [(1, 21)])]),
 (9, [(1, [(0, 22)]), (2, [(19, 23)])]),
 (10, [(1, [(1, 7), (4, 24), (10, 12)])]),
 (11, [(1, [(2, 25)])]),
 (12, [(1, [(1, 26)])]),
 (13, [(1, [(1, 14), (4, 27)])]),
 (14, [(1, [(1, 28)])]),
 (18, [(3, [(4, 29)]), (5, [(6, 30)]), (8, [(3, 31)]), (10, [(6, 32)]), (12, [(2, 33)])]),
 (20, [(1, [(1, 21)]), (3, [(1, 35)]), (5, [(2, 36)])]),
 (22, [(5, [(2, 37)]), (8, [(1, 38)])]),
 (23, [(1, [(1, 14)]), (4, [(1, 39)]), (5, [(0, 40)])]),
 (24, [(1, [(1, 26)])]),
 (25, [(24, [(2, 25)]), (41, [(2, 41)]), (46, [(2, 41)])]),
 (26, [(5, [(6, 26)])]),
 (27, [(6, [(2, 42)]), (12, [(1, 27)]), (17, [(9, 27)])]),
 (28, [(3, [(1, 38)]), (5, [(2, 43)])]),
 (29, [(1, [(5, 18)]), (5, [(1, 16)]), (6, [(2, 102)]), (7, [(3, 18)]), (8, [(5, 46)]), (9, [(2, 104)])]),
 (30, [(1, [(1, 16)]), (2, [(2, 98)]), (6, [(2, 17)]), (7, [(3, 18)]), (12, [(1, 16)]), (13, [(2, 17)]), (14, [(5, 101)])]),
 (31, [(1, [(6, 18)]), (5, [(3, 18)]), (6, [(2, 100)])]),
 (32, [(1, [(3, 18)]), (3, [(2, 103)])]),
 (33, [(5, [(4, 53), (6, 34)])]),
 (34, [(0, [(3, 16)]), (2, [(5, 99)]), (4, [(6, 99)])]),
 (35, [(1, [(1, 26)])]),
 (36, [(18, [(6, 36)])]),
 (37, [(3, [(0, 55)]), (4, [(0, 56)])]),
 (38, [(2, [(1, 58)])]),
 (39, [(3, [(1, 59)]), (5, [(1, 59)]), (7, [(5, 59)]), (9, [(3, 60)]), (11, [(3, 60)]), (13, [(3, 60)]), (15, [(1, 59)]), (16, [(3, 60)]), (18, [(3, 60)]), (19, [(1, 59)])]),
 (42, [(1, [(2, 61)])]),
 (43, [(22, [(2, 43)])]),
 (44, [(0, [(6, 45)])]),
 (46, [(1, [(14, 62)])]),
 (47, [(0, [(1, 16)]), (1, [(5, 105)])]),
 (48, [(0, [(5, 19)]), (1, [(6, 45)])]),
 (50, [(0, [(2, 19)]), (1, [(6, 45)])]),
 (52, [(0, [(1, 16)])]),
 (55, [(1, [(3, 63)])]),
 (58, [(7, [(4, 58)])]),
 (60, [(4, [(2, 66)]), (5, [(2, 67)]), (6, [(2, 39)]), (7, [(1, 59)]), (8, [(2, 39)]), (9, [(1, 59)])]),
 (61, [(4, [(5, 27)])]),
 (63, [(1, [(1, 64)]), (2, [(1, 56)]), (4, [(2, 64)]), (5, [(2, 68)])]),
 (64, [(1, [(3, 97)])]),
 (69, [(1, [(1, 71)]), (2, [(1, 72)]), (3, [(2, 71)]), (4, [(1, 68)])]),
 (71, [(1, [(1, 56)]), (2, [(1, 73)]), (4, [(1, 71)])]),
 (72, [(1, [(1, 56)]), (2, [(17, 74)])]),
 (73, [(1, [(1, 75)]), (2, [(1, 56)])]),
 (75, [(2, [(1, 56)]), (8, [(2, 74)]), (12, [(1, 55)]), (13, [(1, 56)])]),
 (97, [(1, [(1, 69)]), (2, [(1, 56)]), (4, [(2, 69)]), (5, [(2, 68)])]),
 (98, [(5, [(4, 53), (6, 49)])]),
 (100, [(5, [(4, 53), (6, 51)])]),
 (101, [(5, [(4, 53), (6, 50)])]),
 (102, [(5, [(4, 53), (6, 44)])]),
 (103, [(5, [(4, 53), (6, 52)])]),
 (104, [(5, [(4, 53), (6, 47)])]),
 (105, [(5, [(4, 53), (6, 48)])])]
def annShp : List (Nat × List (Nat × (Shape × List (Out × Shape)))) := [(5, [(97, S5_97)]),
 (8, [(65, S8_65)]),
 (15, [(65, S15_65)]),
 (25, [(895, S25_895), (129, S25_129), (65, S25_65), (817, S25_817), (769, S25_769), (705, S25_705), (1807, S25_1807), (481, S25_481), (433, S25_433), (353, S25_353)]),
 (26, [(49, S26_49)]),
 (27, [(161, S27_161)]),
 (29, [(49, S29_49)]),
 (30, [(65, S30_65), (161, S30_161)]),
 (31, [(49, S31_49)]),
 (33, [(49, S33_49), (17, S33_17)]),
 (34, [(175, S34_175)]),
 (36, [(639, S36_639), (257, S36_257)]),
 (39, [(463, S39_463), (367, S39_367), (239, S39_239), (175, S39_175), (111, S39_111)]),
 (41, [(161, S41_161), (113, S41_113), (49, S41_49)]),
 (43, [(321, S43_321)]),
 (45, [(17, S45_17)]),
 (51, [(17, S51_17)]),
 (52, [(33, S52_33)]),
 (56, [(17, S56_17)]),
 (58, [(81, S58_81)]),
 (60, [(303, S60_303), (17, S60_17)]),
 (61, [(33, S61_33)]),
 (63, [(33, S63_33)]),
 (69, [(33, S69_33)]),
 (73, [(33, S73_33)]),
 (75, [(223, S75_223), (159, S75_159)]),
 (97, [(33, S97_33)]),
 (98, [(49, S98_49), (17, S98_17)]),
 (100, [(49, S100_49), (17, S100_17)]),
 (101, [(49, S101_49), (17, S101_17)]),
 (102, [(49, S102_49), (17, S102_17)]),
 (103, [(49, S103_49), (17, S103_17)]),
 (104, [(49, S104_49), (17, S104_17)]),
 (105, [(49, S105_49), (17, S105_17)])]
def annNst : List (Nat × List (Nat × List Nat)) := [(18, [(11, [46])]),
 (25, [(2, [22])]),
 (30, [(8, [42])]),
 (41, [(1, [11])])]
def annF (k : Nat) : FuncId := (lookupN annFid k).getD 0
def ann : Ann where
  fid := annF
  sin := fun k => (lookupN annSin k).getD ⟨[], []⟩
  sout := fun k => (lookupN annSout k).getD ⟨[], []⟩
  live := fun k r => (lookupN ((lookupN annLive (annF k)).getD []) r).getD []
  join := fun k r => (lookupN ((lookupN annJoin (annF k)).getD []) r).getD []
  blk := fun k r => (lookupN ((lookupN annBlk (annF k)).getD []) r).getD []
  pur := fun k r => (lookupN ((lookupN annPur k).getD []) r).getD []
  outp := fun k => (lookupN annOutp k).getD []
  alt := fun k => lookupN annAlt k
  nst := fun k r => (lookupN ((lookupN annNst k).getD []) r).getD []
  ck := fun k r i => (lookupN ((lookupN ((lookupN annCk k).getD []) r).getD []) i).getD 0
  shp := fun k x => lookupN ((lookupN annShp k).getD []) x
  nstNow := []
  ckNow := fun _ => 0
  ext := fun f => bif Nat.beq f 65 then some 60 else none
  cln := fun f => none
  idle := fun f => Nat.beq f 54
  mv := fun k => (lookupN ([(39, [1]), (40, [1]), (44, [2]), (48, [3]), (50, [2]), (59, [1]), (60, [1]), (66, [1]), (101, [2]), (102, [2]), (105, [3])] : List (Nat × List Nat)) k).getD []
  glob := fun g => bif Nat.beq g 0 then .pref [5, 5, 5, 5, 5, 5, 5, 5, 5, 5, 5, 5, 5, 5, 5, 5, 5, 5, 5, 5, 5, 5, 5, 5, 5, 5, 5, 5, 5, 5, 5, 5, 5, 5, 5, 5, 5, 5, 5, 5, 5, 5, 5, 5, 5, 5, 5, 5, 5, 5, 5, 5, 5, 5, 5, 5, 5, 5, 5, 5, 5, 5, 5, 5] tab_0 else .undef
noncomputable abbrev PG : Program := Tryd.prog
noncomputable abbrev CC : CallF := Call Tryd.prog ann
end Go.AM
set_option maxRecDepth 100000
namespace Go.AM
open Go.Proofs Go.RowKit
theorem cln_ok (hP : NoCount PG) (f : FuncId) (e : TypeId) (h : ann.cln f = some e) : CloneOk PG f e := by
  have h1 : ann.cln f = none := by kernel_rfl
  rw [h1] at h
  cases h
end Go.AM
set_option maxRecDepth 100000
set_option linter.unusedVariables false
namespace Go.AM
open Go.Proofs Go.RowKit
theorem sz_le (args : Array Value) (n : Nat) : n ≤ (args ++ Array.replicate (n - args.size) undef).size := by simp; omega
def opsOf : Code → Array Oper
  | .region _ ops _ => ops
  | _ => #[]
def ridOf : Code → Nat
  | .region id _ _ => id
  | _ => 0
section
variable {P : Program} {ops : Array Oper} {Q : Exit → Act → List Frame → World → Prop} {a : Act} {cs : List Frame} {w : World} {i : Nat} {rest : List Nat} {o : Oper}
theorem opsS_rec (ho : ops[i]? = some o) (hg : o.guard = none) (he : (execOp a.eval o).run P w = .ok .recover w) (hr : recoverD cs = none) (h : wpOpsS P ops Q rest (a.put o.dst .nilIface) cs w) : wpOpsS P ops Q (i :: rest) a cs w := by
  simp only [wpOpsS, ho, Region.wanted, hg, if_true, he, hr]
  exact h
theorem opsS_val {v : Value} (ho : ops[i]? = some o) (hg : o.guard = none) (he : (execOp a.eval o).run P w = .ok (.value v) w) (h : wpOpsS P ops Q rest (a.put o.dst v) cs w) : wpOpsS P ops Q (i :: rest) a cs w := by
  simp only [wpOpsS, ho, Region.wanted, hg, if_true, he, Oper.upon_value]
  exact h
end
theorem neq_nil (w : World) : (binOp .neq 20 .nilIface .nilIface).run Tryd.prog w = .ok (.bool false) w := by
  have hd : Tryd.prog.underlying 20 = some (.interface #[]) := by kernel_rfl
  have h0 : ∀ k : Nat, (Op.equalIn (k + 1) 20 .nilIface .nilIface).run Tryd.prog w = .ok true w := fun k => by simp [Op.equalIn, run_underlying hd]
  simp only [binOp]
  simp [Op.equal, Op.maxDepth, h0 9999]
theorem idle_0 (args : Array Value) (w : World) : CallsD Tryd.prog 54 args .returning w fun e u' w' => (∃ v, e = .returned v) ∧ u' = .returning ∧ w' = w := by
  refine callsD_of_wpS (c := (bodyOf Tryd.prog 54)) Tryd.func54 (by kernel_rfl) fun c₀ cs hu => ?_
  rw [show Tryd.f54.ntmps = 20 by kernel_rfl]
  have hsz := sz_le args 20
  generalize args ++ Array.replicate (20 - args.size) undef = tm at hsz
  have hb : bodyOf Tryd.prog 54 = .seq (.region (ridOf (codeAt [0] (bodyOf Tryd.prog 54))) (opsOf (codeAt [0] (bodyOf Tryd.prog 54))) false) (.seq (.region (ridOf (codeAt [1, 0] (bodyOf Tryd.prog 54))) (opsOf (codeAt [1, 0] (bodyOf Tryd.prog 54))) false) (.cond (.tmp 8) (codeAt [1, 1, 0] (bodyOf Tryd.prog 54)) .skip)) := by kernel_rfl
  have hr : recoverD (c₀ :: cs) = none := by simp [recoverD, hu]
  have o0 : (opsOf (codeAt [0] (bodyOf Tryd.prog 54))).map (fun o => (o.dst, o.op, o.guard)) = #[(some 6, .call ⟨.builtin .recover, #[], #[]⟩, none), (some 3, .assign (.tmp 6), none)] := by kernel_rfl
  have o1 : (opsOf (codeAt [1, 0] (bodyOf Tryd.prog 54))).map (fun o => (o.dst, o.op, o.guard)) = #[(some 7, .move (.tmp 3), none), (some 8, .binOp .neq 20 (.tmp 7) (.const .nilIface) 20, none)] := by kernel_rfl
  rw [hb]
  generalize opsOf (codeAt [0] (bodyOf Tryd.prog 54)) = ops0 at o0 ⊢
  generalize opsOf (codeAt [1, 0] (bodyOf Tryd.prog 54)) = ops1 at o1 ⊢
  generalize codeAt [1, 1, 0] (bodyOf Tryd.prog 54) = c2
  have get : ∀ (ops : Array Oper) (l : Array (Option Nat × Op × Option (Nat × Bool))), ops.map (fun o => (o.dst, o.op, o.guard)) = l → ops.size = l.size ∧ ∀ (i : Nat) d p g, l[i]? = some (d, p, g) → ∃ o, ops[i]? = some o ∧ o.dst = d ∧ o.op = p ∧ o.guard = g := by
    intro ops l h
    subst h
    refine ⟨by simp, fun i d p g h => ?_⟩
    rw [Array.getElem?_map] at h
    cases ho : ops[i]? with
    | none => rw [ho] at h; cases h
    | some o => rw [ho] at h; simp at h; exact ⟨o, rfl, h⟩
  obtain ⟨s0, g0⟩ := get _ _ o0
  obtain ⟨s1, g1⟩ := get _ _ o1
  obtain ⟨x0, a0, b0, c0, d0⟩ := g0 0 _ _ _ rfl
  obtain ⟨x1, a1, b1, c1, d1⟩ := g0 1 _ _ _ rfl
  obtain ⟨y0, e0, f0, p0, q0⟩ := g1 0 _ _ _ rfl
  obtain ⟨y1, e1, f1, p1, q1⟩ := g1 1 _ _ _ rfl
  refine wpS_seq (wpS_region ?_)
  rw [s0]
  change wpOpsS _ _ _ [0, 1] _ _ _
  refine opsS_rec a0 d0 (by simp [execOp, c0, resolve, invoke, builtin]) hr ?_
  refine opsS_val (v := .nilIface) a1 d1 ?_ ?_
  · simp [execOp, c1, Act.eval, Act.put, b0, show 6 < tm.size by omega]
  rw [b0, b1]
  change Exit.thenS _ _ .normal _ _ _
  simp only [Exit.thenS]
  refine wpS_seq (wpS_region ?_)
  rw [s1]
  change wpOpsS _ _ _ [0, 1] _ _ _
  refine opsS_val (v := .nilIface) e0 q0 ?_ ?_
  · simp [execOp, p0, Act.eval, Act.put, show 3 < tm.size by omega]
  rw [f0]
  refine opsS_val (v := .bool false) e1 q1 ?_ ?_
  · simp [execOp, p1, Act.eval, Act.put, show 7 < tm.size by omega]
    simp [eqGuard, neq_nil]
  rw [f1]
  change Exit.thenS _ _ .normal _ _ _
  simp only [Exit.thenS]
  refine wpS_cond (t := false) (by simp [Act.eval, Act.put, show 8 < tm.size by omega]) ?_
  simp only [Bool.false_eq_true, if_false]
  refine wpS_of_wp (wp_skip ?_)
  refine ⟨rfl, .returning, by rw [← hu], .tuple #[], ?_, ⟨_, rfl⟩, rfl, rfl⟩
  simp [results, show Tryd.f54.results = #[] by kernel_rfl]
end Go.AM
set_option maxRecDepth 100000
set_option linter.unusedVariables false
namespace Go.AM
open Go.Proofs Go.RowKit
theorem setCell_heap {w : World} {b : Nat} {C : Array Value} {T : TypeId} (h : w.heap[b]? = some (.cells C T (0, 0))) : w.shape? b = some (T, C.size) ∧ w.frozen? ⟨b, 0, none⟩ = false ∧ w.cell? ⟨b, 0, none⟩ = C[0]? := by
  refine ⟨by simp [World.shape?, h], by simp [World.frozen?, h], cell?_cells h⟩
set_option maxHeartbeats 1000000 in
theorem copy_used (b : Nat) (w : World) (h0 : w.cell? ⟨b, 0, none⟩ = some (.pointer (some ⟨b, 0, none⟩))) :
    Calls Tryd.prog 65 #[.pointer (some ⟨b, 0, none⟩)] w fun e w' => e = .returned (.tuple #[]) ∧ w' = w := by
  obtain ⟨j, hj⟩ := Option.isSome_iff_exists.1 (show (Tryd.prog.info? 60).isSome = true by kernel_rfl)
  have hu : Tryd.prog.underlying 57 = some (.pointer 60) := by kernel_rfl
  go_enter Tryd.func65, Tryd.ntmps65
  go_wp2
  rw [Lib.run_neq_ptr_same w _ hu hj]
  go_wp2
  go_end0
  exact ⟨rfl, rfl⟩
set_option maxHeartbeats 1000000 in
theorem copy_fresh (b n : Nat) (w : World) (hn : 0 < n) (h0 : w.cell? ⟨b, 0, none⟩ = some (.pointer none)) (hsh : w.shape? b = some (60, n)) (hfz : w.frozen? ⟨b, 0, none⟩ = false) (hl : liesAt Tryd.prog Tryd.prog.depth 60 (n / Tryd.prog.cellsOf 60) 0 60 1 = true) :
    Calls Tryd.prog 65 #[.pointer (some ⟨b, 0, none⟩)] w fun e w' => e = .returned (.tuple #[]) ∧ w' = w.setCell ⟨b, 0, none⟩ (.pointer (some ⟨b, 0, none⟩)) := by
  obtain ⟨j, hj⟩ := Option.isSome_iff_exists.1 (show (Tryd.prog.info? 60).isSome = true by kernel_rfl)
  have hjs : j.size ≠ 0 := by
    have h2 : (Tryd.prog.info? 60).map (·.size) = some 2 := by kernel_rfl
    rw [hj] at h2
    simp at h2
    omega
  have hu : Tryd.prog.underlying 57 = some (.pointer 60) := by kernel_rfl
  have hu2 : Tryd.prog.underlying 89 = some .unsafePointer := by kernel_rfl
  go_enter Tryd.func65, Tryd.ntmps65
  go_wp2
  rw [Lib.run_to_unsafe w ⟨b, 0, none⟩ hu hu2 hj hjs hsh hn]
  simp only [Result.andThen]
  rw [Oper.upon_value]
  go_wp2
  rw [run_callFunc_extern Tryd.func70 (by kernel_rfl) (by kernel_rfl) (by kernel_rfl) (e := Extern.AbiNoEscape.same) (by kernel_rfl)]
  rw [Lib.run_noEscape]
  simp only [Result.andThen]
  rw [Oper.upon_value]
  go_wp2
  rw [Lib.run_from_unsafe w ⟨b, 0, none⟩ hu2 hu hj hsh hl]
  simp only [Result.andThen]
  rw [Oper.upon_value]
  go_wp2
  go_end0
  exact ⟨rfl, rfl⟩
theorem fineP (hP : NoCount Tryd.prog) : Fine Tryd.prog ann where
  count := hP
  cln := cln_ok hP
  ext := by
    intro f T h b C w hh hs hc
    have hf : f = 65 ∧ T = 60 := by
      have h1 : ann.ext f = bif Nat.beq f 65 then some 60 else none := by kernel_rfl
      rw [h1] at h
      cases hb : Nat.beq f 65 with
      | true => rw [hb] at h; rw [Nat.beq_eq] at hb; exact ⟨hb, (Option.some.inj h).symm⟩
      | false => rw [hb] at h; cases h
    obtain ⟨rfl, rfl⟩ := hf
    obtain ⟨h1, h2, h3⟩ := setCell_heap hh
    refine ⟨MuLone.run_callFunc_enter Tryd.func65 (hP _ _ Tryd.func65) (by kernel_rfl : Tryd.f65.body = some (bodyOf Tryd.prog 65)) _ _, ?_⟩
    have hc2 : Tryd.prog.cellsOf 60 = 2 := by kernel_rfl
    rcases hc with hc | hc
    · refine (copy_fresh b C.size w (by omega) (h3.trans hc) h1 h2 (by rw [hs, hc2]; kernel_rfl)).mono ?_
      rintro e w' ⟨rfl, rfl⟩
      exact ⟨rfl, .inr rfl⟩
    · refine (copy_used b w (h3.trans hc)).mono ?_
      rintro e w' ⟨rfl, rfl⟩
      exact ⟨rfl, .inl rfl⟩
  idle := by
    intro f h
    have hf : f = 54 := by
      have h1 : ann.idle f = Nat.beq f 54 := by kernel_rfl
      rw [h1, Nat.beq_eq] at h
      exact h
    subst hf
    exact ⟨MuLone.run_callFunc_enter Tryd.func54 (hP _ _ Tryd.func54) (by kernel_rfl : Tryd.f54.body = some (bodyOf Tryd.prog 54)), idle_0⟩
end Go.AM
set_option maxRecDepth 100000
namespace Go.AM
open Go.Proofs Go.Proofs.YtcgkkhgapeiabaaDoor Go.Lib Go.MakeChecks
def tabNums : List Int := [0, 1, 56, 2, 57, 49, 28, 3, 61, 58, 42, 50, 38, 29, 17, 4, 62, 47, 59, 36, 45, 43, 51, 22, 53, 39, 33, 30, 24, 18, 12, 5, 63, 55, 48, 27, 60, 41, 37, 16, 46, 35, 44, 21, 52, 32, 23, 11, 54, 26, 40, 15, 34, 20, 31, 10, 25, 14, 19, 9, 13, 8, 7, 6]
theorem tab_nums : tab_0 = tabNums.map fun z => .int .u8 z := by kernel_rfl
theorem laid_nums : Rows.laid_math_bits_deBruijn64tab (H := Unit) = tabData .u8 tabNums := by kernel_rfl
def laid1 : List (String × DataW Unit) := [("math/bits.deBruijn64tab", Rows.laid_math_bits_deBruijn64tab)]
theorem globOk {W : World} (h : laidMetH Tryd.prog laid1 W) : GlobOk Tryd.prog ann.glob W (allOf W) := by
  have h1 : laidMetH Tryd.prog [("math/bits.deBruijn64tab", tabData .u8 tabNums)] W := by
    have : laid1 = [("math/bits.deBruijn64tab", tabData .u8 tabNums)] := by unfold laid1; rw [laid_nums]
    rwa [this] at h
  rw [laidMetH_plain _ _ _ (by kernel_rfl)] at h1
  have hn : Tryd.prog.globalNamed "math/bits.deBruijn64tab" = some 0 := by kernel_rfl
  have ht := tabIs_of_head (g := 0) (t := 82) (e := 5) (n := 64) hn (by kernel_rfl) (by kernel_rfl) (by kernel_rfl) (by kernel_rfl) (by kernel_rfl) h1
  have hlen : tabNums.length = 64 := by kernel_rfl
  have hc : ∀ i, i < 64 → W.cell? ⟨0, i, none⟩ = some (.int .u8 (tabNums.getD i 0)) := fun i hi => ht.cell hn i (by rw [hlen]; exact hi)
  intro g
  have hg : ann.glob g = bif Nat.beq g 0 then .pref (List.replicate 64 5) tab_0 else .undef := by kernel_rfl
  rw [hg]
  cases hb : Nat.beq g 0 with
  | false => exact .inl rfl
  | true =>
    rw [Nat.beq_eq] at hb
    subst hb
    refine .inr ⟨List.replicate 64 5, tab_0, rfl, by kernel_rfl, fun _ => ?_, fun j t x hj hx => ?_⟩
    · have h0 := hc 0 (by omega)
      unfold allOf
      unfold World.cell? at h0
      by_cases hz : 0 < W.heap.size
      · exact hz
      · have : W.heap[0]? = none := Array.getElem?_eq_none (by omega)
        simp [this] at h0
    · have hj64 : j < 64 := by
        have := (List.getElem?_eq_some_iff.1 hj).1
        simpa using this
      rw [List.getElem?_replicate, if_pos hj64] at hj
      cases hj
      rw [tab_nums, List.getElem?_map] at hx
      have hx2 : tabNums[j]? = some (tabNums.getD j 0) := by
        rw [List.getElem?_eq_getElem (by rw [hlen]; exact hj64)]
        simp [List.getD, List.getElem?_eq_getElem (show j < tabNums.length by rw [hlen]; exact hj64)]
      rw [hx2] at hx
      cases hx
      exact ⟨_, by simpa using hc j hj64, .int (by kernel_rfl)⟩
theorem own : ownKnob Tryd.prog.godebug = none := by kernel_rfl
theorem noCount : NoCount Tryd.prog := noCount_of (by kernel_rfl)
theorem mixed : Tryd.prog.follows .mixedOrders = true := by kernel_rfl
theorem fine : Fine Tryd.prog ann := fineP noCount
noncomputable def laidWorld (os : Os) : World := World.laidAll Tryd.prog os laid1
theorem laidWorld_met (os : Os) (args : Array Value) : laidMetH Tryd.prog laid1 ((laidWorld os).forCall (fun _ _ => 0) ⟨#[], args, []⟩).memory := by
  rw [laidMetH_plain _ _ _ (by kernel_rfl)]
  exact laidMet_laidAll args (by kernel_rfl) (by kernel_rfl)
end Go.AM
namespace Go.AM
theorem wrap_u64 (n : Int) : IntKind.u64.wrap n = n % 18446744073709551616 := by simp [IntKind.wrap, IntKind.bits, IntKind.signed]
theorem wrapu64 {A : Nat} (h : A < 2 ^ 64) : IntKind.wrap .u64 (A : Int) = A := by
  rw [wrap_u64]; omega
theorem bv_toNat {n A : Nat} (h : A < 2 ^ n) : (BitVec.ofInt n (A : Int)).toNat = A := by
  rw [BitVec.ofInt_natCast, BitVec.toNat_ofNat]; exact Nat.mod_eq_of_lt h
theorem bv_or {n A B : Nat} (hA : A < 2 ^ n) (hB : B < 2 ^ n) : (BitVec.ofInt n (A : Int) ||| BitVec.ofInt n (B : Int)).toNat = A ||| B := by
  rw [BitVec.toNat_or, bv_toNat hA, bv_toNat hB]
theorem bv_and {n A B : Nat} (hA : A < 2 ^ n) (hB : B < 2 ^ n) : (BitVec.ofInt n (A : Int) &&& BitVec.ofInt n (B : Int)).toNat = A &&& B := by
  rw [BitVec.toNat_and, bv_toNat hA, bv_toNat hB]
theorem u64_or {A B : Nat} (hA : A < 2 ^ 64) (hB : B < 2 ^ 64) : IntKind.wrap .u64 ((BitVec.ofInt (IntKind.bits .u64) (A : Int) ||| BitVec.ofInt (IntKind.bits .u64) (B : Int)).toNat) = ((A ||| B : Nat) : Int) := by
  rw [bv_or (n := IntKind.bits .u64) hA hB]
  exact wrapu64 (Nat.or_lt_two_pow hA hB)
theorem u64_and {A B : Nat} (hA : A < 2 ^ 64) (hB : B < 2 ^ 64) : IntKind.wrap .u64 ((BitVec.ofInt (IntKind.bits .u64) (A : Int) &&& BitVec.ofInt (IntKind.bits .u64) (B : Int)).toNat) = ((A &&& B : Nat) : Int) := by
  rw [bv_and (n := IntKind.bits .u64) hA hB]
  exact wrapu64 (Nat.lt_of_le_of_lt Nat.and_le_left hA)
theorem u64_bit {m : Nat} (h : m < 64) : IntKind.wrap .u64 (1 * 2 ^ (min m (IntKind.bits .u64))) = ((2 ^ m : Nat) : Int) := by
  have e : min m (IntKind.bits .u64) = m := Nat.min_eq_left (by show m ≤ 64; omega)
  rw [e]
  have : (1 * 2 ^ m : Int) = ((2 ^ m : Nat) : Int) := by simp
  rw [this]
  exact wrapu64 (Nat.pow_lt_pow_right (by omega) h)
theorem u64_shr {A m : Nat} (h : m < 64) : Int.fdiv (A : Int) (2 ^ (min m (IntKind.bits .u64))) = ((A / 2 ^ m : Nat) : Int) := by
  have e : min m (IntKind.bits .u64) = m := Nat.min_eq_left (by show m ≤ 64; omega)
  rw [e]
  have : (2 ^ m : Int) = ((2 ^ m : Nat) : Int) := by simp
  rw [this, Int.fdiv_eq_ediv_of_nonneg _ (Int.natCast_nonneg _)]
  exact Int.natCast_ediv ..
theorem u64_has {A m : Nat} (hA : A < 2 ^ 64) (h : m < 64) :
    (IntKind.wrap .u64 ((BitVec.ofInt (IntKind.bits .u64) (Int.fdiv (A : Int) (2 ^ (min m (IntKind.bits .u64)))) &&& BitVec.ofInt (IntKind.bits .u64) 1).toNat) == 1) = A.testBit m := by
  rw [u64_shr h]
  have := u64_and (A := A / 2 ^ m) (B := 1) (Nat.lt_of_le_of_lt (Nat.div_le_self _ _) hA) (by omega)
  rw [show ((1 : Nat) : Int) = 1 from rfl] at this
  rw [this]
  rw [Nat.and_one_is_mod, Nat.testBit_eq_decide_div_mod_eq]
  by_cases hb : A / 2 ^ m % 2 = 1
  · simp [hb]
  · have : A / 2 ^ m % 2 = 0 := by omega
    simp [this]
end Go.AM
set_option maxRecDepth 100000
set_option linter.unusedSimpArgs false
namespace Go.AM
open Go.Proofs
theorem maxLen_le : maxLen ≤ 9223372036854775807 := by unfold maxLen; omega
theorem maxB : maxBytes = 35184372088832 := by unfold maxBytes; rfl
section
variable {X R A α : Type} {step : X → Option (X ⊕ R)}
theorem Loop_all (good : Nat → Prop) [DecidablePred good] (n : Nat) (s : Nat → X) (bad ok : R) (h : ∀ i, i < n → step (s i) = some (if good i then .inl (s (i + 1)) else .inr bad)) (he : step (s n) = some (.inr ok)) :
    Loop step (s 0) = some (if ∀ i, i < n → good i then ok else bad) := by
  have go : ∀ (d k : Nat), k + d = n → ((∀ i, k ≤ i → i < n → good i) → Loop step (s k) = some ok) ∧ ((¬ ∀ i, k ≤ i → i < n → good i) → Loop step (s k) = some bad) := by
    intro d
    induction d with
    | zero =>
      intro k hk
      have : k = n := by omega
      subst this
      exact ⟨fun _ => Loop_end he, fun hx => absurd (fun i h1 h2 => by omega) hx⟩
    | succ d ih =>
      intro k hk
      have h1 := h k (by omega)
      by_cases hg : good k
      · rw [if_pos hg] at h1
        rw [Loop_norm h1]
        obtain ⟨i1, i2⟩ := ih (k + 1) (by omega)
        refine ⟨fun ha => i1 fun i h1 h2 => ha i (by omega) h2, fun ha => i2 fun hx => ha fun i h1 h2 => ?_⟩
        by_cases hi : i = k
        · rw [hi]; exact hg
        · exact hx i (by omega) h2
      · rw [if_neg hg] at h1
        rw [Loop_end h1]
        exact ⟨fun ha => absurd (ha k (Nat.le_refl _) (by omega)) hg, fun _ => rfl⟩
  obtain ⟨g1, g2⟩ := go n 0 (by omega)
  by_cases ha : ∀ i, i < n → good i
  · rw [if_pos ha]; exact g1 fun i _ h => ha i h
  · rw [if_neg ha]; exact g2 fun hx => ha fun i h => hx i (by omega) h
end
end Go.AM
set_option maxRecDepth 100000
namespace Go.AM
open Go.Proofs
inductive Ex where
  | node (op letter : Int) (kids : List Ex)
namespace Ex
def op : Ex → Int | .node o _ _ => o
def letter : Ex → Int | .node _ l _ => l
def kids : Ex → List Ex | .node _ _ ks => ks
theorem ind {p : Ex → Prop} (h : ∀ o l ks, (∀ k ∈ ks, p k) → p (.node o l ks)) : ∀ e, p e
  | .node o l ks => h o l ks fun k hk => ind h k
termination_by e => SizeOf.sizeOf e
decreasing_by
  have := List.sizeOf_lt_of_mem hk
  simp
  omega
mutual
def enc : Ex → V
  | .node o l ks => .agg [.int .i64 o, .int .i64 l, .list T_api_Expr (encs ks)]
def encs : List Ex → List V
  | [] => []
  | k :: ks => enc k :: encs ks
end
theorem encs_map : ∀ ks, encs ks = ks.map enc
  | [] => by simp only [encs, List.map_nil]
  | k :: ks => by simp only [encs, List.map_cons, encs_map ks]
theorem enc_eq (e : Ex) : e.enc = .agg [.int .i64 e.op, .int .i64 e.letter, .list T_api_Expr (e.kids.map enc)] := by
  cases e; simp only [enc, op, letter, kids, encs_map]
mutual
def size : Ex → Nat
  | .node _ _ ks => 1 + sizes ks
def sizes : List Ex → Nat
  | [] => 0
  | k :: ks => size k + sizes ks
end
mutual
def depth : Ex → Nat
  | .node _ _ ks => 1 + depths ks
def depths : List Ex → Nat
  | [] => 0
  | k :: ks => max (depth k) (depths ks)
end
theorem size_pos : ∀ e : Ex, 0 < e.size
  | .node _ _ ks => by simp only [size]; omega
theorem depth_le_size : ∀ e : Ex, e.depth ≤ e.size := ind fun o l ks ih => by
  have : ∀ ks : List Ex, (∀ k ∈ ks, k.depth ≤ k.size) → depths ks ≤ sizes ks := by
    intro ks
    induction ks with
    | nil => intro _; simp only [depths, sizes]; omega
    | cons k ks ih =>
      intro h
      have h1 := h k (by simp)
      have h2 := ih fun k hk => h k (by simp [hk])
      simp only [depths, sizes]; omega
  have := this ks ih
  simp only [depth, size]; omega
inductive Ok : Ex → Prop
  | node {o l : Int} {ks : List Ex} : (-9223372036854775808 ≤ o ∧ o ≤ 9223372036854775807) → (-9223372036854775808 ≤ l ∧ l ≤ 9223372036854775807) → ks.length ≤ maxLen → (∀ k ∈ ks, Ok k) → Ok (.node o l ks)
theorem Ok.kid {o l : Int} {ks : List Ex} (h : Ok (.node o l ks)) : ∀ k ∈ ks, Ok k := by cases h; assumption
theorem Ok.len {o l : Int} {ks : List Ex} (h : Ok (.node o l ks)) : ks.length ≤ maxLen := by cases h; assumption
end Ex
open Ex
abbrev exA (e : Ex) (l : List V) : List V := .int .i64 e.op :: .int .i64 e.letter :: .list T_api_Expr (e.kids.map enc) :: l
theorem wt_ex : ∀ (n : Nat) (x : V), SizeOf.sizeOf x < n → WTv PG T_api_Expr x → ∃ e : Ex, x = e.enc ∧ e.Ok
  | 0, x, h, _ => by omega
  | n + 1, x, h, hw => by
    obtain ⟨xs, rfl, hl, hx⟩ := hw.agg_inv (by kernel_rfl)
    have e1 : etys PG T_api_Expr = [T_int, T_int, T_l_api_Expr] := by kernel_rfl
    rw [e1] at hl hx
    match xs, hl, hx, h with
    | [a, b, c], _, hx, h =>
      obtain ⟨o, rfl, ho⟩ := (hx 0 T_int a rfl rfl).int_inv (k := .i64) (by kernel_rfl)
      obtain ⟨l, rfl, hl⟩ := (hx 1 T_int b rfl rfl).int_inv (k := .i64) (by kernel_rfl)
      obtain ⟨es, rfl, he, hes⟩ := (hx 2 T_l_api_Expr c rfl rfl).list_inv (e := T_api_Expr) (by kernel_rfl)
      have : ∃ ks : List Ex, es = ks.map enc ∧ ∀ k ∈ ks, k.Ok := map_of_forallP fun y hy => wt_ex n y (by
        have := List.sizeOf_lt_of_mem hy
        simp at h
        omega) (hes y hy)
      obtain ⟨ks, rfl, hks⟩ := this
      refine ⟨.node o l ks, by rw [enc_eq]; rfl, .node ?_ ?_ (by simpa using he) hks⟩
      · exact ho
      · exact hl
end Go.AM
set_option maxRecDepth 100000
namespace Go.AM
open Go.Proofs
noncomputable def f_expr_Validate (C : CallF) (e_0 e_1 : Int) (e_2 : List V) (letters : Int) : Option (List V) :=
  bif decide ((letters : Int) < 1) then
   some [.int .i64 1]
  else
   bif decide ((letters : Int) > 6) then
    some [.int .i64 1]
   else
    (C F_expr_withinLimits [.int .i64 e_0, .int .i64 e_1, .list T_api_Expr e_2]).bind fun r1 =>
    bif !((V.nth r1 0).toBool) then
     some [.int .i64 3]
    else
     (C F_expr_wellFormed [.int .i64 e_0, .int .i64 e_1, .list T_api_Expr e_2, .int .i64 letters]).bind fun r2 =>
     bif !((V.nth r2 0).toBool) then
      some [.int .i64 4]
     else
      some [.int .i64 0]
theorem f_expr_Validate_of {e_0 e_1 : Int} {e_2 : List V} {letters : Int} {r : Option (List V)} (h : f_expr_Validate CC e_0 e_1 e_2 letters = r) : CC F_expr_Validate [.int .i64 e_0, .int .i64 e_1, .list T_api_Expr e_2, .int .i64 letters] = r :=
  func_of (key := 28) (L := LT0) (bs := []) (by kernel_rfl) tells_nil (Eq.trans (by kernel_rfl) h)
end Go.AM
set_option maxRecDepth 100000
namespace Go.AM
open Go.Proofs
noncomputable def f_expr_withinLimits (C : CallF) (e_0 e_1 : Int) (e_2 : List V) : Option (List V) :=
  (C F_expr_fits [.int .i64 e_0, .int .i64 e_1, .list T_api_Expr e_2, .int .i64 40, .int .i64 400]).bind fun r1 =>
  some [.bool ((V.nth r1 0).toBool)]
theorem f_expr_withinLimits_of {e_0 e_1 : Int} {e_2 : List V} {r : Option (List V)} (h : f_expr_withinLimits CC e_0 e_1 e_2 = r) : CC F_expr_withinLimits [.int .i64 e_0, .int .i64 e_1, .list T_api_Expr e_2] = r :=
  func_of (key := 38) (L := LT0) (bs := []) (by kernel_rfl) tells_nil (Eq.trans (by kernel_rfl) h)
end Go.AM
set_option maxRecDepth 100000
namespace Go.AM
open Go.Proofs
noncomputable abbrev B_expr_fits : Code := bodyOf Tryd.prog (ann.fid 58)
noncomputable def s_expr_fits_1 (C : CallF) (depth : Int) (t23 : List V) (t24 t25 lefts : Int) {β : Type} (kn : (Int × Int) → Option β) (kr : ((Bool × Int) ⊕ (Int × Bool × Int)) → Option β) : Option β :=
  bif decide ((t25 : Int) < t24) then
   (idx t23 t25).bind fun x1 =>
   (C F_expr_fits [.int .i64 ((x1.cell 0).toInt), .int .i64 ((x1.cell 1).toInt), .list T_api_Expr ((x1.cell 2).toList), .int .i64 (IntKind.wrap .i64 (depth - 1)), .int .i64 lefts]).bind fun r2 =>
   bif !((V.nth r2 0).toBool) then
    kr (.inl (false, (V.nth (r2.drop 1) 0).toInt))
   else
    kn (IntKind.wrap .i64 (t25 + 1), (V.nth (r2.drop 1) 0).toInt)
  else
   kr (.inr (t25, decide ((t25 : Int) < t24), lefts))
noncomputable def s_expr_fits_1L (C : CallF) (depth : Int) (t23 : List V) (t24 : Int) : (Int × Int) → Option ((Int × Int) ⊕ ((Bool × Int) ⊕ (Int × Bool × Int))) := un fun t25 lefts => s_expr_fits_1 C depth t23 t24 t25 lefts (fun y => some (.inl y)) (fun r => some (.inr r))
noncomputable def LT_expr_fits (C : CallF) : LTab := fun β n ds k =>
  bif Nat.beq n 81 then loopS S58_81 [false, false, false, true, true] [[0, 0], [1, 2, 3, 0, 0, 0]] (@s_expr_fits_1 C) ds k else
  none
abbrev TS_expr_fits (C : CallF) (b : Bar) : Prop := Tells Tryd.prog ann C (LT_expr_fits C) 58 (ntmpsOf Tryd.prog (ann.fid 58)) (ann.sin 58).blks.length b
theorem t_expr_fits_1 (C : CallF) : TS_expr_fits C (.loop (codeAt [1, 1, 1, 0, 1, 0, 0] B_expr_fits)) :=
  tl3 S58_81 [false, false, false, true, true] [[0, 0], [1, 2, 3, 0, 0, 0]] (@s_expr_fits_1 C) (by kernel_rfl) (ltok_of (bs := []) (by kernel_rfl) tells_nil) (fun ds => by kernel_rfl) (fun i x => by kernel_rfl) (fun i x β k => by kernel_rfl) (fun β ds k => by kernel_rfl)
noncomputable def f_expr_fits (C : CallF) (e_0 e_1 : Int) (e_2 : List V) (depth lefts : Int) : Option (List V) :=
  bif (depth : Int) == 0 then
   some [.bool false, .int .i64 lefts]
  else
   bif (lefts : Int) == 0 then
    some [.bool false, .int .i64 lefts]
   else
    (Loop (s_expr_fits_1L C depth e_2 (e_2.length : Int)) (0, IntKind.wrap .i64 (lefts - 1))).bind (way2 (un fun (t_3 : Bool) (b_4 : Int) =>
      some [.bool t_3, .int .i64 b_4]) (un fun (t_5 : Int) => un fun (t_6 : Bool) (lefts_7 : Int) =>
      some [.bool true, .int .i64 lefts_7]))
theorem f_expr_fits_of {e_0 e_1 : Int} {e_2 : List V} {depth lefts : Int} {r : Option (List V)} (h : f_expr_fits CC e_0 e_1 e_2 depth lefts = r) : CC F_expr_fits [.int .i64 e_0, .int .i64 e_1, .list T_api_Expr e_2, .int .i64 depth, .int .i64 lefts] = r :=
  func_of (key := 58) (L := LT_expr_fits CC) (bs := [.loop (codeAt [1, 1, 1, 0, 1, 0, 0] B_expr_fits)]) (by kernel_rfl) (tells_cons (t_expr_fits_1 CC) tells_nil) (Eq.trans (by kernel_rfl) h)
end Go.AM
set_option maxRecDepth 100000
namespace Go.AM
open Go.Proofs
noncomputable abbrev B_expr_wellFormed : Code := bodyOf Tryd.prog (ann.fid 43)
noncomputable def s_expr_wellFormed_1 (C : CallF) (letters : Int) (t53 : List V) (t54 t55 : Int) {β : Type} (kn : Int → Option β) (kr : ((Bool) ⊕ (Int × Bool)) → Option β) : Option β :=
  bif decide ((t55 : Int) < t54) then
   (idx t53 t55).bind fun x1 =>
   (C F_expr_wellFormed [.int .i64 ((x1.cell 0).toInt), .int .i64 ((x1.cell 1).toInt), .list T_api_Expr ((x1.cell 2).toList), .int .i64 letters]).bind fun r2 =>
   bif !((V.nth r2 0).toBool) then
    kr (.inl false)
   else
    kn (IntKind.wrap .i64 (t55 + 1))
  else
   kr (.inr (t55, decide ((t55 : Int) < t54)))
noncomputable def s_expr_wellFormed_1L (C : CallF) (letters : Int) (t53 : List V) (t54 : Int) : (Int) → Option ((Int) ⊕ ((Bool) ⊕ (Int × Bool))) := fun t55 => s_expr_wellFormed_1 C letters t53 t54 t55 (fun y => some (.inl y)) (fun r => some (.inr r))
noncomputable def LT_expr_wellFormed (C : CallF) : LTab := fun β n ds k =>
  bif Nat.beq n 321 then loopS S43_321 [false, false, false, true] [[0], [1, 2, 3, 0, 0]] (@s_expr_wellFormed_1 C) ds k else
  none
abbrev TS_expr_wellFormed (C : CallF) (b : Bar) : Prop := Tells Tryd.prog ann C (LT_expr_wellFormed C) 43 (ntmpsOf Tryd.prog (ann.fid 43)) (ann.sin 43).blks.length b
theorem t_expr_wellFormed_1 (C : CallF) : TS_expr_wellFormed C (.loop (codeAt [1, 1, 1, 1, 0, 1, 0, 0] B_expr_wellFormed)) :=
  tl3 S43_321 [false, false, false, true] [[0], [1, 2, 3, 0, 0]] (@s_expr_wellFormed_1 C) (by kernel_rfl) (ltok_of (bs := []) (by kernel_rfl) tells_nil) (fun ds => by kernel_rfl) (fun i x => by kernel_rfl) (fun i x β k => by kernel_rfl) (fun β ds k => by kernel_rfl)
noncomputable def f_expr_wellFormed (C : CallF) (e_0 e_1 : Int) (e_2 : List V) (letters : Int) : Option (List V) :=
  bif (e_0 : Int) == 3 then
   bif ((e_2.length : Int) : Int) == 0 then
    bif decide ((e_1 : Int) ≥ 0) then
     some [.bool (decide ((e_1 : Int) < letters))]
    else
     some [.bool false]
   else
    some [.bool false]
  else
   bif (e_1 : Int) != 0 then
    some [.bool false]
   else
    bif (e_0 : Int) == 1 then
     bif (e_0 : Int) == 1 then
      some [.bool (((e_2.length : Int) : Int) == 0)]
     else
      bif (e_0 : Int) == 4 then
       bif (e_0 : Int) == 4 then
        bif decide (((e_2.length : Int) : Int) < 2) then
         some [.bool false]
        else
         (Loop (s_expr_wellFormed_1L C letters e_2 (e_2.length : Int)) 0).bind (way2 (fun (t_3 : Bool) =>
           some [.bool t_3]) (un fun (t_4 : Int) (t_5 : Bool) =>
           some [.bool true]))
       else
        bif (e_0 : Int) == 7 then
         bif (e_0 : Int) == 7 then
          bif ((e_2.length : Int) : Int) != 1 then
           some [.bool false]
          else
           (Loop (s_expr_wellFormed_1L C letters e_2 (e_2.length : Int)) 0).bind (way2 (fun (t_6 : Bool) =>
             some [.bool t_6]) (un fun (t_7 : Int) (t_8 : Bool) =>
             some [.bool true]))
         else
          some [.bool false]
        else
         bif (e_0 : Int) == 8 then
          bif ((e_2.length : Int) : Int) != 1 then
           some [.bool false]
          else
           (Loop (s_expr_wellFormed_1L C letters e_2 (e_2.length : Int)) 0).bind (way2 (fun (t_9 : Bool) =>
             some [.bool t_9]) (un fun (t_10 : Int) (t_11 : Bool) =>
             some [.bool true]))
         else
          some [.bool false]
      else
       bif (e_0 : Int) == 5 then
        bif (e_0 : Int) == 5 then
         bif decide (((e_2.length : Int) : Int) < 2) then
          some [.bool false]
         else
          (Loop (s_expr_wellFormed_1L C letters e_2 (e_2.length : Int)) 0).bind (way2 (fun (t_12 : Bool) =>
            some [.bool t_12]) (un fun (t_13 : Int) (t_14 : Bool) =>
            some [.bool true]))
        else
         bif (e_0 : Int) == 7 then
          bif (e_0 : Int) == 7 then
           bif ((e_2.length : Int) : Int) != 1 then
            some [.bool false]
           else
            (Loop (s_expr_wellFormed_1L C letters e_2 (e_2.length : Int)) 0).bind (way2 (fun (t_15 : Bool) =>
              some [.bool t_15]) (un fun (t_16 : Int) (t_17 : Bool) =>
              some [.bool true]))
          else
           some [.bool false]
         else
          bif (e_0 : Int) == 8 then
           bif ((e_2.length : Int) : Int) != 1 then
            some [.bool false]
           else
            (Loop (s_expr_wellFormed_1L C letters e_2 (e_2.length : Int)) 0).bind (way2 (fun (t_18 : Bool) =>
              some [.bool t_18]) (un fun (t_19 : Int) (t_20 : Bool) =>
              some [.bool true]))
          else
           some [.bool false]
       else
        bif (e_0 : Int) == 6 then
         bif decide (((e_2.length : Int) : Int) < 2) then
          some [.bool false]
         else
          (Loop (s_expr_wellFormed_1L C letters e_2 (e_2.length : Int)) 0).bind (way2 (fun (t_21 : Bool) =>
            some [.bool t_21]) (un fun (t_22 : Int) (t_23 : Bool) =>
            some [.bool true]))
        else
         bif (e_0 : Int) == 7 then
          bif (e_0 : Int) == 7 then
           bif ((e_2.length : Int) : Int) != 1 then
            some [.bool false]
           else
            (Loop (s_expr_wellFormed_1L C letters e_2 (e_2.length : Int)) 0).bind (way2 (fun (t_24 : Bool) =>
              some [.bool t_24]) (un fun (t_25 : Int) (t_26 : Bool) =>
              some [.bool true]))
          else
           some [.bool false]
         else
          bif (e_0 : Int) == 8 then
           bif ((e_2.length : Int) : Int) != 1 then
            some [.bool false]
           else
            (Loop (s_expr_wellFormed_1L C letters e_2 (e_2.length : Int)) 0).bind (way2 (fun (t_27 : Bool) =>
              some [.bool t_27]) (un fun (t_28 : Int) (t_29 : Bool) =>
              some [.bool true]))
          else
           some [.bool false]
    else
     bif (e_0 : Int) == 2 then
      some [.bool (((e_2.length : Int) : Int) == 0)]
     else
      bif (e_0 : Int) == 4 then
       bif (e_0 : Int) == 4 then
        bif decide (((e_2.length : Int) : Int) < 2) then
         some [.bool false]
        else
         (Loop (s_expr_wellFormed_1L C letters e_2 (e_2.length : Int)) 0).bind (way2 (fun (t_30 : Bool) =>
           some [.bool t_30]) (un fun (t_31 : Int) (t_32 : Bool) =>
           some [.bool true]))
       else
        bif (e_0 : Int) == 7 then
         bif (e_0 : Int) == 7 then
          bif ((e_2.length : Int) : Int) != 1 then
           some [.bool false]
          else
           (Loop (s_expr_wellFormed_1L C letters e_2 (e_2.length : Int)) 0).bind (way2 (fun (t_33 : Bool) =>
             some [.bool t_33]) (un fun (t_34 : Int) (t_35 : Bool) =>
             some [.bool true]))
         else
          some [.bool false]
        else
         bif (e_0 : Int) == 8 then
          bif ((e_2.length : Int) : Int) != 1 then
           some [.bool false]
          else
           (Loop (s_expr_wellFormed_1L C letters e_2 (e_2.length : Int)) 0).bind (way2 (fun (t_36 : Bool) =>
             some [.bool t_36]) (un fun (t_37 : Int) (t_38 : Bool) =>
             some [.bool true]))
         else
          some [.bool false]
      else
       bif (e_0 : Int) == 5 then
        bif (e_0 : Int) == 5 then
         bif decide (((e_2.length : Int) : Int) < 2) then
          some [.bool false]
         else
          (Loop (s_expr_wellFormed_1L C letters e_2 (e_2.length : Int)) 0).bind (way2 (fun (t_39 : Bool) =>
            some [.bool t_39]) (un fun (t_40 : Int) (t_41 : Bool) =>
            some [.bool true]))
        else
         bif (e_0 : Int) == 7 then
          bif (e_0 : Int) == 7 then
           bif ((e_2.length : Int) : Int) != 1 then
            some [.bool false]
           else
            (Loop (s_expr_wellFormed_1L C letters e_2 (e_2.length : Int)) 0).bind (way2 (fun (t_42 : Bool) =>
              some [.bool t_42]) (un fun (t_43 : Int) (t_44 : Bool) =>
              some [.bool true]))
          else
           some [.bool false]
         else
          bif (e_0 : Int) == 8 then
           bif ((e_2.length : Int) : Int) != 1 then
            some [.bool false]
           else
            (Loop (s_expr_wellFormed_1L C letters e_2 (e_2.length : Int)) 0).bind (way2 (fun (t_45 : Bool) =>
              some [.bool t_45]) (un fun (t_46 : Int) (t_47 : Bool) =>
              some [.bool true]))
          else
           some [.bool false]
       else
        bif (e_0 : Int) == 6 then
         bif decide (((e_2.length : Int) : Int) < 2) then
          some [.bool false]
         else
          (Loop (s_expr_wellFormed_1L C letters e_2 (e_2.length : Int)) 0).bind (way2 (fun (t_48 : Bool) =>
            some [.bool t_48]) (un fun (t_49 : Int) (t_50 : Bool) =>
            some [.bool true]))
        else
         bif (e_0 : Int) == 7 then
          bif (e_0 : Int) == 7 then
           bif ((e_2.length : Int) : Int) != 1 then
            some [.bool false]
           else
            (Loop (s_expr_wellFormed_1L C letters e_2 (e_2.length : Int)) 0).bind (way2 (fun (t_51 : Bool) =>
              some [.bool t_51]) (un fun (t_52 : Int) (t_53 : Bool) =>
              some [.bool true]))
          else
           some [.bool false]
         else
          bif (e_0 : Int) == 8 then
           bif ((e_2.length : Int) : Int) != 1 then
            some [.bool false]
           else
            (Loop (s_expr_wellFormed_1L C letters e_2 (e_2.length : Int)) 0).bind (way2 (fun (t_54 : Bool) =>
              some [.bool t_54]) (un fun (t_55 : Int) (t_56 : Bool) =>
              some [.bool true]))
          else
           some [.bool false]
theorem f_expr_wellFormed_of {e_0 e_1 : Int} {e_2 : List V} {letters : Int} {r : Option (List V)} (h : f_expr_wellFormed CC e_0 e_1 e_2 letters = r) : CC F_expr_wellFormed [.int .i64 e_0, .int .i64 e_1, .list T_api_Expr e_2, .int .i64 letters] = r :=
  func_of (key := 43) (L := LT_expr_wellFormed CC) (bs := [.loop (codeAt [1, 1, 1, 1, 0, 1, 0, 0] B_expr_wellFormed)]) (by kernel_rfl) (tells_cons (t_expr_wellFormed_1 CC) tells_nil) (Eq.trans (by kernel_rfl) h)
end Go.AM
set_option maxRecDepth 100000
namespace Go.AM
open Go.Proofs
noncomputable def f_semigroupref04_Validate (C : CallF) (e_0 e_1 : Int) (e_2 : List V) (letters : Int) : Option (List V) :=
  (C F_semigroupref01_MayLetters [.int .i64 letters]).bind fun r1 =>
  bif !((V.nth r1 0).toBool) then
   some [.int .i64 1]
  else
   (C F_semigroupref04_Within [.int .i64 e_0, .int .i64 e_1, .list T_api_Expr e_2]).bind fun r2 =>
   bif !((V.nth r2 0).toBool) then
    some [.int .i64 3]
   else
    (C F_semigroupref04_shaped [.int .i64 e_0, .int .i64 e_1, .list T_api_Expr e_2, .int .i64 letters]).bind fun r3 =>
    bif !((V.nth r3 0).toBool) then
     some [.int .i64 4]
    else
     some [.int .i64 0]
theorem f_semigroupref04_Validate_of {e_0 e_1 : Int} {e_2 : List V} {letters : Int} {r : Option (List V)} (h : f_semigroupref04_Validate CC e_0 e_1 e_2 letters = r) : CC F_semigroupref04_Validate [.int .i64 e_0, .int .i64 e_1, .list T_api_Expr e_2, .int .i64 letters] = r :=
  func_of (key := 20) (L := LT0) (bs := []) (by kernel_rfl) tells_nil (Eq.trans (by kernel_rfl) h)
end Go.AM
set_option maxRecDepth 100000
namespace Go.AM
open Go.Proofs
noncomputable def f_semigroupref04_Within (C : CallF) (e_0 e_1 : Int) (e_2 : List V) : Option (List V) :=
  (C F_semigroupref04_measure [.int .i64 e_0, .int .i64 e_1, .list T_api_Expr e_2, .int .i64 400]).bind fun r1 =>
  bif decide ((((V.nth r1 0).toInt) : Int) ≤ 400) then
   some [.bool (decide ((((V.nth (r1.drop 1) 0).toInt) : Int) ≤ 40))]
  else
   some [.bool false]
theorem f_semigroupref04_Within_of {e_0 e_1 : Int} {e_2 : List V} {r : Option (List V)} (h : f_semigroupref04_Within CC e_0 e_1 e_2 = r) : CC F_semigroupref04_Within [.int .i64 e_0, .int .i64 e_1, .list T_api_Expr e_2] = r :=
  func_of (key := 35) (L := LT0) (bs := []) (by kernel_rfl) tells_nil (Eq.trans (by kernel_rfl) h)
end Go.AM
set_option maxRecDepth 100000
namespace Go.AM
open Go.Proofs
noncomputable abbrev B_semigroupref04_measure : Code := bodyOf Tryd.prog (ann.fid 26)
noncomputable def s_semigroupref04_measure_1 (C : CallF) (most es_0 es_1 : Int) (es_2 : List V) (n deep i : Int) {β : Type} (kn : (Int × Int × Int) → Option β) (kr : (Int × Int × Int × Bool) → Option β) : Option β :=
  bif decide ((i : Int) < (es_2.length : Int)) then
   bif decide ((n : Int) ≤ most) then
    (idx es_2 i).bind fun x1 =>
    (C F_semigroupref04_measure [.int .i64 ((x1.cell 0).toInt), .int .i64 ((x1.cell 1).toInt), .list T_api_Expr ((x1.cell 2).toList), .int .i64 most]).bind fun r2 =>
    kn (if (IntKind.wrap .i64 (most + 1)) < (IntKind.wrap .i64 (n + ((V.nth r2 0).toInt))) then (IntKind.wrap .i64 (most + 1)) else (IntKind.wrap .i64 (n + ((V.nth r2 0).toInt))), if ((V.nth (r2.drop 1) 0).toInt) > deep then ((V.nth (r2.drop 1) 0).toInt) else deep, IntKind.wrap .i64 (i + 1))
   else
    kr (n, deep, i, decide ((n : Int) ≤ most))
  else
   kr (n, deep, i, false)
noncomputable def s_semigroupref04_measure_1L (C : CallF) (most es_0 es_1 : Int) (es_2 : List V) : (Int × Int × Int) → Option ((Int × Int × Int) ⊕ (Int × Int × Int × Bool)) := un fun n => un fun deep i => s_semigroupref04_measure_1 C most es_0 es_1 es_2 n deep i (fun y => some (.inl y)) (fun r => some (.inr r))
noncomputable def LT_semigroupref04_measure (C : CallF) : LTab := fun β n ds k =>
  bif Nat.beq n 49 then loopS S26_49 [false, true, true, true, false, false, false] [[1, 0, 0, 0, 0, 5, 6, 7]] (@s_semigroupref04_measure_1 C) ds k else
  none
abbrev TS_semigroupref04_measure (C : CallF) (b : Bar) : Prop := Tells Tryd.prog ann C (LT_semigroupref04_measure C) 26 (ntmpsOf Tryd.prog (ann.fid 26)) (ann.sin 26).blks.length b
theorem t_semigroupref04_measure_1 (C : CallF) : TS_semigroupref04_measure C (.loop (codeAt [1, 1, 0, 1, 0, 0] B_semigroupref04_measure)) :=
  tl3 S26_49 [false, true, true, true, false, false, false] [[1, 0, 0, 0, 0, 5, 6, 7]] (@s_semigroupref04_measure_1 C) (by kernel_rfl) (ltok_of (bs := []) (by kernel_rfl) tells_nil) (fun ds => by kernel_rfl) (fun i x => by kernel_rfl) (fun i x β k => by kernel_rfl) (fun β ds k => by kernel_rfl)
noncomputable def f_semigroupref04_measure (C : CallF) (e_0 e_1 : Int) (e_2 : List V) (most : Int) : Option (List V) :=
  (Loop (s_semigroupref04_measure_1L C most e_0 e_1 e_2) (1, 0, 0)).bind (un fun (n_3 : Int) => un fun (deep_4 : Int) => un fun (i_5 : Int) (t_6 : Bool) =>
    some [.int .i64 n_3, .int .i64 (IntKind.wrap .i64 (deep_4 + 1))])
theorem f_semigroupref04_measure_of {e_0 e_1 : Int} {e_2 : List V} {most : Int} {r : Option (List V)} (h : f_semigroupref04_measure CC e_0 e_1 e_2 most = r) : CC F_semigroupref04_measure [.int .i64 e_0, .int .i64 e_1, .list T_api_Expr e_2, .int .i64 most] = r :=
  func_of (key := 26) (L := LT_semigroupref04_measure CC) (bs := [.loop (codeAt [1, 1, 0, 1, 0, 0] B_semigroupref04_measure)]) (by kernel_rfl) (tells_cons (t_semigroupref04_measure_1 CC) tells_nil) (Eq.trans (by kernel_rfl) h)
end Go.AM
set_option maxRecDepth 100000
namespace Go.AM
open Go.Proofs
noncomputable abbrev B_semigroupref04_shaped : Code := bodyOf Tryd.prog (ann.fid 36)
noncomputable def s_semigroupref04_shaped_1 (C : CallF) (letters k' : Int) (ok t39 : Bool) (es_0 es_1 : Int) (es_2 : List V) {β : Type} (kr : (Bool) → Option β) : Option β :=
  bif t39 then
   bif ok then
    bif decide ((es_1 : Int) ≥ 0) then
     kr (decide ((es_1 : Int) < letters))
    else
     kr false
   else
    kr false
  else
   bif ok then
    kr ((es_1 : Int) == 0)
   else
    kr false
noncomputable def s_semigroupref04_shaped_2 (C : CallF) (letters k' es_0 es_1 : Int) (es_2 : List V) (ok : Bool) (i : Int) {β : Type} (kn : (Bool × Int) → Option β) (kr : (Bool × Int × Bool) → Option β) : Option β :=
  bif decide ((i : Int) < k') then
   bif ok then
    (idx es_2 i).bind fun x2 =>
    (C F_semigroupref04_shaped [.int .i64 ((x2.cell 0).toInt), .int .i64 ((x2.cell 1).toInt), .list T_api_Expr ((x2.cell 2).toList), .int .i64 letters]).bind fun r3 =>
    kn ((V.nth r3 0).toBool, IntKind.wrap .i64 (i + 1))
   else
    kr (ok, i, ok)
  else
   kr (ok, i, false)
noncomputable def s_semigroupref04_shaped_2L (C : CallF) (letters k' es_0 es_1 : Int) (es_2 : List V) : (Bool × Int) → Option ((Bool × Int) ⊕ (Bool × Int × Bool)) := un fun ok i => s_semigroupref04_shaped_2 C letters k' es_0 es_1 es_2 ok i (fun y => some (.inl y)) (fun r => some (.inr r))
noncomputable def LT_semigroupref04_shaped (C : CallF) : LTab := fun β n ds k =>
  bif Nat.beq n 639 then condS S36_639 [[1, 2, 0, 5, 6, 7]] (@s_semigroupref04_shaped_1 C) ds k else
  bif Nat.beq n 257 then loopS S36_257 [false, false, true, true, false, false, false] [[1, 2, 0, 0, 0, 5, 6, 7]] (@s_semigroupref04_shaped_2 C) ds k else
  none
abbrev TS_semigroupref04_shaped (C : CallF) (b : Bar) : Prop := Tells Tryd.prog ann C (LT_semigroupref04_shaped C) 36 (ntmpsOf Tryd.prog (ann.fid 36)) (ann.sin 36).blks.length b
theorem t_semigroupref04_shaped_1 (C : CallF) : TS_semigroupref04_shaped C (.cond 39 (codeAt [1, 1, 1, 1, 0, 1, 0] B_semigroupref04_shaped) (codeAt [1, 1, 1, 1, 0, 1, 1] B_semigroupref04_shaped)) :=
  tc3 S36_639 [[1, 2, 0, 5, 6, 7]] (@s_semigroupref04_shaped_1 C) (by kernel_rfl) (ltok_of (bs := []) (by kernel_rfl) tells_nil) (ltok_of (bs := []) (by kernel_rfl) tells_nil) (fun ds => by kernel_rfl) (fun i β k => by kernel_rfl) (fun β ds k => by kernel_rfl)
theorem t_semigroupref04_shaped_2 (C : CallF) : TS_semigroupref04_shaped C (.loop (codeAt [1, 1, 1, 1, 1, 0, 1, 0, 0] B_semigroupref04_shaped)) :=
  tl3 S36_257 [false, false, true, true, false, false, false] [[1, 2, 0, 0, 0, 5, 6, 7]] (@s_semigroupref04_shaped_2 C) (by kernel_rfl) (ltok_of (bs := []) (by kernel_rfl) tells_nil) (fun ds => by kernel_rfl) (fun i x => by kernel_rfl) (fun i x β k => by kernel_rfl) (fun β ds k => by kernel_rfl)
noncomputable def f_semigroupref04_shaped (C : CallF) (e_0 e_1 : Int) (e_2 : List V) (letters : Int) : Option (List V) :=
  bif decide ((e_0 : Int) ≥ 1) then
   bif (e_0 : Int) == 1 then
    bif (e_0 : Int) == 1 then
     s_semigroupref04_shaped_1 C letters (e_2.length : Int) (((e_2.length : Int) : Int) == 0) ((e_0 : Int) == 3) e_0 e_1 e_2 (fun (ok_1 : Bool) =>
       (Loop (s_semigroupref04_shaped_2L C letters (e_2.length : Int) e_0 e_1 e_2) (ok_1, 0)).bind (un fun (ok_4 : Bool) => un fun (i_5 : Int) (t_6 : Bool) =>
         some [.bool ok_4]))
    else
     bif (e_0 : Int) == 7 then
      bif (e_0 : Int) == 7 then
       s_semigroupref04_shaped_1 C letters (e_2.length : Int) (((e_2.length : Int) : Int) == 1) ((e_0 : Int) == 3) e_0 e_1 e_2 (fun (ok_7 : Bool) =>
         (Loop (s_semigroupref04_shaped_2L C letters (e_2.length : Int) e_0 e_1 e_2) (ok_7, 0)).bind (un fun (ok_8 : Bool) => un fun (i_9 : Int) (t_10 : Bool) =>
           some [.bool ok_8]))
      else
       bif decide ((e_0 : Int) ≤ 8) then
        s_semigroupref04_shaped_1 C letters (e_2.length : Int) (decide (((e_2.length : Int) : Int) ≥ 2)) ((e_0 : Int) == 3) e_0 e_1 e_2 (fun (ok_11 : Bool) =>
          (Loop (s_semigroupref04_shaped_2L C letters (e_2.length : Int) e_0 e_1 e_2) (ok_11, 0)).bind (un fun (ok_12 : Bool) => un fun (i_13 : Int) (t_14 : Bool) =>
            some [.bool ok_12]))
       else
        s_semigroupref04_shaped_1 C letters (e_2.length : Int) false ((e_0 : Int) == 3) e_0 e_1 e_2 (fun (ok_15 : Bool) =>
          (Loop (s_semigroupref04_shaped_2L C letters (e_2.length : Int) e_0 e_1 e_2) (ok_15, 0)).bind (un fun (ok_16 : Bool) => un fun (i_17 : Int) (t_18 : Bool) =>
            some [.bool ok_16]))
     else
      bif (e_0 : Int) == 8 then
       s_semigroupref04_shaped_1 C letters (e_2.length : Int) (((e_2.length : Int) : Int) == 1) ((e_0 : Int) == 3) e_0 e_1 e_2 (fun (ok_19 : Bool) =>
         (Loop (s_semigroupref04_shaped_2L C letters (e_2.length : Int) e_0 e_1 e_2) (ok_19, 0)).bind (un fun (ok_20 : Bool) => un fun (i_21 : Int) (t_22 : Bool) =>
           some [.bool ok_20]))
      else
       bif decide ((e_0 : Int) ≤ 8) then
        s_semigroupref04_shaped_1 C letters (e_2.length : Int) (decide (((e_2.length : Int) : Int) ≥ 2)) ((e_0 : Int) == 3) e_0 e_1 e_2 (fun (ok_23 : Bool) =>
          (Loop (s_semigroupref04_shaped_2L C letters (e_2.length : Int) e_0 e_1 e_2) (ok_23, 0)).bind (un fun (ok_24 : Bool) => un fun (i_25 : Int) (t_26 : Bool) =>
            some [.bool ok_24]))
       else
        s_semigroupref04_shaped_1 C letters (e_2.length : Int) false ((e_0 : Int) == 3) e_0 e_1 e_2 (fun (ok_27 : Bool) =>
          (Loop (s_semigroupref04_shaped_2L C letters (e_2.length : Int) e_0 e_1 e_2) (ok_27, 0)).bind (un fun (ok_28 : Bool) => un fun (i_29 : Int) (t_30 : Bool) =>
            some [.bool ok_28]))
   else
    bif (e_0 : Int) == 2 then
     bif (e_0 : Int) == 2 then
      s_semigroupref04_shaped_1 C letters (e_2.length : Int) (((e_2.length : Int) : Int) == 0) ((e_0 : Int) == 3) e_0 e_1 e_2 (fun (ok_31 : Bool) =>
        (Loop (s_semigroupref04_shaped_2L C letters (e_2.length : Int) e_0 e_1 e_2) (ok_31, 0)).bind (un fun (ok_32 : Bool) => un fun (i_33 : Int) (t_34 : Bool) =>
          some [.bool ok_32]))
     else
      bif (e_0 : Int) == 7 then
       bif (e_0 : Int) == 7 then
        s_semigroupref04_shaped_1 C letters (e_2.length : Int) (((e_2.length : Int) : Int) == 1) ((e_0 : Int) == 3) e_0 e_1 e_2 (fun (ok_35 : Bool) =>
          (Loop (s_semigroupref04_shaped_2L C letters (e_2.length : Int) e_0 e_1 e_2) (ok_35, 0)).bind (un fun (ok_36 : Bool) => un fun (i_37 : Int) (t_38 : Bool) =>
            some [.bool ok_36]))
       else
        bif decide ((e_0 : Int) ≤ 8) then
         s_semigroupref04_shaped_1 C letters (e_2.length : Int) (decide (((e_2.length : Int) : Int) ≥ 2)) ((e_0 : Int) == 3) e_0 e_1 e_2 (fun (ok_39 : Bool) =>
           (Loop (s_semigroupref04_shaped_2L C letters (e_2.length : Int) e_0 e_1 e_2) (ok_39, 0)).bind (un fun (ok_40 : Bool) => un fun (i_41 : Int) (t_42 : Bool) =>
             some [.bool ok_40]))
        else
         s_semigroupref04_shaped_1 C letters (e_2.length : Int) false ((e_0 : Int) == 3) e_0 e_1 e_2 (fun (ok_43 : Bool) =>
           (Loop (s_semigroupref04_shaped_2L C letters (e_2.length : Int) e_0 e_1 e_2) (ok_43, 0)).bind (un fun (ok_44 : Bool) => un fun (i_45 : Int) (t_46 : Bool) =>
             some [.bool ok_44]))
      else
       bif (e_0 : Int) == 8 then
        s_semigroupref04_shaped_1 C letters (e_2.length : Int) (((e_2.length : Int) : Int) == 1) ((e_0 : Int) == 3) e_0 e_1 e_2 (fun (ok_47 : Bool) =>
          (Loop (s_semigroupref04_shaped_2L C letters (e_2.length : Int) e_0 e_1 e_2) (ok_47, 0)).bind (un fun (ok_48 : Bool) => un fun (i_49 : Int) (t_50 : Bool) =>
            some [.bool ok_48]))
       else
        bif decide ((e_0 : Int) ≤ 8) then
         s_semigroupref04_shaped_1 C letters (e_2.length : Int) (decide (((e_2.length : Int) : Int) ≥ 2)) ((e_0 : Int) == 3) e_0 e_1 e_2 (fun (ok_51 : Bool) =>
           (Loop (s_semigroupref04_shaped_2L C letters (e_2.length : Int) e_0 e_1 e_2) (ok_51, 0)).bind (un fun (ok_52 : Bool) => un fun (i_53 : Int) (t_54 : Bool) =>
             some [.bool ok_52]))
        else
         s_semigroupref04_shaped_1 C letters (e_2.length : Int) false ((e_0 : Int) == 3) e_0 e_1 e_2 (fun (ok_55 : Bool) =>
           (Loop (s_semigroupref04_shaped_2L C letters (e_2.length : Int) e_0 e_1 e_2) (ok_55, 0)).bind (un fun (ok_56 : Bool) => un fun (i_57 : Int) (t_58 : Bool) =>
             some [.bool ok_56]))
    else
     bif (e_0 : Int) == 3 then
      s_semigroupref04_shaped_1 C letters (e_2.length : Int) (((e_2.length : Int) : Int) == 0) ((e_0 : Int) == 3) e_0 e_1 e_2 (fun (ok_59 : Bool) =>
        (Loop (s_semigroupref04_shaped_2L C letters (e_2.length : Int) e_0 e_1 e_2) (ok_59, 0)).bind (un fun (ok_60 : Bool) => un fun (i_61 : Int) (t_62 : Bool) =>
          some [.bool ok_60]))
     else
      bif (e_0 : Int) == 7 then
       bif (e_0 : Int) == 7 then
        s_semigroupref04_shaped_1 C letters (e_2.length : Int) (((e_2.length : Int) : Int) == 1) ((e_0 : Int) == 3) e_0 e_1 e_2 (fun (ok_63 : Bool) =>
          (Loop (s_semigroupref04_shaped_2L C letters (e_2.length : Int) e_0 e_1 e_2) (ok_63, 0)).bind (un fun (ok_64 : Bool) => un fun (i_65 : Int) (t_66 : Bool) =>
            some [.bool ok_64]))
       else
        bif decide ((e_0 : Int) ≤ 8) then
         s_semigroupref04_shaped_1 C letters (e_2.length : Int) (decide (((e_2.length : Int) : Int) ≥ 2)) ((e_0 : Int) == 3) e_0 e_1 e_2 (fun (ok_67 : Bool) =>
           (Loop (s_semigroupref04_shaped_2L C letters (e_2.length : Int) e_0 e_1 e_2) (ok_67, 0)).bind (un fun (ok_68 : Bool) => un fun (i_69 : Int) (t_70 : Bool) =>
             some [.bool ok_68]))
        else
         s_semigroupref04_shaped_1 C letters (e_2.length : Int) false ((e_0 : Int) == 3) e_0 e_1 e_2 (fun (ok_71 : Bool) =>
           (Loop (s_semigroupref04_shaped_2L C letters (e_2.length : Int) e_0 e_1 e_2) (ok_71, 0)).bind (un fun (ok_72 : Bool) => un fun (i_73 : Int) (t_74 : Bool) =>
             some [.bool ok_72]))
      else
       bif (e_0 : Int) == 8 then
        s_semigroupref04_shaped_1 C letters (e_2.length : Int) (((e_2.length : Int) : Int) == 1) ((e_0 : Int) == 3) e_0 e_1 e_2 (fun (ok_75 : Bool) =>
          (Loop (s_semigroupref04_shaped_2L C letters (e_2.length : Int) e_0 e_1 e_2) (ok_75, 0)).bind (un fun (ok_76 : Bool) => un fun (i_77 : Int) (t_78 : Bool) =>
            some [.bool ok_76]))
       else
        bif decide ((e_0 : Int) ≤ 8) then
         s_semigroupref04_shaped_1 C letters (e_2.length : Int) (decide (((e_2.length : Int) : Int) ≥ 2)) ((e_0 : Int) == 3) e_0 e_1 e_2 (fun (ok_79 : Bool) =>
           (Loop (s_semigroupref04_shaped_2L C letters (e_2.length : Int) e_0 e_1 e_2) (ok_79, 0)).bind (un fun (ok_80 : Bool) => un fun (i_81 : Int) (t_82 : Bool) =>
             some [.bool ok_80]))
        else
         s_semigroupref04_shaped_1 C letters (e_2.length : Int) false ((e_0 : Int) == 3) e_0 e_1 e_2 (fun (ok_83 : Bool) =>
           (Loop (s_semigroupref04_shaped_2L C letters (e_2.length : Int) e_0 e_1 e_2) (ok_83, 0)).bind (un fun (ok_84 : Bool) => un fun (i_85 : Int) (t_86 : Bool) =>
             some [.bool ok_84]))
  else
   bif (e_0 : Int) == 1 then
    bif (e_0 : Int) == 1 then
     s_semigroupref04_shaped_1 C letters (e_2.length : Int) (((e_2.length : Int) : Int) == 0) ((e_0 : Int) == 3) e_0 e_1 e_2 (fun (ok_87 : Bool) =>
       (Loop (s_semigroupref04_shaped_2L C letters (e_2.length : Int) e_0 e_1 e_2) (ok_87, 0)).bind (un fun (ok_88 : Bool) => un fun (i_89 : Int) (t_90 : Bool) =>
         some [.bool ok_88]))
    else
     bif (e_0 : Int) == 7 then
      bif (e_0 : Int) == 7 then
       s_semigroupref04_shaped_1 C letters (e_2.length : Int) (((e_2.length : Int) : Int) == 1) ((e_0 : Int) == 3) e_0 e_1 e_2 (fun (ok_91 : Bool) =>
         (Loop (s_semigroupref04_shaped_2L C letters (e_2.length : Int) e_0 e_1 e_2) (ok_91, 0)).bind (un fun (ok_92 : Bool) => un fun (i_93 : Int) (t_94 : Bool) =>
           some [.bool ok_92]))
      else
       s_semigroupref04_shaped_1 C letters (e_2.length : Int) false ((e_0 : Int) == 3) e_0 e_1 e_2 (fun (ok_95 : Bool) =>
         (Loop (s_semigroupref04_shaped_2L C letters (e_2.length : Int) e_0 e_1 e_2) (ok_95, 0)).bind (un fun (ok_96 : Bool) => un fun (i_97 : Int) (t_98 : Bool) =>
           some [.bool ok_96]))
     else
      bif (e_0 : Int) == 8 then
       s_semigroupref04_shaped_1 C letters (e_2.length : Int) (((e_2.length : Int) : Int) == 1) ((e_0 : Int) == 3) e_0 e_1 e_2 (fun (ok_99 : Bool) =>
         (Loop (s_semigroupref04_shaped_2L C letters (e_2.length : Int) e_0 e_1 e_2) (ok_99, 0)).bind (un fun (ok_100 : Bool) => un fun (i_101 : Int) (t_102 : Bool) =>
           some [.bool ok_100]))
      else
       s_semigroupref04_shaped_1 C letters (e_2.length : Int) false ((e_0 : Int) == 3) e_0 e_1 e_2 (fun (ok_103 : Bool) =>
         (Loop (s_semigroupref04_shaped_2L C letters (e_2.length : Int) e_0 e_1 e_2) (ok_103, 0)).bind (un fun (ok_104 : Bool) => un fun (i_105 : Int) (t_106 : Bool) =>
           some [.bool ok_104]))
   else
    bif (e_0 : Int) == 2 then
     bif (e_0 : Int) == 2 then
      s_semigroupref04_shaped_1 C letters (e_2.length : Int) (((e_2.length : Int) : Int) == 0) ((e_0 : Int) == 3) e_0 e_1 e_2 (fun (ok_107 : Bool) =>
        (Loop (s_semigroupref04_shaped_2L C letters (e_2.length : Int) e_0 e_1 e_2) (ok_107, 0)).bind (un fun (ok_108 : Bool) => un fun (i_109 : Int) (t_110 : Bool) =>
          some [.bool ok_108]))
     else
      bif (e_0 : Int) == 7 then
       bif (e_0 : Int) == 7 then
        s_semigroupref04_shaped_1 C letters (e_2.length : Int) (((e_2.length : Int) : Int) == 1) ((e_0 : Int) == 3) e_0 e_1 e_2 (fun (ok_111 : Bool) =>
          (Loop (s_semigroupref04_shaped_2L C letters (e_2.length : Int) e_0 e_1 e_2) (ok_111, 0)).bind (un fun (ok_112 : Bool) => un fun (i_113 : Int) (t_114 : Bool) =>
            some [.bool ok_112]))
       else
        s_semigroupref04_shaped_1 C letters (e_2.length : Int) false ((e_0 : Int) == 3) e_0 e_1 e_2 (fun (ok_115 : Bool) =>
          (Loop (s_semigroupref04_shaped_2L C letters (e_2.length : Int) e_0 e_1 e_2) (ok_115, 0)).bind (un fun (ok_116 : Bool) => un fun (i_117 : Int) (t_118 : Bool) =>
            some [.bool ok_116]))
      else
       bif (e_0 : Int) == 8 then
        s_semigroupref04_shaped_1 C letters (e_2.length : Int) (((e_2.length : Int) : Int) == 1) ((e_0 : Int) == 3) e_0 e_1 e_2 (fun (ok_119 : Bool) =>
          (Loop (s_semigroupref04_shaped_2L C letters (e_2.length : Int) e_0 e_1 e_2) (ok_119, 0)).bind (un fun (ok_120 : Bool) => un fun (i_121 : Int) (t_122 : Bool) =>
            some [.bool ok_120]))
       else
        s_semigroupref04_shaped_1 C letters (e_2.length : Int) false ((e_0 : Int) == 3) e_0 e_1 e_2 (fun (ok_123 : Bool) =>
          (Loop (s_semigroupref04_shaped_2L C letters (e_2.length : Int) e_0 e_1 e_2) (ok_123, 0)).bind (un fun (ok_124 : Bool) => un fun (i_125 : Int) (t_126 : Bool) =>
            some [.bool ok_124]))
    else
     bif (e_0 : Int) == 3 then
      s_semigroupref04_shaped_1 C letters (e_2.length : Int) (((e_2.length : Int) : Int) == 0) ((e_0 : Int) == 3) e_0 e_1 e_2 (fun (ok_127 : Bool) =>
        (Loop (s_semigroupref04_shaped_2L C letters (e_2.length : Int) e_0 e_1 e_2) (ok_127, 0)).bind (un fun (ok_128 : Bool) => un fun (i_129 : Int) (t_130 : Bool) =>
          some [.bool ok_128]))
     else
      bif (e_0 : Int) == 7 then
       bif (e_0 : Int) == 7 then
        s_semigroupref04_shaped_1 C letters (e_2.length : Int) (((e_2.length : Int) : Int) == 1) ((e_0 : Int) == 3) e_0 e_1 e_2 (fun (ok_131 : Bool) =>
          (Loop (s_semigroupref04_shaped_2L C letters (e_2.length : Int) e_0 e_1 e_2) (ok_131, 0)).bind (un fun (ok_132 : Bool) => un fun (i_133 : Int) (t_134 : Bool) =>
            some [.bool ok_132]))
       else
        s_semigroupref04_shaped_1 C letters (e_2.length : Int) false ((e_0 : Int) == 3) e_0 e_1 e_2 (fun (ok_135 : Bool) =>
          (Loop (s_semigroupref04_shaped_2L C letters (e_2.length : Int) e_0 e_1 e_2) (ok_135, 0)).bind (un fun (ok_136 : Bool) => un fun (i_137 : Int) (t_138 : Bool) =>
            some [.bool ok_136]))
      else
       bif (e_0 : Int) == 8 then
        s_semigroupref04_shaped_1 C letters (e_2.length : Int) (((e_2.length : Int) : Int) == 1) ((e_0 : Int) == 3) e_0 e_1 e_2 (fun (ok_139 : Bool) =>
          (Loop (s_semigroupref04_shaped_2L C letters (e_2.length : Int) e_0 e_1 e_2) (ok_139, 0)).bind (un fun (ok_140 : Bool) => un fun (i_141 : Int) (t_142 : Bool) =>
            some [.bool ok_140]))
       else
        s_semigroupref04_shaped_1 C letters (e_2.length : Int) false ((e_0 : Int) == 3) e_0 e_1 e_2 (fun (ok_143 : Bool) =>
          (Loop (s_semigroupref04_shaped_2L C letters (e_2.length : Int) e_0 e_1 e_2) (ok_143, 0)).bind (un fun (ok_144 : Bool) => un fun (i_145 : Int) (t_146 : Bool) =>
            some [.bool ok_144]))
theorem f_semigroupref04_shaped_of {e_0 e_1 : Int} {e_2 : List V} {letters : Int} {r : Option (List V)} (h : f_semigroupref04_shaped CC e_0 e_1 e_2 letters = r) : CC F_semigroupref04_shaped [.int .i64 e_0, .int .i64 e_1, .list T_api_Expr e_2, .int .i64 letters] = r :=
  func_of (key := 36) (L := LT_semigroupref04_shaped CC) (bs := [.cond 39 (codeAt [1, 1, 1, 1, 0, 1, 0] B_semigroupref04_shaped) (codeAt [1, 1, 1, 1, 0, 1, 1] B_semigroupref04_shaped), .loop (codeAt [1, 1, 1, 1, 1, 0, 1, 0, 0] B_semigroupref04_shaped)]) (by kernel_rfl) (tells_cons (t_semigroupref04_shaped_1 CC) (tells_cons (t_semigroupref04_shaped_2 CC) tells_nil)) (Eq.trans (by kernel_rfl) h)
end Go.AM
set_option maxRecDepth 100000
namespace Go.AM
open Go.Proofs
noncomputable def f_semigroupref01_MayLetters (C : CallF) (letters : Int) : Option (List V) :=
  bif decide ((letters : Int) ≥ 1) then
   some [.bool (decide ((letters : Int) ≤ 6))]
  else
   some [.bool false]
theorem f_semigroupref01_MayLetters_of {letters : Int} {r : Option (List V)} (h : f_semigroupref01_MayLetters CC letters = r) : CC F_semigroupref01_MayLetters [.int .i64 letters] = r :=
  func_of (key := 21) (L := LT0) (bs := []) (by kernel_rfl) tells_nil (Eq.trans (by kernel_rfl) h)
end Go.AM
set_option maxRecDepth 100000
set_option linter.unusedSimpArgs false
namespace Go.AM
open Go.Proofs Ex
theorem idx_kid (pre suf : List Ex) (k : Ex) : idx ((pre ++ k :: suf).map enc) (pre.length : Int) = some k.enc := by
  rw [idx_nat]; simp
theorem enc_0 (k : Ex) : (k.enc.cell 0).toInt = k.op := by rw [enc_eq]; simp
theorem enc_1 (k : Ex) : (k.enc.cell 1).toInt = k.letter := by rw [enc_eq]; simp
theorem enc_2 (k : Ex) : (k.enc.cell 2).toList = k.kids.map enc := by rw [enc_eq]; simp
theorem fits_loop {ks : List Ex} (hlen : ks.length ≤ maxLen) {d : Int} (hd : 0 ≤ d ∧ d ≤ 1000) (ih : ∀ k ∈ ks, ∀ d l : Int, 0 ≤ d → d ≤ 1000 → 0 ≤ l → l ≤ 1000 → ∃ l', CC F_expr_fits (exA k [.int .i64 d, .int .i64 l]) = some [.bool (decide ((k.depth : Int) ≤ d ∧ (k.size : Int) ≤ l)), .int .i64 l'] ∧ 0 ≤ l' ∧ l' ≤ l ∧ (((k.depth : Int) ≤ d ∧ (k.size : Int) ≤ l) → l' = l - k.size)) :
    ∀ (suf pre : List Ex) (l : Int), ks = pre ++ suf → 0 ≤ l → l ≤ 1000 → 1 ≤ d →
    (∃ l' : Int, Loop (s_expr_fits_1L CC d (ks.map enc) ((ks.map enc).length : Int)) (((pre.length : Nat) : Int), l) = some (.inl (false, l')) ∧ ¬ ((depths suf : Int) ≤ d - 1 ∧ (sizes suf : Int) ≤ l) ∧ 0 ≤ l' ∧ l' ≤ l) ∨
    (∃ i b, Loop (s_expr_fits_1L CC d (ks.map enc) ((ks.map enc).length : Int)) (((pre.length : Nat) : Int), l) = some (.inr (i, b, l - sizes suf)) ∧ ((depths suf : Int) ≤ d - 1 ∧ (sizes suf : Int) ≤ l)) := by
  intro suf
  induction suf with
  | nil =>
    intro pre l hks h0 h1 hd1
    subst hks
    refine .inr ⟨((pre.length : Nat) : Int), false, ?_, ?_⟩
    · have hz : l - ((sizes ([] : List Ex) : Nat) : Int) = l := by simp only [sizes]; omega
      rw [hz]
      refine Loop_end ?_
      simp only [s_expr_fits_1L, s_expr_fits_1, un, List.append_nil, List.length_map, bif_decide]
      rw [if_neg (by omega)]
      simp
    · simp only [depths, sizes]; omega
  | cons k suf ihs =>
    intro pre l hks h0 h1 hd1
    obtain ⟨l', e1, e2, e3, e4⟩ := ih k (by rw [hks]; simp) (d - 1) l (by omega) (by omega) h0 h1
    have hpl : pre.length < ks.length := by rw [hks]; simp
    have := maxLen_le
    have hix : idx (ks.map enc) (pre.length : Int) = some k.enc := by rw [hks]; exact idx_kid _ _ _
    by_cases hk : (k.depth : Int) ≤ d - 1 ∧ (k.size : Int) ≤ l
    · have hstep : s_expr_fits_1L CC d (ks.map enc) ((ks.map enc).length : Int) (((pre.length : Nat) : Int), l) = some (.inl ((((pre ++ [k]).length : Nat) : Int), l')) := by
        simp only [s_expr_fits_1L, s_expr_fits_1, un, List.length_map, bif_decide]
        rw [if_pos (by omega), hix]
        simp only [Option.bind_some, enc_0, enc_1, enc_2]
        rw [wrap64 (by omega) (by omega), e1]
        simp only [Option.bind_some, V.nth_zero, V.toBool_bool, decide_eq_true hk, Bool.not_true, cond_false, List.drop_succ_cons, List.drop_zero, V.toInt_int]
        rw [wrap64 (by omega) (by omega)]
        simp
      rw [Loop_norm hstep]
      have e5 := e4 hk
      rcases ihs (pre ++ [k]) l' (by rw [hks]; simp) e2 (by omega) hd1 with ⟨l2, q1, q2, q3, q4⟩ | ⟨i, b, q1, q2⟩
      · refine .inl ⟨l2, q1, ?_, q3, by omega⟩
        simp only [depths, sizes]; omega
      · refine .inr ⟨i, b, q1.trans ?_, ?_⟩
        · simp only [sizes]
          congr 4
          omega
        · simp only [depths, sizes]; omega
    · refine .inl ⟨l', Loop_end ?_, ?_, e2, e3⟩
      · simp only [s_expr_fits_1L, s_expr_fits_1, un, List.length_map, bif_decide]
        rw [if_pos (by omega), hix]
        simp only [Option.bind_some, enc_0, enc_1, enc_2]
        rw [wrap64 (by omega) (by omega), e1]
        simp only [Option.bind_some, V.nth_zero, V.toBool_bool, decide_eq_false hk, Bool.not_false, cond_true, List.drop_succ_cons, List.drop_zero, V.toInt_int]
      · simp only [depths, sizes]; omega
theorem fits_spec : ∀ e : Ex, e.Ok → ∀ d l : Int, 0 ≤ d → d ≤ 1000 → 0 ≤ l → l ≤ 1000 →
    ∃ l', CC F_expr_fits (exA e [.int .i64 d, .int .i64 l]) = some [.bool (decide ((e.depth : Int) ≤ d ∧ (e.size : Int) ≤ l)), .int .i64 l'] ∧ 0 ≤ l' ∧ l' ≤ l ∧ (((e.depth : Int) ≤ d ∧ (e.size : Int) ≤ l) → l' = l - e.size) :=
  ind fun o lt ks ih hok d l h1 h2 h3 h4 => by
    have ih' : ∀ k ∈ ks, _ := fun k hk => ih k hk (hok.kid k hk)
    have hs : ∀ e : Ex, e = .node o lt ks → e.size = 1 + sizes ks ∧ e.depth = 1 + depths ks := by rintro e rfl; constructor <;> simp only [size, depth]
    obtain ⟨s1, s2⟩ := hs _ rfl
    by_cases hd : d = 0
    · have hn : ¬ (((Ex.node o lt ks).depth : Int) ≤ d ∧ ((Ex.node o lt ks).size : Int) ≤ l) := by omega
      refine ⟨l, f_expr_fits_of ?_, h3, Int.le_refl _, fun h => absurd h hn⟩
      simp only [f_expr_fits, bif_beq, if_pos hd, decide_eq_false hn]
    · by_cases hl : l = 0
      · have hn : ¬ (((Ex.node o lt ks).depth : Int) ≤ d ∧ ((Ex.node o lt ks).size : Int) ≤ l) := by omega
        refine ⟨l, f_expr_fits_of ?_, h3, Int.le_refl _, fun h => absurd h hn⟩
        simp only [f_expr_fits, bif_beq, if_neg hd, if_pos hl, decide_eq_false hn]
      · rcases fits_loop hok.len ⟨h1, h2⟩ ih' ks [] (l - 1) rfl (by omega) (by omega) (by omega) with ⟨l', q1, q2, q3, q4⟩ | ⟨i, b, q1, q2⟩
        · have hn : ¬ (((Ex.node o lt ks).depth : Int) ≤ d ∧ ((Ex.node o lt ks).size : Int) ≤ l) := by omega
          refine ⟨l', f_expr_fits_of ?_, q3, by omega, fun h => absurd h hn⟩
          simp only [f_expr_fits, bif_beq, if_neg hd, if_neg hl, decide_eq_false hn, Ex.kids]
          rw [wrap64 (by omega) (by omega)]
          simp only [List.length_nil, Int.ofNat_zero, Int.natCast_zero] at q1
          erw [q1]
          rfl
        · have hn : (((Ex.node o lt ks).depth : Int) ≤ d ∧ ((Ex.node o lt ks).size : Int) ≤ l) := by omega
          refine ⟨l - 1 - sizes ks, f_expr_fits_of ?_, by omega, by omega, fun _ => by omega⟩
          simp only [f_expr_fits, bif_beq, if_neg hd, if_neg hl, decide_eq_true hn, Ex.kids]
          rw [wrap64 (by omega) (by omega)]
          simp only [List.length_nil, Int.ofNat_zero, Int.natCast_zero] at q1
          erw [q1]
          rfl
theorem withinLimits_spec (e : Ex) (h : e.Ok) : CC F_expr_withinLimits (exA e []) = some [.bool (decide (e.depth ≤ 40 ∧ e.size ≤ 400))] := by
  obtain ⟨l', e1, _⟩ := fits_spec e h 40 400 (by omega) (by omega) (by omega) (by omega)
  refine f_expr_withinLimits_of ?_
  simp only [f_expr_withinLimits]
  rw [e1]
  simp only [Option.bind_some, V.nth_zero, V.toBool_bool]
  congr 3
  rw [decide_eq_decide]
  omega
theorem measure_loop {ks : List Ex} (hlen : ks.length ≤ maxLen) {a b most : Int} (hm : 1 ≤ most ∧ most ≤ 1000) (ih : ∀ k ∈ ks, ∃ d, CC F_semigroupref04_measure (exA k [.int .i64 most]) = some [.int .i64 (min (k.size : Int) (most + 1)), .int .i64 d] ∧ ((k.size : Int) ≤ most → d = k.depth)) :
    ∀ (suf pre : List Ex) (n deep : Int), ks = pre ++ suf → 1 ≤ n → n ≤ most + 1 → 0 ≤ deep →
    ∃ deep' i b', Loop (s_semigroupref04_measure_1L CC most a b (ks.map enc)) (n, deep, ((pre.length : Nat) : Int)) = some (min (n + (sizes suf : Int)) (most + 1), deep', i, b') ∧ (n + (sizes suf : Int) ≤ most → deep' = max deep (depths suf)) := by
  intro suf
  induction suf with
  | nil =>
    intro pre n deep hks h0 h1 hdp
    subst hks
    refine ⟨deep, ((pre.length : Nat) : Int), false, ?_, fun _ => ?_⟩
    · have hz : min (n + ((sizes ([] : List Ex) : Nat) : Int)) (most + 1) = n := by simp only [sizes]; omega
      rw [hz]
      refine Loop_end ?_
      simp only [s_semigroupref04_measure_1L, s_semigroupref04_measure_1, un, List.append_nil, List.length_map, bif_decide]
      rw [if_neg (by omega)]
    · simp only [depths]; omega
  | cons k suf ihs =>
    intro pre n deep hks h0 h1 hdp
    have hpl : pre.length < ks.length := by rw [hks]; simp
    have := maxLen_le
    have hix : idx (ks.map enc) (pre.length : Int) = some k.enc := by rw [hks]; exact idx_kid _ _ _
    have hkp := size_pos k
    by_cases hn : n ≤ most
    · obtain ⟨d, e1, e2⟩ := ih k (by rw [hks]; simp)
      have hstep : ∃ dd, s_semigroupref04_measure_1L CC most a b (ks.map enc) (n, deep, ((pre.length : Nat) : Int)) = some (.inl (min (n + (k.size : Int)) (most + 1), dd, (((pre ++ [k]).length : Nat) : Int))) ∧ dd = max deep d := by
        refine ⟨max deep d, ?_, rfl⟩
        simp only [s_semigroupref04_measure_1L, s_semigroupref04_measure_1, un, List.length_map, bif_decide]
        rw [if_pos (by omega), if_pos hn, hix]
        simp only [Option.bind_some, enc_0, enc_1, enc_2]
        rw [e1]
        simp only [Option.bind_some, V.nth_zero, List.drop_succ_cons, List.drop_zero, V.toInt_int]
        rw [wrap64 (by omega) (by omega), wrap64 (by omega) (by omega), wrap64 (by omega) (by omega)]
        have r1 : (if most + 1 < n + min (k.size : Int) (most + 1) then most + 1 else n + min (k.size : Int) (most + 1)) = min (n + (k.size : Int)) (most + 1) := by split <;> omega
        have r2 : (if d > deep then d else deep) = max deep d := by split <;> omega
        rw [r1, r2]
        simp
      obtain ⟨dd, hs1, rfl⟩ := hstep
      rw [Loop_norm hs1]
      obtain ⟨deep', i, b', q1, q2⟩ := ihs (pre ++ [k]) (min (n + (k.size : Int)) (most + 1)) (max deep d) (by rw [hks]; simp) (by omega) (by omega) (by omega)
      refine ⟨deep', i, b', q1.trans ?_, fun h => ?_⟩
      · simp only [sizes]
        congr 2
        omega
      · simp only [sizes] at h
        rw [q2 (by omega), e2 (by omega)]
        simp only [depths]
        omega
    · refine ⟨deep, ((pre.length : Nat) : Int), false, ?_, fun h => ?_⟩
      · have hz : min (n + ((sizes (k :: suf) : Nat) : Int)) (most + 1) = n := by simp only [sizes]; omega
        rw [hz]
        refine Loop_end ?_
        simp only [s_semigroupref04_measure_1L, s_semigroupref04_measure_1, un, List.length_map, bif_decide]
        rw [if_pos (by omega), if_neg hn]
        simp [hn]
      · omega
theorem measure_spec : ∀ e : Ex, e.Ok → ∀ most : Int, 1 ≤ most → most ≤ 1000 → ∃ d, CC F_semigroupref04_measure (exA e [.int .i64 most]) = some [.int .i64 (min (e.size : Int) (most + 1)), .int .i64 d] ∧ ((e.size : Int) ≤ most → d = e.depth) :=
  ind fun o lt ks ih hok most h1 h2 => by
    obtain ⟨deep', i, b', q1, q2⟩ := measure_loop (a := o) (b := lt) hok.len ⟨h1, h2⟩ (fun k hk => ih k hk (hok.kid k hk) most h1 h2) ks [] 1 0 rfl (by omega) (by omega) (by omega)
    have s1 : (Ex.node o lt ks).size = 1 + sizes ks := by simp only [size]
    have s2 : (Ex.node o lt ks).depth = 1 + depths ks := by simp only [depth]
    have s3 := depth_le_size (.node o lt ks)
    refine ⟨IntKind.wrap .i64 (deep' + 1), f_semigroupref04_measure_of ?_, fun h => ?_⟩
    · simp only [f_semigroupref04_measure, Ex.kids, Ex.op, Ex.letter]
      simp only [List.length_nil, Int.ofNat_zero, Int.natCast_zero] at q1
      erw [q1]
      simp only [Option.bind_some, un]
      rw [show (1 : Int) + (sizes ks : Int) = ((Ex.node o lt ks).size : Int) by omega]
    · rw [q2 (by omega), wrap64 (by omega) (by omega)]
      omega
def shapeOk (o l len letters : Int) : Bool :=
  if o = 3 then decide (len = 0 ∧ 0 ≤ l ∧ l < letters)
  else decide (l = 0) && (if o = 1 ∨ o = 2 then decide (len = 0) else if o = 7 ∨ o = 8 then decide (len = 1) else decide (4 ≤ o ∧ o ≤ 6 ∧ 2 ≤ len))
mutual
def Ex.wf (letters : Int) : Ex → Bool
  | .node o l ks => shapeOk o l ks.length letters && wfs letters ks
def Ex.wfs (letters : Int) : List Ex → Bool
  | [] => true
  | k :: ks => Ex.wf letters k && wfs letters ks
end
theorem wf_loop {ks : List Ex} (hlen : ks.length ≤ maxLen) {letters : Int} (ih : ∀ k ∈ ks, CC F_expr_wellFormed (exA k [.int .i64 letters]) = some [.bool (k.wf letters)]) :
    ∀ (suf pre : List Ex), ks = pre ++ suf →
    (Loop (s_expr_wellFormed_1L CC letters (ks.map enc) ((ks.map enc).length : Int)) ((pre.length : Nat) : Int) = some (.inl false) ∧ wfs letters suf = false) ∨
    (∃ i b, Loop (s_expr_wellFormed_1L CC letters (ks.map enc) ((ks.map enc).length : Int)) ((pre.length : Nat) : Int) = some (.inr (i, b)) ∧ wfs letters suf = true) := by
  intro suf
  induction suf with
  | nil =>
    intro pre hks
    subst hks
    refine .inr ⟨((pre.length : Nat) : Int), false, Loop_end ?_, by simp only [wfs]⟩
    simp only [s_expr_wellFormed_1L, s_expr_wellFormed_1, List.append_nil, List.length_map, bif_decide]
    rw [if_neg (by omega)]
    simp
  | cons k suf ihs =>
    intro pre hks
    have hpl : pre.length < ks.length := by rw [hks]; simp
    have := maxLen_le
    have hix : idx (ks.map enc) (pre.length : Int) = some k.enc := by rw [hks]; exact idx_kid _ _ _
    have e1 := ih k (by rw [hks]; simp)
    cases hw : k.wf letters with
    | true =>
      have hstep : s_expr_wellFormed_1L CC letters (ks.map enc) ((ks.map enc).length : Int) ((pre.length : Nat) : Int) = some (.inl (((pre ++ [k]).length : Nat) : Int)) := by
        simp only [s_expr_wellFormed_1L, s_expr_wellFormed_1, List.length_map, bif_decide]
        rw [if_pos (by omega), hix]
        simp only [Option.bind_some, enc_0, enc_1, enc_2]
        rw [e1, hw]
        simp only [Option.bind_some, V.nth_zero, V.toBool_bool, Bool.not_true, cond_false]
        rw [wrap64 (by omega) (by omega)]
        simp
      rw [Loop_norm hstep]
      simp only [wfs, hw, Bool.true_and]
      exact ihs (pre ++ [k]) (by rw [hks]; simp)
    | false =>
      refine .inl ⟨Loop_end ?_, by simp only [wfs, hw, Bool.false_and]⟩
      simp only [s_expr_wellFormed_1L, s_expr_wellFormed_1, List.length_map, bif_decide]
      rw [if_pos (by omega), hix]
      simp only [Option.bind_some, enc_0, enc_1, enc_2]
      rw [e1, hw]
      simp only [Option.bind_some, V.nth_zero, V.toBool_bool, Bool.not_false, cond_true]
theorem op_cases (o : Int) : o = 1 ∨ o = 2 ∨ o = 3 ∨ o = 4 ∨ o = 5 ∨ o = 6 ∨ o = 7 ∨ o = 8 ∨ (o < 1 ∨ 8 < o) := by omega
theorem wellFormed_spec {letters : Int} : ∀ e : Ex, e.Ok → CC F_expr_wellFormed (exA e [.int .i64 letters]) = some [.bool (e.wf letters)] :=
  ind fun o lt ks ih hok => by
    refine f_expr_wellFormed_of ?_
    have hlen : ((ks.map enc).length : Int) = (ks.length : Int) := by simp
    have hl := wf_loop hok.len (fun k hk => ih k hk (hok.kid k hk)) ks [] rfl
    simp only [List.length_nil, Int.natCast_zero, Int.ofNat_zero] at hl
    have hall : (Loop (s_expr_wellFormed_1L CC letters (ks.map enc) ((ks.map enc).length : Int)) 0).bind (way2 (fun (t : Bool) => some [V.bool t]) (un fun (_ : Int) (_ : Bool) => some [V.bool true])) = some [.bool (wfs letters ks)] := by
      rcases hl with ⟨h1, h2⟩ | ⟨i, b, h1, h2⟩
      · erw [h1]; rw [h2]; rfl
      · erw [h1]; rw [h2]; rfl
    simp only [Ex.op, Ex.letter, Ex.kids]
    unfold f_expr_wellFormed
    rw [hall, hlen]
    simp only [Ex.wf, shapeOk]
    have hk0 : ks.length = 0 → wfs letters ks = true := fun h => by rw [List.eq_nil_of_length_eq_zero h]; simp only [wfs]
    rcases op_cases o with rfl | rfl | rfl | rfl | rfl | rfl | rfl | rfl | ho
    case inr.inr.inr.inr.inr.inr.inr.inr =>
      have n1 : o ≠ 1 := by omega
      have n2 : o ≠ 2 := by omega
      have n3 : o ≠ 3 := by omega
      have n4 : o ≠ 4 := by omega
      have n5 : o ≠ 5 := by omega
      have n6 : o ≠ 6 := by omega
      have n7 : o ≠ 7 := by omega
      have n8 : o ≠ 8 := by omega
      have n9 : ¬ (4 ≤ o ∧ o ≤ 6 ∧ 2 ≤ (ks.length : Int)) := by omega
      by_cases hlt : lt = 0 <;> simp [n1, n2, n3, n4, n5, n6, n7, n8, n9, hlt]
    all_goals by_cases hlt : lt = 0 <;> by_cases h0 : ks.length = 0 <;> by_cases h1 : ks.length = 1 <;> simp [hlt, h0, h1, hk0]
    all_goals (try omega)
    all_goals (try (split <;> simp_all <;> omega))
theorem shaped1 {C : CallF} {letters k o lt : Int} {ok t : Bool} {es : List V} {β : Type} (kr : Bool → Option β) : s_semigroupref04_shaped_1 C letters k ok t o lt es kr = kr (ok && (bif t then decide (0 ≤ lt ∧ lt < letters) else decide (lt = 0))) := by
  unfold s_semigroupref04_shaped_1
  have hb : (lt == 0) = decide (lt = 0) := by rw [Bool.eq_iff_iff]; simp
  rw [hb]
  cases t <;> cases ok <;> first | rfl | skip
  by_cases h : 0 ≤ lt <;> simp [h]
theorem shaped_loop {ks : List Ex} (hlen : ks.length ≤ maxLen) {letters o lt : Int} (ih : ∀ k ∈ ks, CC F_semigroupref04_shaped (exA k [.int .i64 letters]) = some [.bool (k.wf letters)]) :
    ∀ (suf pre : List Ex) (ok : Bool), ks = pre ++ suf →
    ∃ i b, Loop (s_semigroupref04_shaped_2L CC letters (ks.length : Int) o lt (ks.map enc)) (ok, ((pre.length : Nat) : Int)) = some (ok && wfs letters suf, i, b) := by
  intro suf
  induction suf with
  | nil =>
    intro pre ok hks
    subst hks
    refine ⟨((pre.length : Nat) : Int), false, Loop_end ?_⟩
    simp only [s_semigroupref04_shaped_2L, s_semigroupref04_shaped_2, un, List.append_nil, bif_decide]
    rw [if_neg (by omega)]
    simp [wfs]
  | cons k suf ihs =>
    intro pre ok hks
    have hpl : pre.length < ks.length := by rw [hks]; simp
    have := maxLen_le
    have hix : idx (ks.map enc) (pre.length : Int) = some k.enc := by rw [hks]; exact idx_kid _ _ _
    have e1 := ih k (by rw [hks]; simp)
    cases ok with
    | true =>
      have hstep : s_semigroupref04_shaped_2L CC letters (ks.length : Int) o lt (ks.map enc) (true, ((pre.length : Nat) : Int)) = some (.inl (k.wf letters, (((pre ++ [k]).length : Nat) : Int))) := by
        simp only [s_semigroupref04_shaped_2L, s_semigroupref04_shaped_2, un, bif_decide, cond_true]
        rw [if_pos (by omega), hix]
        simp only [Option.bind_some, enc_0, enc_1, enc_2]
        rw [e1]
        simp only [Option.bind_some, V.nth_zero, V.toBool_bool]
        rw [wrap64 (by omega) (by omega)]
        simp
      rw [Loop_norm hstep]
      simp only [wfs, Bool.true_and]
      exact ihs (pre ++ [k]) _ (by rw [hks]; simp)
    | false =>
      refine ⟨((pre.length : Nat) : Int), false, Loop_end ?_⟩
      simp only [s_semigroupref04_shaped_2L, s_semigroupref04_shaped_2, un, bif_decide, cond_false]
      rw [if_pos (by omega)]
      simp
theorem shaped_spec {letters : Int} : ∀ e : Ex, e.Ok → CC F_semigroupref04_shaped (exA e [.int .i64 letters]) = some [.bool (e.wf letters)] :=
  ind fun o lt ks ih hok => by
    refine f_semigroupref04_shaped_of ?_
    have hlen : ((ks.map enc).length : Int) = (ks.length : Int) := by simp
    have hall : ∀ ok : Bool, (Loop (s_semigroupref04_shaped_2L CC letters (ks.length : Int) o lt (ks.map enc)) (ok, 0)).bind (un fun (ok : Bool) => un fun (_ : Int) (_ : Bool) => some [V.bool ok]) = some [.bool (ok && wfs letters ks)] := by
      intro ok
      obtain ⟨i, b, h⟩ := shaped_loop hok.len (o := o) (lt := lt) (fun k hk => ih k hk (hok.kid k hk)) ks [] ok rfl
      simp only [List.length_nil, Int.natCast_zero, Int.ofNat_zero] at h
      erw [h]; rfl
    simp only [Ex.op, Ex.letter, Ex.kids]
    unfold f_semigroupref04_shaped
    simp only [shaped1, hlen, hall]
    simp only [Ex.wf, shapeOk]
    have hk0 : ks.length = 0 → wfs letters ks = true := fun h => by rw [List.eq_nil_of_length_eq_zero h]; simp only [wfs]
    rcases op_cases o with rfl | rfl | rfl | rfl | rfl | rfl | rfl | rfl | ho
    case inr.inr.inr.inr.inr.inr.inr.inr =>
      have n1 : o ≠ 1 := by omega
      have n2 : o ≠ 2 := by omega
      have n3 : o ≠ 3 := by omega
      have n4 : o ≠ 4 := by omega
      have n5 : o ≠ 5 := by omega
      have n6 : o ≠ 6 := by omega
      have n7 : o ≠ 7 := by omega
      have n8 : o ≠ 8 := by omega
      have n9 : ¬ (4 ≤ o ∧ o ≤ 6 ∧ 2 ≤ (ks.length : Int)) := by omega
      by_cases h1 : 1 ≤ o
      · have h2 : ¬ o ≤ 8 := by omega
        simp [n1, n2, n3, n4, n5, n6, n7, n8, n9, h1, h2]
      · simp [n1, n2, n3, n4, n5, n6, n7, n8, n9, h1]
    all_goals by_cases hlt : lt = 0 <;> by_cases h0 : ks.length = 0 <;> by_cases h1 : ks.length = 1 <;> simp [hlt, h0, h1, hk0]
    all_goals (try omega)
    all_goals (try (split <;> simp_all <;> omega))
    all_goals (try (by_cases h5 : 2 ≤ ks.length <;> simp [h5]))
    all_goals (rw [show ((ks.length : Int) == 1) = decide ((ks.length : Int) = 1) from by rw [Bool.eq_iff_iff]; simp])
theorem mayLetters_spec (letters : Int) : CC F_semigroupref01_MayLetters [.int .i64 letters] = some [.bool (decide (1 ≤ letters ∧ letters ≤ 6))] := by
  refine f_semigroupref01_MayLetters_of ?_
  unfold f_semigroupref01_MayLetters
  by_cases h1 : 1 ≤ letters <;> by_cases h2 : letters ≤ 6 <;> simp [h1, h2]
theorem within_spec (e : Ex) (h : e.Ok) : CC F_semigroupref04_Within (exA e []) = some [.bool (decide (e.depth ≤ 40 ∧ e.size ≤ 400))] := by
  obtain ⟨d, e1, e2⟩ := measure_spec e h 400 (by omega) (by omega)
  refine f_semigroupref04_Within_of ?_
  unfold f_semigroupref04_Within
  rw [e1]
  simp only [Option.bind_some, V.nth_zero, V.toInt_int, bif_decide, List.drop_succ_cons, List.drop_zero]
  by_cases hs : e.size ≤ 400
  · rw [if_pos (by omega), e2 (by omega)]
    congr 3
    rw [decide_eq_decide]
    omega
  · rw [if_neg (by omega)]
    congr 3
    simp [hs]
def Ex.val (e : Ex) (letters : Int) : Int :=
  if 1 ≤ letters ∧ letters ≤ 6 then (if e.depth ≤ 40 ∧ e.size ≤ 400 then (if e.wf letters = true then 0 else 4) else 3) else 1
theorem exVal_spec (e : Ex) (h : e.Ok) (letters : Int) : CC F_expr_Validate (exA e [.int .i64 letters]) = some [.int .i64 (e.val letters)] := by
  refine f_expr_Validate_of ?_
  unfold f_expr_Validate Ex.val
  rw [withinLimits_spec e h, wellFormed_spec e h]
  by_cases h1 : 1 ≤ letters
  · by_cases h2 : letters ≤ 6
    · by_cases h3 : e.depth ≤ 40 ∧ e.size ≤ 400
      · cases h4 : e.wf letters <;> simp [h1, h2, h3, show ¬ letters < 1 by omega, show ¬ 6 < letters by omega]
      · simp [h1, h2, h3, show ¬ letters < 1 by omega, show ¬ 6 < letters by omega]
    · simp [h1, h2, show ¬ letters < 1 by omega, show 6 < letters by omega]
  · simp [h1, show letters < 1 by omega]
theorem exRefVal_spec (e : Ex) (h : e.Ok) (letters : Int) : CC F_semigroupref04_Validate (exA e [.int .i64 letters]) = some [.int .i64 (e.val letters)] := by
  refine f_semigroupref04_Validate_of ?_
  unfold f_semigroupref04_Validate Ex.val
  rw [within_spec e h, shaped_spec e h, mayLetters_spec]
  by_cases h1 : 1 ≤ letters ∧ letters ≤ 6
  · by_cases h3 : e.depth ≤ 40 ∧ e.size ≤ 400
    · cases h4 : e.wf letters <;> simp [h1, h3]
    · simp [h1, h3]
  · simp [h1]
end Go.AM
set_option maxRecDepth 100000
set_option linter.unusedSimpArgs false
namespace Go.AM
open Go.Proofs
abbrev Lg := List UInt8 → Prop
def L2 (A B : Lg) : Lg := fun w => ∃ u v, w = u ++ v ∧ A u ∧ B v
inductive StarL (A : Lg) : Lg
  | nil : StarL A []
  | cons {u v : List UInt8} : A u → StarL A v → StarL A (u ++ v)
def headL : List Lg → Lg
  | [] => fun _ => False
  | L :: _ => L
def catL : List Lg → Lg
  | [] => fun w => w = []
  | L :: Ls => Ls.foldl L2 L
def opL (o l : Int) (Ls : List Lg) : Lg := fun w =>
  if o = 2 then w = [] else if o = 3 then ∃ c : UInt8, w = [c] ∧ (c.toNat : Int) - 97 = l
  else if o = 4 then ∃ L ∈ Ls, L w else if o = 5 then catL Ls w else if o = 6 then ∀ L ∈ Ls, L w
  else if o = 7 then StarL (headL Ls) w else if o = 8 then ¬ headL Ls w else False
mutual
def Ex.lang : Ex → Lg
  | .node o l ks => opL o l (Ex.langs ks)
def Ex.langs : List Ex → List Lg
  | [] => []
  | k :: ks => Ex.lang k :: Ex.langs ks
end
theorem langs_map : ∀ ks : List Ex, Ex.langs ks = ks.map Ex.lang
  | [] => by simp only [Ex.langs, List.map_nil]
  | k :: ks => by simp only [Ex.langs, List.map_cons, langs_map ks]
theorem lang_node {o l : Int} {ks : List Ex} : (Ex.node o l ks).lang = opL o l (ks.map Ex.lang) := by rw [Ex.lang, langs_map]
theorem StarL.append {A : Lg} {u v : List UInt8} (h : StarL A u) (h2 : StarL A v) : StarL A (u ++ v) := by
  induction h with
  | nil => exact h2
  | cons a _ ih => rw [List.append_assoc]; exact .cons a ih
theorem StarL.one {A : Lg} {u : List UInt8} (h : A u) : StarL A u := by
  have := StarL.cons h (StarL.nil (A := A)); rwa [List.append_nil] at this
theorem StarL.first {A : Lg} {w : List UInt8} (h : StarL A w) : w = [] ∨ ∃ u v, u ≠ [] ∧ w = u ++ v ∧ A u ∧ StarL A v := by
  induction h with
  | nil => exact .inl rfl
  | @cons u v a hv ih =>
    by_cases hu : u = []
    · subst hu; simpa using ih
    · exact .inr ⟨u, v, hu, rfl, a, hv⟩
def sl (w : List UInt8) (i j : Nat) : List UInt8 := (w.drop i).take (j - i)
def Pt (w : List UInt8) (L : Lg) (i j : Nat) : Prop := i ≤ j ∧ j ≤ w.length ∧ L (sl w i j)
theorem sl_len {w : List UInt8} {i j : Nat} (h : i ≤ j) (hj : j ≤ w.length) : (sl w i j).length = j - i := by simp [sl]; omega
theorem sl_self {w : List UInt8} {i : Nat} : sl w i i = [] := by simp [sl]
theorem sl_all {w : List UInt8} : sl w 0 w.length = w := by simp [sl]
theorem sl_append {w : List UInt8} {i k j : Nat} (h : i ≤ k) (h2 : k ≤ j) : sl w i k ++ sl w k j = sl w i j := by
  unfold sl
  have e : j - i = (k - i) + (j - k) := by omega
  have e2 : w.drop k = (w.drop i).drop (k - i) := by rw [List.drop_drop]; congr 1; omega
  rw [e, e2, List.take_add]
theorem sl_cut {w u v : List UInt8} {i j : Nat} (h : i ≤ j) (hj : j ≤ w.length) (e : sl w i j = u ++ v) : i ≤ i + u.length ∧ i + u.length ≤ j ∧ sl w i (i + u.length) = u ∧ sl w (i + u.length) j = v := by
  have hl := sl_len h hj
  rw [e, List.length_append] at hl
  have h2 : i + u.length ≤ j := by omega
  refine ⟨by omega, h2, ?_⟩
  have := sl_append (w := w) (i := i) (k := i + u.length) (j := j) (by omega) h2
  rw [e] at this
  have l1 : (sl w i (i + u.length)).length = u.length := by rw [sl_len (by omega) (by omega)]; omega
  exact List.append_inj this l1
theorem at_L2 {w : List UInt8} {A B : Lg} {i j : Nat} : Pt w (L2 A B) i j ↔ ∃ k, Pt w A i k ∧ Pt w B k j := by
  constructor
  · rintro ⟨h1, h2, u, v, e, ha, hb⟩
    obtain ⟨c1, c2, c3, c4⟩ := sl_cut h1 h2 e
    exact ⟨i + u.length, ⟨c1, by omega, by rw [c3]; exact ha⟩, ⟨c2, h2, by rw [c4]; exact hb⟩⟩
  · rintro ⟨k, ⟨h1, h2, ha⟩, ⟨h3, h4, hb⟩⟩
    exact ⟨by omega, h4, _, _, (sl_append h1 h3).symm, ha, hb⟩
theorem at_star_refl {w : List UInt8} {A : Lg} {i : Nat} (h : i ≤ w.length) : Pt w (StarL A) i i := ⟨Nat.le_refl _, h, by rw [sl_self]; exact .nil⟩
theorem at_star_trans {w : List UInt8} {A : Lg} {i k j : Nat} (h1 : Pt w (StarL A) i k) (h2 : Pt w (StarL A) k j) : Pt w (StarL A) i j :=
  ⟨Nat.le_trans h1.1 h2.1, h2.2.1, by rw [← sl_append h1.1 h2.1]; exact h1.2.2.append h2.2.2⟩
theorem at_star_one {w : List UInt8} {A : Lg} {i j : Nat} (h : Pt w A i j) : Pt w (StarL A) i j := ⟨h.1, h.2.1, .one h.2.2⟩
theorem at_star {w : List UInt8} {A : Lg} {i j : Nat} : Pt w (StarL A) i j ↔ (i = j ∧ j ≤ w.length) ∨ ∃ k, i < k ∧ Pt w A i k ∧ Pt w (StarL A) k j := by
  constructor
  · rintro ⟨h1, h2, h⟩
    rcases h.first with h | ⟨u, v, hu, e, ha, hv⟩
    · left
      have := sl_len h1 h2
      rw [h, List.length_nil] at this
      exact ⟨by omega, h2⟩
    · right
      obtain ⟨c1, c2, c3, c4⟩ := sl_cut h1 h2 e
      have : 0 < u.length := List.length_pos_iff.2 hu
      exact ⟨i + u.length, by omega, ⟨c1, by omega, by rw [c3]; exact ha⟩, ⟨c2, h2, by rw [c4]; exact hv⟩⟩
  · rintro (⟨rfl, h⟩ | ⟨k, _, h1, h2⟩)
    · exact at_star_refl h
    · exact at_star_trans (at_star_one h1) h2
def Ends (w : List UInt8) (F : Nat) (R : Nat → Option Nat) (L : Lg) : Prop := ∀ i, F.testBit i = true → ∃ S : Nat, R i = some S ∧ ∀ j, S.testBit j = true ↔ Pt w L i j
def In (w : List UInt8) (F : Nat) : Prop := ∀ i, F.testBit i = true → i ≤ w.length
theorem ends_in {w : List UInt8} {S i : Nat} {L : Lg} (h : ∀ j, S.testBit j = true ↔ Pt w L i j) : In w S := fun j hj => ((h j).1 hj).2.1
theorem bit_ext {S : Nat} {p : Nat → Prop} (h : ∀ j, S.testBit j = true ↔ p j) {j : Nat} (hn : ¬ p j) : S.testBit j = false := by
  cases hc : S.testBit j
  · rfl
  · exact absurd ((h j).1 hc) hn
theorem bit_or {S T j : Nat} : (S ||| T).testBit j = true ↔ S.testBit j = true ∨ T.testBit j = true := by rw [Nat.testBit_or]; simp
theorem bit_pow {i j : Nat} : (2 ^ i).testBit j = true ↔ j = i := by rw [Nat.testBit_two_pow]; simp [eq_comm]
end Go.AM
set_option maxRecDepth 100000
set_option linter.unusedSimpArgs false
namespace Go.AM
open Go.Proofs
theorem MayLetters_spec (n : Int) : CC F_semigroupref01_MayLetters [.int .i64 n] = some [.bool (decide (1 ≤ n ∧ n ≤ 6))] := by
  refine f_semigroupref01_MayLetters_of ?_
  unfold f_semigroupref01_MayLetters
  rw [bif_decide]
  split
  · refine congrArg (fun b => some [V.bool b]) ?_; rw [decide_eq_decide]; omega
  · have : ¬ (1 ≤ n ∧ n ≤ 6) := by omega
    simp [this]
end Go.AM
set_option maxRecDepth 100000
namespace Go.AM
open Go.Proofs
noncomputable abbrev B_word_Valid : Code := bodyOf Tryd.prog (ann.fid 15)
noncomputable def s_word_Valid_1 (C : CallF) (w : List UInt8) (letters t18 t19 : Int) {β : Type} (kn : Int → Option β) (kr : ((Bool) ⊕ (Int × Bool)) → Option β) : Option β :=
  bif decide ((t19 : Int) < t18) then
   (bif decide (0 ≤ t19) then (w[(t19 : Int).toNat]?).map fun b => V.int .u8 b.toNat else none).bind fun x1 =>
   bif decide ((x1.toInt : Int) < 97) then
    kr (.inl false)
   else
    (bif decide (0 ≤ t19) then (w[(t19 : Int).toNat]?).map fun b => V.int .u8 b.toNat else none).bind fun x2 =>
    bif decide (((IntKind.wrap .i64 (IntKind.wrap .u8 (x2.toInt - 97))) : Int) ≥ letters) then
     kr (.inl false)
    else
     kn (IntKind.wrap .i64 (t19 + 1))
  else
   kr (.inr (t19, decide ((t19 : Int) < t18)))
noncomputable def s_word_Valid_1L (C : CallF) (w : List UInt8) (letters t18 : Int) : (Int) → Option ((Int) ⊕ ((Bool) ⊕ (Int × Bool))) := fun t19 => s_word_Valid_1 C w letters t18 t19 (fun y => some (.inl y)) (fun r => some (.inr r))
noncomputable def LT_word_Valid (C : CallF) : LTab := fun β n ds k =>
  bif Nat.beq n 65 then loopS S15_65 [false, false, false, true] [[0], [1, 2, 3, 0, 0]] (@s_word_Valid_1 C) ds k else
  none
abbrev TS_word_Valid (C : CallF) (b : Bar) : Prop := Tells Tryd.prog ann C (LT_word_Valid C) 15 (ntmpsOf Tryd.prog (ann.fid 15)) (ann.sin 15).blks.length b
theorem t_word_Valid_1 (C : CallF) : TS_word_Valid C (.loop (codeAt [1, 1, 0, 1, 0, 0] B_word_Valid)) :=
  tl3 S15_65 [false, false, false, true] [[0], [1, 2, 3, 0, 0]] (@s_word_Valid_1 C) (by kernel_rfl) (ltok_of (bs := []) (by kernel_rfl) tells_nil) (fun ds => by kernel_rfl) (fun i x => by kernel_rfl) (fun i x β k => by kernel_rfl) (fun β ds k => by kernel_rfl)
noncomputable def f_word_Valid (C : CallF) (w : List UInt8) (letters : Int) : Option (List V) :=
  bif decide ((letters : Int) < 1) then
   some [.bool false]
  else
   bif decide ((letters : Int) > 6) then
    some [.bool false]
   else
    bif decide (((w.length : Int) : Int) > 2048) then
     some [.bool false]
    else
     (Loop (s_word_Valid_1L C w letters (w.length : Int)) 0).bind (way2 (fun (t_3 : Bool) =>
       some [.bool t_3]) (un fun (t_4 : Int) (t_5 : Bool) =>
       some [.bool true]))
theorem f_word_Valid_of {w : List UInt8} {letters : Int} {r : Option (List V)} (h : f_word_Valid CC w letters = r) : CC F_word_Valid [.str w, .int .i64 letters] = r :=
  func_of (key := 15) (L := LT_word_Valid CC) (bs := [.loop (codeAt [1, 1, 0, 1, 0, 0] B_word_Valid)]) (by kernel_rfl) (tells_cons (t_word_Valid_1 CC) tells_nil) (Eq.trans (by kernel_rfl) h)
end Go.AM
set_option maxRecDepth 100000
namespace Go.AM
open Go.Proofs
noncomputable abbrev B_semigroupref01_Valid : Code := bodyOf Tryd.prog (ann.fid 8)
noncomputable def s_semigroupref01_Valid_1 (C : CallF) (w : List UInt8) (letters i : Int) {β : Type} (kn : Int → Option β) (kr : ((Bool) ⊕ (Int × Bool)) → Option β) : Option β :=
  bif decide ((i : Int) < (w.length : Int)) then
   (bif decide (0 ≤ i) then (w[(i : Int).toNat]?).map fun b => V.int .u8 b.toNat else none).bind fun x2 =>
   bif decide ((x2.toInt : Int) < 97) then
    kr (.inl false)
   else
    (bif decide (0 ≤ i) then (w[(i : Int).toNat]?).map fun b => V.int .u8 b.toNat else none).bind fun x3 =>
    bif decide (((IntKind.wrap .i64 (IntKind.wrap .u8 (x3.toInt - 97))) : Int) ≥ letters) then
     kr (.inl false)
    else
     kn (IntKind.wrap .i64 (i + 1))
  else
   kr (.inr (i, decide ((i : Int) < (w.length : Int))))
noncomputable def s_semigroupref01_Valid_1L (C : CallF) (w : List UInt8) (letters : Int) : (Int) → Option ((Int) ⊕ ((Bool) ⊕ (Int × Bool))) := fun i => s_semigroupref01_Valid_1 C w letters i (fun y => some (.inl y)) (fun r => some (.inr r))
noncomputable def LT_semigroupref01_Valid (C : CallF) : LTab := fun β n ds k =>
  bif Nat.beq n 65 then loopS S8_65 [false, false, true] [[0], [1, 2, 0, 0]] (@s_semigroupref01_Valid_1 C) ds k else
  none
abbrev TS_semigroupref01_Valid (C : CallF) (b : Bar) : Prop := Tells Tryd.prog ann C (LT_semigroupref01_Valid C) 8 (ntmpsOf Tryd.prog (ann.fid 8)) (ann.sin 8).blks.length b
theorem t_semigroupref01_Valid_1 (C : CallF) : TS_semigroupref01_Valid C (.loop (codeAt [1, 1, 0, 1, 0, 0] B_semigroupref01_Valid)) :=
  tl3 S8_65 [false, false, true] [[0], [1, 2, 0, 0]] (@s_semigroupref01_Valid_1 C) (by kernel_rfl) (ltok_of (bs := []) (by kernel_rfl) tells_nil) (fun ds => by kernel_rfl) (fun i x => by kernel_rfl) (fun i x β k => by kernel_rfl) (fun β ds k => by kernel_rfl)
noncomputable def f_semigroupref01_Valid (C : CallF) (w : List UInt8) (letters : Int) : Option (List V) :=
  (C F_semigroupref01_MayLetters [.int .i64 letters]).bind fun r1 =>
  bif !((V.nth r1 0).toBool) then
   some [.bool false]
  else
   bif decide (((w.length : Int) : Int) > 2048) then
    some [.bool false]
   else
    (Loop (s_semigroupref01_Valid_1L C w letters) 0).bind (way2 (fun (t_4 : Bool) =>
      some [.bool t_4]) (un fun (i_5 : Int) (t_6 : Bool) =>
      some [.bool true]))
theorem f_semigroupref01_Valid_of {w : List UInt8} {letters : Int} {r : Option (List V)} (h : f_semigroupref01_Valid CC w letters = r) : CC F_semigroupref01_Valid [.str w, .int .i64 letters] = r :=
  func_of (key := 8) (L := LT_semigroupref01_Valid CC) (bs := [.loop (codeAt [1, 1, 0, 1, 0, 0] B_semigroupref01_Valid)]) (by kernel_rfl) (tells_cons (t_semigroupref01_Valid_1 CC) tells_nil) (Eq.trans (by kernel_rfl) h)
end Go.AM
set_option maxRecDepth 100000
set_option linter.unusedSimpArgs false
namespace Go.AM
open Go.Proofs
def let_ (w : List UInt8) (i : Nat) : Int := ((w.getD i 0).toNat : Int) - 97
def wOk (w : List UInt8) (L : Int) : Prop := 1 ≤ L ∧ L ≤ 6 ∧ w.length ≤ 2048 ∧ ∀ i, i < w.length → 0 ≤ let_ w i ∧ let_ w i < L
instance (w : List UInt8) (L : Int) : Decidable (wOk w L) := by unfold wOk; infer_instance
theorem byte_at {w : List UInt8} {i : Nat} (h : i < w.length) : (bif decide (0 ≤ (i : Int)) then (w[((i : Nat) : Int).toNat]?).map (fun b => V.int .u8 b.toNat) else none) = some (.int .u8 ((w.getD i 0).toNat : Int)) := by
  rw [bif_decide, if_pos (by omega), Int.toNat_natCast]
  simp [h]
theorem byte_lt (b : UInt8) : b.toNat < 256 := b.toNat_lt
theorem let_wrap {w : List UInt8} {i : Nat} (h : 0 ≤ let_ w i) : IntKind.wrap .u8 (((w.getD i 0).toNat : Int) - 97) = let_ w i := by
  have := byte_lt (w.getD i 0)
  unfold let_ at *
  exact wrap8 h (by omega)
theorem let_lt {w : List UInt8} {i : Nat} : let_ w i < 256 := by
  have := byte_lt (w.getD i 0)
  unfold let_
  omega
theorem word_loop {w : List UInt8} {L : Int} (hl : w.length ≤ 2048) : Loop (s_word_Valid_1L CC w L (w.length : Int)) 0 = some (if ∀ i, i < w.length → 0 ≤ let_ w i ∧ let_ w i < L then .inr ((w.length : Int), false) else .inl false) := by
  refine Loop_all (good := fun i => 0 ≤ let_ w i ∧ let_ w i < L) w.length (fun i => (i : Int)) (Sum.inl false : Bool ⊕ (Int × Bool)) (Sum.inr ((w.length : Int), false)) (fun i hi => ?_) ?_
  · simp only [s_word_Valid_1L, s_word_Valid_1, un]
    rw [bif_decide, if_pos (by omega), byte_at hi]
    simp only [Option.bind_some, V.toInt_int, bif_decide]
    by_cases h1 : 0 ≤ let_ w i
    · have h1' := h1
      unfold let_ at h1'
      rw [if_neg (by omega), let_wrap h1, wrap64 (by omega) (by have := @let_lt w i; omega)]
      by_cases h2 : let_ w i < L
      · rw [if_neg (by omega), if_pos ⟨h1, h2⟩, wrap64 (by omega) (by omega)]
        simp
      · rw [if_pos (by omega), if_neg (fun h => h2 h.2)]
    · have h1' := h1
      unfold let_ at h1'
      rw [if_pos (by omega), if_neg (fun h => h1 h.1)]
  · simp only [s_word_Valid_1L, s_word_Valid_1, un]
    rw [bif_decide, if_neg (by omega)]
    simp
theorem refWord_loop {w : List UInt8} {L : Int} (hl : w.length ≤ 2048) : Loop (s_semigroupref01_Valid_1L CC w L) 0 = some (if ∀ i, i < w.length → 0 ≤ let_ w i ∧ let_ w i < L then .inr ((w.length : Int), false) else .inl false) := by
  refine Loop_all (good := fun i => 0 ≤ let_ w i ∧ let_ w i < L) w.length (fun i => (i : Int)) (Sum.inl false : Bool ⊕ (Int × Bool)) (Sum.inr ((w.length : Int), false)) (fun i hi => ?_) ?_
  · simp only [s_semigroupref01_Valid_1L, s_semigroupref01_Valid_1, un]
    rw [bif_decide, if_pos (by omega), byte_at hi]
    simp only [Option.bind_some, V.toInt_int, bif_decide]
    by_cases h1 : 0 ≤ let_ w i
    · have h1' := h1
      unfold let_ at h1'
      rw [if_neg (by omega), let_wrap h1, wrap64 (by omega) (by have := @let_lt w i; omega)]
      by_cases h2 : let_ w i < L
      · rw [if_neg (by omega), if_pos ⟨h1, h2⟩, wrap64 (by omega) (by omega)]
        simp
      · rw [if_pos (by omega), if_neg (fun h => h2 h.2)]
    · have h1' := h1
      unfold let_ at h1'
      rw [if_pos (by omega), if_neg (fun h => h1 h.1)]
  · simp only [s_semigroupref01_Valid_1L, s_semigroupref01_Valid_1, un]
    rw [bif_decide, if_neg (by omega)]
    simp
theorem wValid_spec (w : List UInt8) (L : Int) : CC F_word_Valid [.str w, .int .i64 L] = some [.bool (decide (wOk w L))] := by
  refine f_word_Valid_of ?_
  unfold f_word_Valid
  simp only [bif_decide]
  by_cases h1 : L < 1
  · rw [if_pos h1, decide_eq_false (fun h => by have := h.1; omega)]
  rw [if_neg h1]
  by_cases h2 : L > 6
  · rw [if_pos h2, decide_eq_false (fun h => by have := h.2.1; omega)]
  rw [if_neg h2]
  by_cases h3 : (w.length : Int) > 2048
  · rw [if_pos h3, decide_eq_false (fun h => by have := h.2.2.1; omega)]
  rw [if_neg h3, word_loop (by omega)]
  by_cases h4 : ∀ i, i < w.length → 0 ≤ let_ w i ∧ let_ w i < L
  · rw [if_pos h4, decide_eq_true (show wOk w L from ⟨by omega, by omega, by omega, h4⟩)]
    simp [way2, un]
  · rw [if_neg h4, decide_eq_false (fun h => h4 h.2.2.2)]
    simp [way2, un]
theorem refValid_spec (w : List UInt8) (L : Int) : CC F_semigroupref01_Valid [.str w, .int .i64 L] = some [.bool (decide (wOk w L))] := by
  refine f_semigroupref01_Valid_of ?_
  unfold f_semigroupref01_Valid
  rw [MayLetters_spec]
  simp only [Option.bind_some, V.nth_zero, V.toBool_bool, bif_not, bif_decide]
  by_cases h1 : ¬ (1 ≤ L ∧ L ≤ 6)
  · rw [if_neg h1, decide_eq_false (fun h => h1 ⟨h.1, h.2.1⟩)]
  have h1 := Classical.not_not.1 h1
  rw [if_pos h1]
  by_cases h3 : (w.length : Int) > 2048
  · rw [if_pos h3, decide_eq_false (fun h => by have := h.2.2.1; omega)]
  rw [if_neg h3, refWord_loop (by omega)]
  by_cases h4 : ∀ i, i < w.length → 0 ≤ let_ w i ∧ let_ w i < L
  · rw [if_pos h4, decide_eq_true (show wOk w L from ⟨h1.1, h1.2, by omega, h4⟩)]
    simp [way2, un]
  · rw [if_neg h4, decide_eq_false (fun h => h4 h.2.2.2)]
    simp [way2, un]
end Go.AM
namespace Go.AM
theorem low_form : ∀ (x : Nat), x ≠ 0 → ∃ k m, x = 2 ^ k * (2 * m + 1) := by
  intro x
  induction x using Nat.strongRecOn with
  | ind x ih =>
    intro hx
    by_cases h : x % 2 = 1
    · exact ⟨0, x / 2, by simp; omega⟩
    · obtain ⟨k, m, hm⟩ := ih (x / 2) (by omega) (by omega)
      refine ⟨k + 1, m, ?_⟩
      rw [Nat.pow_succ, Nat.mul_assoc, Nat.mul_comm 2 (2 * m + 1), ← Nat.mul_assoc, ← hm]
      omega
theorem bit_low {k m j : Nat} : (2 ^ k * (2 * m + 1)).testBit j = (decide (j = k) || (decide (k < j) && m.testBit (j - k - 1))) := by
  rw [Nat.testBit_two_pow_mul]
  by_cases h : j < k
  · have h1 : ¬ k ≤ j := by omega
    have h2 : ¬ j = k := by omega
    have h3 : ¬ k < j := by omega
    simp [h1, h2, h3]
  · by_cases h2 : j = k
    · subst h2; simp
    · have h3 : k < j := by omega
      obtain ⟨d, hd⟩ : ∃ d, j - k = d + 1 := ⟨j - k - 1, by omega⟩
      have h4 : k ≤ j := by omega
      rw [hd, Nat.testBit_succ]
      have h5 : (2 * m + 1) / 2 = m := by omega
      have h6 : j - k - 1 = d := by omega
      rw [h5]
      simp [h2, h3, h4]
theorem bit_high {k m j : Nat} : (2 ^ k * (2 * m)).testBit j = (decide (k < j) && m.testBit (j - k - 1)) := by
  rw [Nat.testBit_two_pow_mul]
  by_cases h : j < k
  · have h1 : ¬ k ≤ j := by omega
    have h3 : ¬ k < j := by omega
    simp [h1, h3]
  · by_cases h2 : j = k
    · subst h2; simp
    · have h3 : k < j := by omega
      obtain ⟨d, hd⟩ : ∃ d, j - k = d + 1 := ⟨j - k - 1, by omega⟩
      have h4 : k ≤ j := by omega
      rw [hd, Nat.testBit_succ]
      have h5 : 2 * m / 2 = m := by omega
      have h6 : j - k - 1 = d := by omega
      rw [h5]
      simp [h3, h4]
theorem low_lt {k m : Nat} (h : 2 ^ k * (2 * m + 1) < 2 ^ 64) : k < 64 ∧ m < 2 ^ (63 - k) := by
  have h1 : 2 ^ k ≤ 2 ^ k * (2 * m + 1) := Nat.le_mul_of_pos_right _ (by omega)
  have hk : k < 64 := (Nat.pow_lt_pow_iff_right (by omega : 1 < 2)).1 (Nat.lt_of_le_of_lt h1 h)
  refine ⟨hk, ?_⟩
  have h2 : 2 ^ 64 = 2 ^ k * (2 * 2 ^ (63 - k)) := by
    have h4 : 2 * 2 ^ (63 - k) = 2 ^ (63 - k + 1) := by rw [Nat.pow_succ, Nat.mul_comm]
    rw [h4, ← Nat.pow_add]; congr 1; omega
  rw [h2] at h
  have := Nat.lt_of_mul_lt_mul_left h
  omega
theorem neg_low {k m : Nat} (h : 2 ^ k * (2 * m + 1) < 2 ^ 64) : 2 ^ 64 - 2 ^ k * (2 * m + 1) = 2 ^ k * (2 * (2 ^ (63 - k) - (m + 1)) + 1) := by
  obtain ⟨hk, hm⟩ := low_lt h
  have h2 : 2 ^ 64 = 2 ^ k * (2 * 2 ^ (63 - k)) := by
    have h4 : 2 * 2 ^ (63 - k) = 2 ^ (63 - k + 1) := by rw [Nat.pow_succ, Nat.mul_comm]
    rw [h4, ← Nat.pow_add]; congr 1; omega
  rw [h2, ← Nat.mul_sub]
  congr 1
  omega
theorem and_neg {k m : Nat} (h : 2 ^ k * (2 * m + 1) < 2 ^ 64) : (2 ^ k * (2 * m + 1)) &&& (2 ^ 64 - 2 ^ k * (2 * m + 1)) = 2 ^ k := by
  obtain ⟨hk, hm⟩ := low_lt h
  rw [neg_low h]
  apply Nat.eq_of_testBit_eq
  intro j
  rw [Nat.testBit_and, bit_low, bit_low, Nat.testBit_two_pow, Nat.testBit_two_pow_sub_succ hm]
  by_cases h1 : j = k
  · simp [h1]
  · have h2 : ¬ k = j := fun h => h1 h.symm
    cases m.testBit (j - k - 1) <;> simp [h1, h2]
theorem and_pred {k m : Nat} : (2 ^ k * (2 * m + 1)) &&& (2 ^ k * (2 * m + 1) - 1) = 2 ^ k * (2 * m) := by
  have e : 2 ^ k * (2 * m + 1) - 1 = 2 ^ k * (2 * m) + (2 ^ k - 1) := by
    have : 0 < 2 ^ k := Nat.pos_of_ne_zero (by simp)
    rw [Nat.mul_add]; omega
  rw [e]
  apply Nat.eq_of_testBit_eq
  intro j
  have hlt : 2 ^ k - 1 < 2 ^ k := by have : 0 < 2 ^ k := Nat.pos_of_ne_zero (by simp); omega
  rw [Nat.testBit_and, bit_low, bit_high, Nat.testBit_two_pow_mul_add _ hlt, Nat.testBit_two_pow_sub_one]
  by_cases h1 : j < k
  · have h2 : ¬ j = k := by omega
    have h3 : ¬ k < j := by omega
    simp [h1, h2, h3]
  · by_cases h2 : j = k
    · subst h2
      simp
    · have h3 : k < j := by omega
      obtain ⟨d, hd⟩ : ∃ d, j - k = d + 1 := ⟨j - k - 1, by omega⟩
      have h5 : 2 * m / 2 = m := by omega
      have h6 : j - k - 1 = d := by omega
      rw [hd, Nat.testBit_succ, h5]
      simp [h1, h2, h3]
end Go.AM
set_option maxRecDepth 100000
namespace Go.AM
open Go.Proofs
noncomputable def f_bits_TrailingZeros64 (C : CallF) (x : Int) : Option (List V) :=
  bif (x : Int) == 0 then
   some [.int .i64 64]
  else
   bif (decide (0 ≤ (Int.fdiv (IntKind.wrap .u64 (285870213051353865 * (IntKind.wrap .u64 ((BitVec.ofInt (IntKind.bits .u64) x &&& BitVec.ofInt (IntKind.bits .u64) (IntKind.wrap .u64 (0 - x))).toNat)))) (2 ^ (min (58 : Int).toNat (IntKind.bits .u64)))))) && (decide ((Int.fdiv (IntKind.wrap .u64 (285870213051353865 * (IntKind.wrap .u64 ((BitVec.ofInt (IntKind.bits .u64) x &&& BitVec.ofInt (IntKind.bits .u64) (IntKind.wrap .u64 (0 - x))).toNat)))) (2 ^ (min (58 : Int).toNat (IntKind.bits .u64)))) < 64)) then
    (((tab_0).drop ((Int.fdiv (IntKind.wrap .u64 (285870213051353865 * (IntKind.wrap .u64 ((BitVec.ofInt (IntKind.bits .u64) x &&& BitVec.ofInt (IntKind.bits .u64) (IntKind.wrap .u64 (0 - x))).toNat)))) (2 ^ (min (58 : Int).toNat (IntKind.bits .u64))) : Int).toNat * 1))[0]?).bind fun x1 =>
    bif typed1 Tryd.prog 5 x1 then
     some [.int .i64 (IntKind.wrap .i64 x1.toInt)]
    else none
   else none
theorem f_bits_TrailingZeros64_of {x : Int} {r : Option (List V)} (h : f_bits_TrailingZeros64 CC x = r) : CC F_bits_TrailingZeros64 [.int .u64 x] = r :=
  func_of (key := 53) (L := LT0) (bs := []) (by kernel_rfl) tells_nil (Eq.trans (by kernel_rfl) h)
end Go.AM
set_option maxRecDepth 100000
set_option linter.unusedSimpArgs false
namespace Go.AM
open Go.Proofs
def bruijn (k : Nat) : Nat := 285870213051353865 * 2 ^ k % 18446744073709551616 / 288230376151711744
theorem bruijn_tab : (List.range 64).map (fun k => (tab_0.drop (bruijn k * 1))[0]?) = (List.range 64).map (fun k : Nat => some (V.int .u8 (k : Int))) := by kernel_rfl
theorem bruijn_lt : (List.range 64).all (fun k => Nat.blt (bruijn k) 64) = true := by kernel_rfl
theorem bruijn_at {k : Nat} (hk : k < 64) : (tab_0.drop (bruijn k * 1))[0]? = some (V.int .u8 (k : Int)) := by
  have h := congrArg (·[k]?) bruijn_tab
  simpa [hk] using h
theorem bruijn_lt' {k : Nat} (hk : k < 64) : bruijn k < 64 := by
  have h := List.all_eq_true.1 bruijn_lt k (List.mem_range.2 hk)
  simpa [Nat.blt_eq] using h
theorem typed_u8 (z : Int) : typed1 Tryd.prog 5 (.int .u8 z) = true := by kernel_rfl
theorem Trailing_spec {k m : Nat} (h : 2 ^ k * (2 * m + 1) < 2 ^ 64) : CC F_bits_TrailingZeros64 [.int .u64 ((2 ^ k * (2 * m + 1) : Nat) : Int)] = some [.int .i64 (k : Int)] := by
  obtain ⟨hk, hm⟩ := low_lt h
  have hpos : 0 < 2 ^ k * (2 * m + 1) := Nat.mul_pos (Nat.pos_of_ne_zero (by simp)) (by omega)
  refine f_bits_TrailingZeros64_of ?_
  unfold f_bits_TrailingZeros64
  generalize hx : 2 ^ k * (2 * m + 1) = x at *
  have e1 : IntKind.wrap .u64 (0 - (x : Int)) = ((2 ^ 64 - x : Nat) : Int) := by rw [wrap_u64]; omega
  have e2 : x &&& (2 ^ 64 - x) = 2 ^ k := by rw [← hx]; exact and_neg (by rw [hx]; exact h)
  have hk2 : 2 ^ k < 2 ^ 64 := Nat.pow_lt_pow_right (by omega) hk
  have e3 : IntKind.wrap .u64 (285870213051353865 * ((2 ^ k : Nat) : Int)) = ((285870213051353865 * 2 ^ k % 18446744073709551616 : Nat) : Int) := by rw [wrap_u64]; omega
  have e4 : Int.fdiv ((285870213051353865 * 2 ^ k % 18446744073709551616 : Nat) : Int) (2 ^ (min (58 : Int).toNat (IntKind.bits .u64))) = ((bruijn k : Nat) : Int) := by
    have := u64_shr (A := 285870213051353865 * 2 ^ k % 18446744073709551616) (m := 58) (by omega)
    exact this
  rw [bif_beq, if_neg (by omega), e1, u64_and h (by omega), e2, e3, e4, Int.toNat_natCast, bruijn_at hk]
  have hb := bruijn_lt' hk
  rw [bif_and, bif_decide, if_pos (by omega), bif_decide, if_pos (by omega)]
  simp only [Option.bind_some, typed_u8, cond_true, V.toInt_int]
  rw [wrap64 (by omega) (by omega)]
end Go.AM
set_option maxRecDepth 100000
namespace Go.AM
open Go.Proofs
noncomputable def f_expr_offsets_add (C : CallF) (i : Int) (ss : List V) : Option (List V) :=
  bif (decide (0 ≤ (Int.fdiv i (2 ^ (min (6 : Int).toNat (IntKind.bits .i64)))))) && (decide ((Int.fdiv i (2 ^ (min (6 : Int).toNat (IntKind.bits .i64)))) < (ss.length : Int))) then
   (ss[(Int.fdiv i (2 ^ (min (6 : Int).toNat (IntKind.bits .i64))) : Int).toNat]?).bind fun x1 =>
   bif decide (0 ≤ (IntKind.wrap .i64 ((BitVec.ofInt (IntKind.bits .i64) i &&& BitVec.ofInt (IntKind.bits .i64) 63).toNat))) then
    bif (decide (0 ≤ (Int.fdiv i (2 ^ (min (6 : Int).toNat (IntKind.bits .i64)))))) && (decide ((Int.fdiv i (2 ^ (min (6 : Int).toNat (IntKind.bits .i64)))) < (ss.length : Int))) then
     (ss[(Int.fdiv i (2 ^ (min (6 : Int).toNat (IntKind.bits .i64))) : Int).toNat]?).bind fun x2 =>
     some [.list T_uint64 (ss.set ((Int.fdiv i (2 ^ (min (6 : Int).toNat (IntKind.bits .i64))) : Int).toNat) (.int .u64 (IntKind.wrap .u64 ((BitVec.ofInt (IntKind.bits .u64) x1.toInt ||| BitVec.ofInt (IntKind.bits .u64) (IntKind.wrap .u64 (1 * 2 ^ (min (IntKind.wrap .i64 ((BitVec.ofInt (IntKind.bits .i64) i &&& BitVec.ofInt (IntKind.bits .i64) 63).toNat)).toNat (IntKind.bits .u64))))).toNat))))]
    else none
   else none
  else none
theorem f_expr_offsets_add_of {i : Int} {ss : List V} {r : Option (List V)} (h : f_expr_offsets_add CC i ss = r) : CC F_expr_offsets_add [.int .i64 i, .list T_uint64 ss] = r :=
  func_of (key := 17) (L := LT0) (bs := []) (by kernel_rfl) tells_nil (Eq.trans (by kernel_rfl) h)
end Go.AM
set_option maxRecDepth 100000
namespace Go.AM
open Go.Proofs
noncomputable def f_expr_offsets_add_k99 (C : CallF) (s : Nat) (i : Int) (ss : List V) : Option (List V) :=
  (rowV Tryd.prog T_expr_offsets ss [(s, 0)]).bind fun x1 =>
  bif (decide (0 ≤ (Int.fdiv i (2 ^ (min (6 : Int).toNat (IntKind.bits .i64)))))) && (decide ((Int.fdiv i (2 ^ (min (6 : Int).toNat (IntKind.bits .i64)))) < (x1.toList.length : Int))) then
   (rowV Tryd.prog T_expr_offsets ss [(s, 0)]).bind fun x2 =>
   (x2.toList[(Int.fdiv i (2 ^ (min (6 : Int).toNat (IntKind.bits .i64))) : Int).toNat]?).bind fun x3 =>
   bif decide (0 ≤ (IntKind.wrap .i64 ((BitVec.ofInt (IntKind.bits .i64) i &&& BitVec.ofInt (IntKind.bits .i64) 63).toNat))) then
    (rowV Tryd.prog T_expr_offsets ss [(s, 0)]).bind fun x4 =>
    bif (decide (0 ≤ (Int.fdiv i (2 ^ (min (6 : Int).toNat (IntKind.bits .i64)))))) && (decide ((Int.fdiv i (2 ^ (min (6 : Int).toNat (IntKind.bits .i64)))) < (x4.toList.length : Int))) then
     (rowV Tryd.prog T_expr_offsets ss [(s, 0)]).bind fun x5 =>
     (x5.toList[(Int.fdiv i (2 ^ (min (6 : Int).toNat (IntKind.bits .i64))) : Int).toNat]?).bind fun x6 =>
     some [.list T_expr_offsets (setRow Tryd.prog (x5.toList.set ((Int.fdiv i (2 ^ (min (6 : Int).toNat (IntKind.bits .i64))) : Int).toNat) (.int .u64 (IntKind.wrap .u64 ((BitVec.ofInt (IntKind.bits .u64) x3.toInt ||| BitVec.ofInt (IntKind.bits .u64) (IntKind.wrap .u64 (1 * 2 ^ (min (IntKind.wrap .i64 ((BitVec.ofInt (IntKind.bits .i64) i &&& BitVec.ofInt (IntKind.bits .i64) 63).toNat)).toNat (IntKind.bits .u64))))).toNat)))) T_expr_offsets ss [(s, 0)])]
    else none
   else none
  else none
theorem f_expr_offsets_add_k99_of {s : Nat} {i : Int} {ss : List V} {r : Option (List V)} (h : f_expr_offsets_add_k99 CC s i ss = r) : CC K_expr_offsets_add_k99 [natV s, .int .i64 i, .list T_expr_offsets ss] = r :=
  func_of (key := 99) (L := LT0) (bs := []) (by kernel_rfl) tells_nil (Eq.trans (by kernel_rfl) h)
end Go.AM
set_option maxRecDepth 100000
namespace Go.AM
open Go.Proofs
noncomputable def f_expr_offsets_has (C : CallF) (s : List V) (i : Int) : Option (List V) :=
  (idx s (Int.fdiv i (2 ^ (min (6 : Int).toNat (IntKind.bits .i64))))).bind fun x1 =>
  bif decide (0 ≤ (IntKind.wrap .i64 ((BitVec.ofInt (IntKind.bits .i64) i &&& BitVec.ofInt (IntKind.bits .i64) 63).toNat))) then
   some [.bool (((IntKind.wrap .u64 ((BitVec.ofInt (IntKind.bits .u64) (Int.fdiv x1.toInt (2 ^ (min (IntKind.wrap .i64 ((BitVec.ofInt (IntKind.bits .i64) i &&& BitVec.ofInt (IntKind.bits .i64) 63).toNat)).toNat (IntKind.bits .u64)))) &&& BitVec.ofInt (IntKind.bits .u64) 1).toNat)) : Int) == 1)]
  else none
theorem f_expr_offsets_has_of {s : List V} {i : Int} {r : Option (List V)} (h : f_expr_offsets_has CC s i = r) : CC F_expr_offsets_has [.list T_uint64 s, .int .i64 i] = r :=
  func_of (key := 19) (L := LT0) (bs := []) (by kernel_rfl) tells_nil (Eq.trans (by kernel_rfl) h)
end Go.AM
set_option maxRecDepth 100000
namespace Go.AM
open Go.Proofs
noncomputable abbrev B_expr_offsets_unite : Code := bodyOf Tryd.prog (ann.fid 45)
noncomputable def s_expr_offsets_unite_1 (C : CallF) (t : List V) (k' : Int) (ss : List V) {β : Type} (kn : (Int × (List V)) → Option β) (kr : (Int × Bool × (List V)) → Option β) : Option β :=
  bif decide ((k' : Int) < (ss.length : Int)) then
   bif (decide (0 ≤ k')) && (decide (k' < (ss.length : Int))) then
    (ss[(k' : Int).toNat]?).bind fun x1 =>
    (idx t k').bind fun x2 =>
    bif (decide (0 ≤ k')) && (decide (k' < (ss.length : Int))) then
     (ss[(k' : Int).toNat]?).bind fun x3 =>
     kn (IntKind.wrap .i64 (k' + 1), ss.set ((k' : Int).toNat) (.int .u64 (IntKind.wrap .u64 ((BitVec.ofInt (IntKind.bits .u64) x1.toInt ||| BitVec.ofInt (IntKind.bits .u64) x2.toInt).toNat))))
    else none
   else none
  else
   kr (k', decide ((k' : Int) < (ss.length : Int)), ss)
noncomputable def s_expr_offsets_unite_1L (C : CallF) (t : List V) : (Int × (List V)) → Option ((Int × (List V)) ⊕ (Int × Bool × (List V))) := un fun k' ss => s_expr_offsets_unite_1 C t k' ss (fun y => some (.inl y)) (fun r => some (.inr r))
noncomputable def LT_expr_offsets_unite (C : CallF) : LTab := fun β n ds k =>
  bif Nat.beq n 17 then loopS S45_17 [false, true, true] [[1, 0, 0, 0]] (@s_expr_offsets_unite_1 C) ds k else
  none
abbrev TS_expr_offsets_unite (C : CallF) (b : Bar) : Prop := Tells Tryd.prog ann C (LT_expr_offsets_unite C) 45 (ntmpsOf Tryd.prog (ann.fid 45)) (ann.sin 45).blks.length b
theorem t_expr_offsets_unite_1 (C : CallF) : TS_expr_offsets_unite C (.loop (codeAt [1, 0, 0] B_expr_offsets_unite)) :=
  tl3 S45_17 [false, true, true] [[1, 0, 0, 0]] (@s_expr_offsets_unite_1 C) (by kernel_rfl) (ltok_of (bs := []) (by kernel_rfl) tells_nil) (fun ds => by kernel_rfl) (fun i x => by kernel_rfl) (fun i x β k => by kernel_rfl) (fun β ds k => by kernel_rfl)
noncomputable def f_expr_offsets_unite (C : CallF) (t : List V) (least : Int) (ss : List V) : Option (List V) :=
  (Loop (s_expr_offsets_unite_1L C t) (Int.fdiv least (2 ^ (min (6 : Int).toNat (IntKind.bits .i64))), ss)).bind (un fun (k_4 : Int) => un fun (t_5 : Bool) (ss_6 : List V) =>
    some [.list T_uint64 ss_6])
theorem f_expr_offsets_unite_of {t : List V} {least : Int} {ss : List V} {r : Option (List V)} (h : f_expr_offsets_unite CC t least ss = r) : CC F_expr_offsets_unite [.list T_uint64 t, .int .i64 least, .list T_uint64 ss] = r :=
  func_of (key := 45) (L := LT_expr_offsets_unite CC) (bs := [.loop (codeAt [1, 0, 0] B_expr_offsets_unite)]) (by kernel_rfl) (tells_cons (t_expr_offsets_unite_1 CC) tells_nil) (Eq.trans (by kernel_rfl) h)
end Go.AM
set_option maxRecDepth 100000
namespace Go.AM
open Go.Proofs
noncomputable def f_expr_matcher_none (C : CallF) (m : List UInt8) : Option (List V) :=
  bif (decide (0 ≤ (IntKind.wrap .i64 ((Int.fdiv (m.length : Int) (2 ^ (min (6 : Int).toNat (IntKind.bits .i64)))) + 1)))) && ((decide ((IntKind.wrap .i64 ((Int.fdiv (m.length : Int) (2 ^ (min (6 : Int).toNat (IntKind.bits .i64)))) + 1)) ≤ (IntKind.wrap .i64 ((Int.fdiv (m.length : Int) (2 ^ (min (6 : Int).toNat (IntKind.bits .i64)))) + 1)))) && (Nat.ble (((IntKind.wrap .i64 ((Int.fdiv (m.length : Int) (2 ^ (min (6 : Int).toNat (IntKind.bits .i64)))) + 1) : Int).toNat) * 8) maxBytes)) then
   some [.list T_uint64 (List.replicate ((IntKind.wrap .i64 ((Int.fdiv (m.length : Int) (2 ^ (min (6 : Int).toNat (IntKind.bits .i64)))) + 1) : Int).toNat) (V.int .u64 0))]
  else none
theorem f_expr_matcher_none_of {m : List UInt8} {r : Option (List V)} (h : f_expr_matcher_none CC m = r) : CC F_expr_matcher_none [.str m] = r :=
  func_of (key := 16) (L := LT0) (bs := []) (by kernel_rfl) tells_nil (Eq.trans (by kernel_rfl) h)
end Go.AM
set_option maxRecDepth 100000
set_option linter.unusedSimpArgs false
namespace Go.AM
open Go.Proofs
def wd (S k : Nat) : Nat := (S >>> (64 * k)) % 2 ^ 64
def wV (g : Nat → Nat) (k : Nat) : V := .int .u64 ((g k : Nat) : Int)
def offF (m : Nat) (g : Nat → Nat) : List V := (List.range m).map (wV g)
def offV (m S : Nat) : List V := offF m (wd S)
theorem wd_bit {S k j : Nat} : (wd S k).testBit j = (decide (j < 64) && S.testBit (64 * k + j)) := by
  unfold wd; rw [Nat.testBit_mod_two_pow, Nat.testBit_shiftRight]
theorem wd_lt {S k : Nat} : wd S k < 2 ^ 64 := Nat.mod_lt _ (by decide)
theorem offF_len {m : Nat} {g : Nat → Nat} : (offF m g).length = m := by simp [offF]
theorem offV_len {m S : Nat} : (offV m S).length = m := offF_len
theorem offF_get {m k : Nat} {g : Nat → Nat} (h : k < m) : (offF m g)[k]? = some (.int .u64 ((g k : Nat) : Int)) := by simp [offF, wV, h]
theorem offV_get {m k S : Nat} (h : k < m) : (offV m S)[k]? = some (.int .u64 ((wd S k : Nat) : Int)) := offF_get h
theorem range_set {α : Type} {m k : Nat} {f : Nat → α} {x : α} : ((List.range m).map f).set k x = (List.range m).map fun j => if j = k then x else f j := by
  apply List.ext_getElem?
  intro i
  rw [List.getElem?_set]
  by_cases h : k = i
  · subst h
    by_cases hk : k < m
    · simp [hk]
    · simp [hk]
  · have h' : ¬ i = k := fun e => h e.symm
    by_cases hi : i < m
    · simp [h, h', hi]
    · simp [h, hi]
theorem offF_set {m k x : Nat} {g : Nat → Nat} : (offF m g).set k (.int .u64 ((x : Nat) : Int)) = offF m (fun j => if j = k then x else g j) := by
  unfold offF
  rw [range_set]
  refine List.map_congr_left fun j _ => ?_
  unfold wV
  by_cases h : j = k
  · simp [h]
  · simp [h]
theorem offV_set {m k x S : Nat} : (offV m S).set k (.int .u64 ((x : Nat) : Int)) = offF m (fun j => if j = k then x else wd S j) := offF_set
theorem offF_ext {m : Nat} {g h : Nat → Nat} (e : ∀ k, k < m → g k = h k) : offF m g = offF m h := by
  refine List.map_congr_left fun j hj => ?_
  unfold wV; rw [e j (List.mem_range.1 hj)]
theorem word_ext {a b : Nat} (ha : a < 2 ^ 64) (hb : b < 2 ^ 64) (h : ∀ j, j < 64 → a.testBit j = b.testBit j) : a = b := by
  refine Nat.eq_of_testBit_eq fun j => ?_
  by_cases hj : j < 64
  · exact h j hj
  · have hp : 2 ^ 64 ≤ 2 ^ j := Nat.pow_le_pow_right (by omega) (by omega)
    rw [Nat.testBit_lt_two_pow (Nat.lt_of_lt_of_le ha hp), Nat.testBit_lt_two_pow (Nat.lt_of_lt_of_le hb hp)]
theorem off_eq {m S : Nat} {g : Nat → Nat} (hl : ∀ k, k < m → g k < 2 ^ 64) (hb : ∀ k, k < m → ∀ j, j < 64 → (g k).testBit j = S.testBit (64 * k + j)) : offF m g = offV m S :=
  offF_ext fun k hk => word_ext (hl k hk) wd_lt fun j hj => by rw [hb k hk j hj, wd_bit]; simp [hj]
theorem i64_shr6 {i : Nat} : Int.fdiv (i : Int) (2 ^ (min (6 : Int).toNat (IntKind.bits .i64))) = ((i / 64 : Nat) : Int) := by
  have e : (2 ^ (min (6 : Int).toNat (IntKind.bits .i64)) : Int) = 64 := by rfl
  rw [e, Int.fdiv_eq_ediv_of_nonneg _ (by omega)]
  omega
theorem i64_and63 {i : Nat} (h : i < 2 ^ 63) : IntKind.wrap .i64 ((BitVec.ofInt (IntKind.bits .i64) (i : Int) &&& BitVec.ofInt (IntKind.bits .i64) 63).toNat) = ((i % 64 : Nat) : Int) := by
  have := bv_and (n := IntKind.bits .i64) (A := i) (B := 63) (by show i < 2 ^ 64; omega) (by show 63 < 2 ^ 64; omega)
  rw [show ((63 : Nat) : Int) = 63 from rfl] at this
  rw [this, show (63 : Nat) = 2 ^ 6 - 1 from rfl, Nat.and_two_pow_sub_one_eq_mod]
  exact wrap64 (by omega) (by omega)
theorem or_word {m S i : Nat} : offF m (fun j => if j = i / 64 then wd S (i / 64) ||| 2 ^ (i % 64) else wd S j) = offV m (S ||| 2 ^ i) := by
  refine off_eq (fun k _ => ?_) fun k _ j hj => ?_
  · split
    · exact Nat.or_lt_two_pow wd_lt (Nat.pow_lt_pow_right (by omega) (by omega))
    · exact wd_lt
  · rw [Nat.testBit_or, Nat.testBit_two_pow]
    by_cases h : k = i / 64
    · rw [if_pos h, Nat.testBit_or, Nat.testBit_two_pow, ← h, wd_bit]
      have : (i % 64 = j) ↔ (i = 64 * k + j) := by omega
      simp [hj, this]
    · rw [if_neg h, wd_bit]
      have : ¬ i = 64 * k + j := by omega
      simp [hj, this]
theorem add_spec {m S i : Nat} (h : i / 64 < m) (hi : i < 2 ^ 60) : CC F_expr_offsets_add [.int .i64 (i : Int), .list T_uint64 (offV m S)] = some [.list T_uint64 (offV m (S ||| 2 ^ i))] := by
  refine f_expr_offsets_add_of ?_
  unfold f_expr_offsets_add
  rw [i64_shr6, i64_and63 (by omega)]
  simp only [bif_and, bif_decide, Int.toNat_natCast, offV_len, offV_get h, Option.bind_some, V.toInt_int]
  rw [if_pos (by omega), if_pos (by omega), if_pos (by omega), u64_bit (by omega), u64_or wd_lt (Nat.pow_lt_pow_right (by omega) (by omega)), offV_set, or_word, if_pos (by omega), if_pos (by omega)]
theorem has_spec {m S i : Nat} (h : i / 64 < m) (hi : i < 2 ^ 60) : CC F_expr_offsets_has [.list T_uint64 (offV m S), .int .i64 (i : Int)] = some [.bool (S.testBit i)] := by
  refine f_expr_offsets_has_of ?_
  unfold f_expr_offsets_has
  rw [i64_shr6, i64_and63 (by omega)]
  simp only [idx_nat, offV_get h, Option.bind_some, V.toInt_int, bif_decide, Int.toNat_natCast]
  rw [if_pos (by omega), u64_has wd_lt (by omega), wd_bit]
  have : 64 * (i / 64) + i % 64 = i := by omega
  rw [this]
  have h2 : i % 64 < 64 := by omega
  simp [h2]
theorem none_spec {w : List UInt8} (h : w.length ≤ 2048) : CC F_expr_matcher_none [.str w] = some [.list T_uint64 (offV (w.length / 64 + 1) 0)] := by
  refine f_expr_matcher_none_of ?_
  unfold f_expr_matcher_none
  rw [i64_shr6, wrap64 (by omega) (by omega)]
  have e : (((w.length / 64 : Nat) : Int) + 1).toNat = w.length / 64 + 1 := by omega
  simp only [bif_and, bif_decide, bif_ble, e]
  rw [if_pos (by omega), if_pos (by omega), if_pos (by rw [maxB]; omega)]
  have : List.replicate (w.length / 64 + 1) (V.int .u64 0) = offV (w.length / 64 + 1) 0 := by
    apply List.ext_getElem?
    intro i
    by_cases hi : i < w.length / 64 + 1
    · rw [offV_get hi]
      have : wd 0 i = 0 := by unfold wd; simp
      rw [this]
      rw [List.getElem?_replicate, if_pos hi]; rfl
    · rw [List.getElem?_eq_none (by simp; omega), List.getElem?_eq_none (by rw [offV_len]; omega)]
  rw [this]
theorem unite_word {m S T a : Nat} (hT : ∀ j, j < 64 * a → T.testBit j = false) : offF m (fun j => if a ≤ j then wd S j ||| wd T j else wd S j) = offV m (S ||| T) := by
  refine off_eq (fun k _ => ?_) fun k _ j hj => ?_
  · split
    · exact Nat.or_lt_two_pow wd_lt wd_lt
    · exact wd_lt
  · rw [Nat.testBit_or]
    by_cases h : a ≤ k
    · rw [if_pos h, Nat.testBit_or, wd_bit, wd_bit]; simp [hj]
    · rw [if_neg h, wd_bit, hT (64 * k + j) (by omega)]; simp [hj]
theorem unite_spec {m S T i : Nat} (hm : m ≤ 100) (h : i / 64 < m) (hT : ∀ j, j < i → T.testBit j = false) :
    CC F_expr_offsets_unite [.list T_uint64 (offV m T), .int .i64 (i : Int), .list T_uint64 (offV m S)] = some [.list T_uint64 (offV m (S ||| T))] := by
  refine f_expr_offsets_unite_of ?_
  unfold f_expr_offsets_unite
  rw [i64_shr6]
  let g : Nat → Nat → Nat := fun b j => if i / 64 ≤ j ∧ j < b then wd S j ||| wd T j else wd S j
  have go : ∀ d b, i / 64 ≤ b → b + d = m → Loop (s_expr_offsets_unite_1L CC (offV m T)) ((b : Int), offF m (g b)) = some ((m : Int), false, offF m (g m)) := by
    intro d
    induction d with
    | zero =>
      intro b _ hb
      have hb : b = m := by omega
      subst hb
      refine Loop_end ?_
      simp only [s_expr_offsets_unite_1L, s_expr_offsets_unite_1, un, offF_len]
      rw [bif_decide, if_neg (by omega)]
      simp
    | succ d ih =>
      intro b hbi hb
      have hst : s_expr_offsets_unite_1L CC (offV m T) ((b : Int), offF m (g b)) = some (.inl (((b + 1 : Nat) : Int), offF m (g (b + 1)))) := by
        simp only [s_expr_offsets_unite_1L, s_expr_offsets_unite_1, un, offF_len, bif_and, bif_decide, Int.toNat_natCast, offF_get (show b < m by omega), offV_get (show b < m by omega), idx_nat, Option.bind_some, V.toInt_int]
        have e1 : g b b = wd S b := by simp [g]
        rw [if_pos (by omega), if_pos (by omega), if_pos (by omega), e1, u64_or wd_lt wd_lt, offF_set, wrap64 (by omega) (by omega), if_pos (by omega), if_pos (by omega)]
        have : offF m (fun j => if j = b then wd S b ||| wd T b else g b j) = offF m (g (b + 1)) := by
          refine offF_ext fun k _ => ?_
          show (if k = b then wd S b ||| wd T b else if i / 64 ≤ k ∧ k < b then wd S k ||| wd T k else wd S k) = if i / 64 ≤ k ∧ k < b + 1 then wd S k ||| wd T k else wd S k
          by_cases h1 : k = b
          · subst h1; rw [if_pos rfl, if_pos (by omega)]
          · rw [if_neg h1]
            by_cases h2 : i / 64 ≤ k ∧ k < b
            · rw [if_pos h2, if_pos (by omega)]
            · rw [if_neg h2, if_neg (by omega)]
        rw [this]
        rfl
      rw [Loop_norm hst]
      exact ih (b + 1) (by omega) (by omega)
  have e0 : offV m S = offF m (g (i / 64)) := offF_ext fun k _ => by
    show wd S k = if i / 64 ≤ k ∧ k < i / 64 then _ else wd S k
    rw [if_neg (by omega)]
  have e1 : offF m (g m) = offV m (S ||| T) := by
    rw [← unite_word (m := m) (a := i / 64) (S := S) (T := T) fun j hj => hT j (by omega)]
    refine offF_ext fun k hk => ?_
    show (if i / 64 ≤ k ∧ k < m then _ else _) = _
    by_cases h2 : i / 64 ≤ k
    · rw [if_pos ⟨h2, hk⟩, if_pos h2]
    · rw [if_neg (fun h => h2 h.1), if_neg h2]
  rw [e0, go (m - i / 64) (i / 64) (by omega) (by omega), ← e1]
  simp [un]
def rowO (m : Nat) : Option Nat → V
  | none => .list T_uint64 []
  | some S => .list T_uint64 (offV m S)
def Rows (m N : Nat) (R : Nat → Option Nat) : List V := (List.range N).map fun i => rowO m (R i)
def upd (R : Nat → Option Nat) (i S : Nat) : Nat → Option Nat := fun j => if j = i then some S else R j
theorem upd_same {R : Nat → Option Nat} {i S : Nat} : upd R i S i = some S := by simp [upd]
theorem upd_ne {R : Nat → Option Nat} {i j S : Nat} (h : j ≠ i) : upd R i S j = R j := by simp [upd, h]
theorem upd_upd {R : Nat → Option Nat} {i S T : Nat} : upd (upd R i S) i T = upd R i T := by
  funext j; unfold upd; split <;> rfl
theorem Rows_len {m N : Nat} {R : Nat → Option Nat} : (Rows m N R).length = N := by simp [Rows]
theorem Rows_get {m N i : Nat} {R : Nat → Option Nat} (h : i < N) : (Rows m N R)[i]? = some (rowO m (R i)) := by simp [Rows, h]
theorem Rows_set {m N i S : Nat} {R : Nat → Option Nat} : (Rows m N R).set i (.list T_uint64 (offV m S)) = Rows m N (upd R i S) := by
  unfold Rows; rw [range_set]
  refine List.map_congr_left fun j _ => ?_
  unfold upd
  by_cases h : j = i
  · simp [h, rowO]
  · simp [h]
theorem Rows_none {m N : Nat} : List.replicate N (V.list T_uint64 ([] : List V)) = Rows m N (fun _ => none) := by
  apply List.ext_getElem?
  intro i
  by_cases hi : i < N
  · rw [Rows_get hi, List.getElem?_replicate, if_pos hi]; rfl
  · rw [List.getElem?_eq_none (by simp; omega), List.getElem?_eq_none (by rw [Rows_len]; omega)]
theorem und_off : Tryd.prog.underlying T_expr_offsets = some (.slice T_uint64) := by kernel_rfl
theorem agg_off : isAggT Tryd.prog T_expr_offsets = false := by kernel_rfl
theorem parts_off {l : List V} : parts Tryd.prog T_expr_offsets (.list T_uint64 l) = [.list T_uint64 l] := by
  unfold parts; rw [agg_off]; simp only [cond_false, retype1, und_off, V.toList_list]
theorem rowV_O {m N i S : Nat} {R : Nat → Option Nat} (h : i < N) (hR : R i = some S) : rowV Tryd.prog T_expr_offsets (Rows m N R) [(i, 0)] = some (.list T_uint64 (offV m S)) := by
  simp only [rowV, Rows_get h, hR, rowO, Option.bind_some, parts_off]
  rfl
theorem setRow_O {m N i S : Nat} {l : List V} {R : Nat → Option Nat} (h : i < N) (hR : R i = some S) : setRow Tryd.prog l T_expr_offsets (Rows m N R) [(i, 0)] = (Rows m N R).set i (.list T_uint64 l) := by
  simp only [setRow, Rows_get h, hR, rowO, parts_off]
  simp only [List.getElem?_cons_zero, List.set_cons_zero, mkElem, agg_off, cond_false, V.nth_zero]
theorem addRow_spec {m N i j S : Nat} {R : Nat → Option Nat} (h : j / 64 < m) (hj : j < 2 ^ 60) (hi : i < N) (hR : R i = some S) :
    CC K_expr_offsets_add_k99 [natV i, .int .i64 (j : Int), .list T_expr_offsets (Rows m N R)] = some [.list T_expr_offsets (Rows m N (upd R i (S ||| 2 ^ j)))] := by
  refine f_expr_offsets_add_k99_of ?_
  unfold f_expr_offsets_add_k99
  rw [i64_shr6, i64_and63 (by omega)]
  simp only [rowV_O hi hR, Option.bind_some, bif_and, bif_decide, Int.toNat_natCast, V.toList_list, offV_len, offV_get h, V.toInt_int]
  rw [if_pos (by omega), if_pos (by omega), if_pos (by omega), u64_bit (by omega), u64_or wd_lt (Nat.pow_lt_pow_right (by omega) (by omega)), offV_set, or_word, setRow_O hi hR, Rows_set, if_pos (by omega), if_pos (by omega)]
end Go.AM
set_option maxRecDepth 100000
set_option linter.unusedSimpArgs false
namespace Go.AM
open Go.Proofs
theorem part_next {j q : Nat} (h : 2 ^ j * (2 * q + 1) < 2 ^ 64) :
    IntKind.wrap .u64 ((BitVec.ofInt (IntKind.bits .u64) ((2 ^ j * (2 * q + 1) : Nat) : Int) &&& BitVec.ofInt (IntKind.bits .u64) (IntKind.wrap .u64 (((2 ^ j * (2 * q + 1) : Nat) : Int) - 1))).toNat) = ((2 ^ j * (2 * q) : Nat) : Int) := by
  have hpos : 0 < 2 ^ j * (2 * q + 1) := Nat.mul_pos (Nat.pos_of_ne_zero (by simp)) (by omega)
  have hp : ((2 ^ j * (2 * q + 1) : Nat) : Int) - 1 = ((2 ^ j * (2 * q + 1) - 1 : Nat) : Int) := by omega
  rw [hp, wrapu64 (A := 2 ^ j * (2 * q + 1) - 1) (by omega), u64_and h (by omega), and_pred]
theorem ix_eq {k j : Nat} (hk : k ≤ 100) (hj : j < 64) : IntKind.wrap .i64 ((IntKind.wrap .i64 ((k : Int) * 2 ^ (min (6 : Int).toNat (IntKind.bits .i64)))) + (j : Int)) = ((64 * k + j : Nat) : Int) := by
  have e : (2 ^ (min (6 : Int).toNat (IntKind.bits .i64)) : Int) = 64 := by rfl
  rw [e, wrap64 (x := (k : Int) * 64) (by omega) (by omega), wrap64 (by omega) (by omega)]
  omega
theorem part_ne {j q : Nat} : ¬ ((2 ^ j * (2 * q + 1) : Nat) : Int) = 0 := by
  have hpos : 0 < 2 ^ j * (2 * q + 1) := Nat.mul_pos (Nat.pos_of_ne_zero (by simp)) (by omega)
  omega
theorem each_inner {A : Type} {S k : Nat} {step : (Int × A) → Option ((Int × A) ⊕ (Int × Bool × A))} {P : Nat → A → Prop}
    (h1 : ∀ (j q : Nat) a, j < 64 → 2 ^ j * (2 * q + 1) < 2 ^ 64 → S.testBit (64 * k + j) = true → P (64 * k + j) a → ∃ a', step (((2 ^ j * (2 * q + 1) : Nat) : Int), a) = some (.inl (((2 ^ j * (2 * q) : Nat) : Int), a')) ∧ P (64 * k + j + 1) a')
    (h2 : ∀ i a, S.testBit i = false → P i a → P (i + 1) a)
    (h0 : ∀ a, step (0, a) = some (.inr (0, false, a))) :
    ∀ d j, j + d = 64 → ∀ (p : Nat) a, p < 2 ^ 64 → (∀ t, t < 64 → p.testBit t = (decide (j ≤ t) && S.testBit (64 * k + t))) → P (64 * k + j) a → ∃ a', Loop step ((p : Int), a) = some (0, false, a') ∧ P (64 * k + 64) a' := by
  intro d
  induction d with
  | zero =>
    intro j hj p a hp hb hP
    have hj : j = 64 := by omega
    subst hj
    have : p = 0 := word_ext hp (by omega) fun t ht => by
      rw [hb t ht]; have : ¬ 64 ≤ t := by omega
      simp [this]
    subst this
    exact ⟨a, Loop_end (h0 a), hP⟩
  | succ d ih =>
    intro j hj p a hp hb hP
    have hbj := hb j (by omega)
    rw [decide_eq_true (Nat.le_refl j), Bool.true_and] at hbj
    cases hc : S.testBit (64 * k + j) with
    | false =>
      refine ih (j + 1) (by omega) p a hp (fun t ht => ?_) (h2 _ _ hc hP)
      rw [hb t ht]
      by_cases e : t = j
      · subst e; have e4 : ¬ t + 1 ≤ t := by omega
        simp [hc, e4]
      · have : (j ≤ t) ↔ (j + 1 ≤ t) := by omega
        simp [this]
    | true =>
      rw [hc] at hbj
      have hne : p ≠ 0 := by rintro rfl; simp at hbj
      obtain ⟨j', q, hpq⟩ := low_form p hne
      have e : j' = j := by
        have h3 : j' < 64 := by rw [hpq] at hp; exact (low_lt hp).1
        have h4 : p.testBit j' = true := by rw [hpq, bit_low]; simp
        rw [hb j' h3] at h4
        have h5 : j ≤ j' := by simp at h4; exact h4.1
        rw [hpq, bit_low] at hbj
        simp at hbj
        omega
      subst e
      subst hpq
      obtain ⟨a', hst, hP'⟩ := h1 j' q a (by omega) hp hc hP
      rw [Loop_norm hst]
      have hlt : 2 ^ j' * (2 * q) < 2 ^ j' * (2 * q + 1) := Nat.mul_lt_mul_of_pos_left (by omega) (Nat.pos_of_ne_zero (by simp))
      refine ih (j' + 1) (by omega) _ a' (by omega) (fun t ht => ?_) hP'
      have := hb t ht
      rw [bit_low] at this
      rw [bit_high]
      by_cases e1 : t = j'
      · subst e1; have e4 : ¬ t + 1 ≤ t := by omega
        simp [e4]
      · by_cases e2 : j' < t
        · have e3 : j' + 1 ≤ t := by omega
          have e4 : j' ≤ t := by omega
          simpa [e1, e2, e3, e4] using this
        · have e3 : ¬ j' + 1 ≤ t := by omega
          simp [e2, e3]
theorem each_loop {A : Type} {S m : Nat} (hm : m ≤ 100) {outer : (Int × A) → Option ((Int × A) ⊕ (Int × Bool × A))} {inner : Nat → (Int × A) → Option ((Int × A) ⊕ (Int × Bool × A))} {P : Nat → A → Prop}
    (ho : ∀ (k : Nat) a a', k < m → Loop (inner k) (((wd S k : Nat) : Int), a) = some (0, false, a') → outer ((k : Int), a) = some (.inl (((k + 1 : Nat) : Int), a')))
    (he : ∀ a, outer ((m : Int), a) = some (.inr ((m : Int), false, a)))
    (h1 : ∀ (k j q : Nat) a, k < m → j < 64 → 2 ^ j * (2 * q + 1) < 2 ^ 64 → S.testBit (64 * k + j) = true → P (64 * k + j) a → ∃ a', inner k (((2 ^ j * (2 * q + 1) : Nat) : Int), a) = some (.inl (((2 ^ j * (2 * q) : Nat) : Int), a')) ∧ P (64 * k + j + 1) a')
    (h2 : ∀ i a, S.testBit i = false → P i a → P (i + 1) a)
    (h0 : ∀ k a, inner k (0, a) = some (.inr (0, false, a))) (a0 : A) (hP : P 0 a0) :
    ∃ a', Loop outer (0, a0) = some ((m : Int), false, a') ∧ P (64 * m) a' := by
  have go : ∀ d k, k + d = m → ∀ a, P (64 * k) a → ∃ a', Loop outer ((k : Int), a) = some ((m : Int), false, a') ∧ P (64 * m) a' := by
    intro d
    induction d with
    | zero =>
      intro k hk a hP
      have hk : k = m := by omega
      subst hk
      exact ⟨a, Loop_end (he a), hP⟩
    | succ d ih =>
      intro k hk a hP
      obtain ⟨a', hl, hP'⟩ := each_inner (S := S) (k := k) (P := P) (fun j q a hj hq hb hp => h1 k j q a (by omega) hj hq hb hp) h2 (h0 k) 64 0 (by omega) (wd S k) a wd_lt (fun t ht => by rw [wd_bit]; simp [ht]) hP
      rw [Loop_norm (ho k a a' (by omega) hl)]
      exact ih (k + 1) (by omega) a' (by rw [show 64 * (k + 1) = 64 * k + 64 by omega]; exact hP')
  exact go m 0 (by omega) a0 hP
end Go.AM
set_option maxRecDepth 100000
namespace Go.AM
open Go.Proofs
noncomputable abbrev B_expr_offsets_each : Code := bodyOf Tryd.prog (ann.fid 33)
noncomputable def s_expr_offsets_each_1 (C : CallF) (k' : Int) (t6 : List V) (t7 t8 part : Int) (visits : List UInt8) (visits_0 visits_1 : Int) (visits_2 b3_ : List V) {β : Type} (kn : (Int × (List UInt8) × Int × Int × (List V) × (List V)) → Option β) (kr : (Int × Bool × (List UInt8) × Int × Int × (List V) × (List V)) → Option β) : Option β :=
  bif (part : Int) != 0 then
   (C F_bits_TrailingZeros64 [.int .u64 part]).bind fun r2 =>
   (C F_expr_matcher_ends_1 [.int .i64 (IntKind.wrap .i64 ((IntKind.wrap .i64 (k' * 2 ^ (min (6 : Int).toNat (IntKind.bits .i64)))) + ((V.nth r2 0).toInt))), .str visits, .int .i64 visits_0, .int .i64 visits_1, .list T_api_Expr visits_2, .list T_expr_offsets b3_]).bind fun r3 =>
   kn (IntKind.wrap .u64 ((BitVec.ofInt (IntKind.bits .u64) part &&& BitVec.ofInt (IntKind.bits .u64) (IntKind.wrap .u64 (part - 1))).toNat), (V.nth r3 0).toStr, (V.nth (r3.drop 1) 0).toInt, (V.nth ((r3.drop 1).drop 1) 0).toInt, (V.nth (((r3.drop 1).drop 1).drop 1) 0).toList, (V.nth ((r3.drop 1).drop 3) 0).toList)
  else
   kr (part, (part : Int) != 0, visits, visits_0, visits_1, visits_2, b3_)
noncomputable def s_expr_offsets_each_1L (C : CallF) (k' : Int) (t6 : List V) (t7 t8 : Int) : (Int × (List UInt8) × Int × Int × (List V) × (List V)) → Option ((Int × (List UInt8) × Int × Int × (List V) × (List V)) ⊕ (Int × Bool × (List UInt8) × Int × Int × (List V) × (List V))) := un fun part => un fun visits => un fun visits_0 => un fun visits_1 => un fun visits_2 b3_ => s_expr_offsets_each_1 C k' t6 t7 t8 part visits visits_0 visits_1 visits_2 b3_ (fun y => some (.inl y)) (fun r => some (.inr r))
noncomputable def s_expr_offsets_each_2 (C : CallF) (t6 : List V) (t7 t8 : Int) (visits : List UInt8) (visits_0 visits_1 : Int) (visits_2 b3_ : List V) {β : Type} (kn : (Int × (List UInt8) × Int × Int × (List V) × (List V)) → Option β) (kr : (Int × Bool × (List UInt8) × Int × Int × (List V) × (List V)) → Option β) : Option β :=
  bif decide ((t8 : Int) < t7) then
   (idx t6 t8).bind fun x1 =>
   (Loop (s_expr_offsets_each_1L C t8 t6 t7 t8) (x1.toInt, visits, visits_0, visits_1, visits_2, b3_)).bind (un fun (part_4 : Int) => un fun (t_5 : Bool) => un fun (visits_6 : List UInt8) => un fun (visits_7 : Int) => un fun (visits_8 : Int) => un fun (visits_9 : List V) (b_10 : List V) =>
     kn (IntKind.wrap .i64 (t8 + 1), visits_6, visits_7, visits_8, visits_9, b_10))
  else
   kr (t8, decide ((t8 : Int) < t7), visits, visits_0, visits_1, visits_2, b3_)
noncomputable def s_expr_offsets_each_2L (C : CallF) (t6 : List V) (t7 : Int) : (Int × (List UInt8) × Int × Int × (List V) × (List V)) → Option ((Int × (List UInt8) × Int × Int × (List V) × (List V)) ⊕ (Int × Bool × (List UInt8) × Int × Int × (List V) × (List V))) := un fun t8 => un fun visits => un fun visits_0 => un fun visits_1 => un fun visits_2 b3_ => s_expr_offsets_each_2 C t6 t7 t8 visits visits_0 visits_1 visits_2 b3_ (fun y => some (.inl y)) (fun r => some (.inr r))
noncomputable def LT_expr_offsets_each (C : CallF) : LTab := fun β n ds k =>
  bif Nat.beq n 49 then loopS S33_49 [false, true, false, false, false, true, true, true, true, true] [[1, 0, 3, 4, 5, 0, 0, 0, 0, 0, 0]] (@s_expr_offsets_each_1 C) ds k else
  bif Nat.beq n 17 then loopS S33_17 [false, false, true, true, true, true, true, true] [[1, 2, 0, 0, 0, 0, 0, 0, 0]] (@s_expr_offsets_each_2 C) ds k else
  none
abbrev TS_expr_offsets_each (C : CallF) (b : Bar) : Prop := Tells Tryd.prog ann C (LT_expr_offsets_each C) 33 (ntmpsOf Tryd.prog (ann.fid 33)) (ann.sin 33).blks.length b
theorem t_expr_offsets_each_1 (C : CallF) : TS_expr_offsets_each C (.loop (codeAt [1, 0, 0, 1, 1, 0, 0, 1, 0, 0] B_expr_offsets_each)) :=
  tl3 S33_49 [false, true, false, false, false, true, true, true, true, true] [[1, 0, 3, 4, 5, 0, 0, 0, 0, 0, 0]] (@s_expr_offsets_each_1 C) (by kernel_rfl) (ltok_of (bs := []) (by kernel_rfl) tells_nil) (fun ds => by kernel_rfl) (fun i x => by kernel_rfl) (fun i x β k => by kernel_rfl) (fun β ds k => by kernel_rfl)
theorem t_expr_offsets_each_2 (C : CallF) : TS_expr_offsets_each C (.loop (codeAt [1, 0, 0] B_expr_offsets_each)) :=
  tl3 S33_17 [false, false, true, true, true, true, true, true] [[1, 2, 0, 0, 0, 0, 0, 0, 0]] (@s_expr_offsets_each_2 C) (by kernel_rfl) (ltok_of (bs := [.loop (codeAt [1, 0, 0, 1, 1, 0, 0, 1, 0, 0] B_expr_offsets_each)]) (by kernel_rfl) (tells_cons (t_expr_offsets_each_1 C) tells_nil)) (fun ds => by kernel_rfl) (fun i x => by kernel_rfl) (fun i x β k => by kernel_rfl) (fun β ds k => by kernel_rfl)
noncomputable def f_expr_offsets_each (C : CallF) (s : List V) (visits : List UInt8) (visits_0 visits_1 : Int) (visits_2 b3_ : List V) : Option (List V) :=
  (Loop (s_expr_offsets_each_2L C s (s.length : Int)) (0, visits, visits_0, visits_1, visits_2, b3_)).bind (un fun (t_11 : Int) => un fun (t_12 : Bool) => un fun (visits_13 : List UInt8) => un fun (visits_14 : Int) => un fun (visits_15 : Int) => un fun (visits_16 : List V) (b_17 : List V) =>
    some [.str visits_13, .int .i64 visits_14, .int .i64 visits_15, .list T_api_Expr visits_16, .list T_expr_offsets b_17])
theorem f_expr_offsets_each_of {s : List V} {visits : List UInt8} {visits_0 visits_1 : Int} {visits_2 b3_ : List V} {r : Option (List V)} (h : f_expr_offsets_each CC s visits visits_0 visits_1 visits_2 b3_ = r) : CC F_expr_offsets_each [.list T_uint64 s, .str visits, .int .i64 visits_0, .int .i64 visits_1, .list T_api_Expr visits_2, .list T_expr_offsets b3_] = r :=
  func_of (key := 33) (L := LT_expr_offsets_each CC) (bs := [.loop (codeAt [1, 0, 0] B_expr_offsets_each)]) (by kernel_rfl) (tells_cons (t_expr_offsets_each_2 CC) tells_nil) (Eq.trans (by kernel_rfl) h)
end Go.AM
set_option maxRecDepth 100000
namespace Go.AM
open Go.Proofs
noncomputable abbrev B_expr_offsets_each_k100 : Code := bodyOf Tryd.prog (ann.fid 100)
noncomputable def s_expr_offsets_each_k100_1 (C : CallF) (k' : Int) (t6 : List V) (t7 t8 part visits_0 visits_1 : Int) (visits_2 b3_ b4_ : List V) {β : Type} (kn : (Int × Int × Int × (List V) × (List V) × (List V)) → Option β) (kr : (Int × Bool × Int × Int × (List V) × (List V) × (List V)) → Option β) : Option β :=
  bif (part : Int) != 0 then
   (C F_bits_TrailingZeros64 [.int .u64 part]).bind fun r2 =>
   (C F_expr_matcher_combine_1 [.int .i64 (IntKind.wrap .i64 ((IntKind.wrap .i64 (k' * 2 ^ (min (6 : Int).toNat (IntKind.bits .i64)))) + ((V.nth r2 0).toInt))), .int .i64 visits_0, .int .i64 visits_1, .list T_api_Expr visits_2, .list T_expr_offsets b3_, .list T_expr_offsets b4_]).bind fun r3 =>
   kn (IntKind.wrap .u64 ((BitVec.ofInt (IntKind.bits .u64) part &&& BitVec.ofInt (IntKind.bits .u64) (IntKind.wrap .u64 (part - 1))).toNat), (V.nth r3 0).toInt, (V.nth (r3.drop 1) 0).toInt, (V.nth ((r3.drop 1).drop 1) 0).toList, (V.nth (r3.drop 3) 0).toList, (V.nth ((r3.drop 3).drop 1) 0).toList)
  else
   kr (part, (part : Int) != 0, visits_0, visits_1, visits_2, b3_, b4_)
noncomputable def s_expr_offsets_each_k100_1L (C : CallF) (k' : Int) (t6 : List V) (t7 t8 : Int) : (Int × Int × Int × (List V) × (List V) × (List V)) → Option ((Int × Int × Int × (List V) × (List V) × (List V)) ⊕ (Int × Bool × Int × Int × (List V) × (List V) × (List V))) := un fun part => un fun visits_0 => un fun visits_1 => un fun visits_2 => un fun b3_ b4_ => s_expr_offsets_each_k100_1 C k' t6 t7 t8 part visits_0 visits_1 visits_2 b3_ b4_ (fun y => some (.inl y)) (fun r => some (.inr r))
noncomputable def s_expr_offsets_each_k100_2 (C : CallF) (t6 : List V) (t7 t8 visits_0 visits_1 : Int) (visits_2 b3_ b4_ : List V) {β : Type} (kn : (Int × Int × Int × (List V) × (List V) × (List V)) → Option β) (kr : (Int × Bool × Int × Int × (List V) × (List V) × (List V)) → Option β) : Option β :=
  bif decide ((t8 : Int) < t7) then
   (idx t6 t8).bind fun x1 =>
   (Loop (s_expr_offsets_each_k100_1L C t8 t6 t7 t8) (x1.toInt, visits_0, visits_1, visits_2, b3_, b4_)).bind (un fun (part_4 : Int) => un fun (t_5 : Bool) => un fun (visits_6 : Int) => un fun (visits_7 : Int) => un fun (visits_8 : List V) => un fun (b_9 : List V) (b_10 : List V) =>
     kn (IntKind.wrap .i64 (t8 + 1), visits_6, visits_7, visits_8, b_9, b_10))
  else
   kr (t8, decide ((t8 : Int) < t7), visits_0, visits_1, visits_2, b3_, b4_)
noncomputable def s_expr_offsets_each_k100_2L (C : CallF) (t6 : List V) (t7 : Int) : (Int × Int × Int × (List V) × (List V) × (List V)) → Option ((Int × Int × Int × (List V) × (List V) × (List V)) ⊕ (Int × Bool × Int × Int × (List V) × (List V) × (List V))) := un fun t8 => un fun visits_0 => un fun visits_1 => un fun visits_2 => un fun b3_ b4_ => s_expr_offsets_each_k100_2 C t6 t7 t8 visits_0 visits_1 visits_2 b3_ b4_ (fun y => some (.inl y)) (fun r => some (.inr r))
noncomputable def LT_expr_offsets_each_k100 (C : CallF) : LTab := fun β n ds k =>
  bif Nat.beq n 49 then loopS S100_49 [false, true, false, false, false, true, true, true, true, true] [[1, 0, 3, 4, 5, 0, 0, 0, 0, 0, 0]] (@s_expr_offsets_each_k100_1 C) ds k else
  bif Nat.beq n 17 then loopS S100_17 [false, false, true, true, true, true, true, true] [[1, 2, 0, 0, 0, 0, 0, 0, 0]] (@s_expr_offsets_each_k100_2 C) ds k else
  none
abbrev TS_expr_offsets_each_k100 (C : CallF) (b : Bar) : Prop := Tells Tryd.prog ann C (LT_expr_offsets_each_k100 C) 100 (ntmpsOf Tryd.prog (ann.fid 100)) (ann.sin 100).blks.length b
theorem t_expr_offsets_each_k100_1 (C : CallF) : TS_expr_offsets_each_k100 C (.loop (codeAt [1, 0, 0, 1, 1, 0, 0, 1, 0, 0] B_expr_offsets_each_k100)) :=
  tl3 S100_49 [false, true, false, false, false, true, true, true, true, true] [[1, 0, 3, 4, 5, 0, 0, 0, 0, 0, 0]] (@s_expr_offsets_each_k100_1 C) (by kernel_rfl) (ltok_of (bs := []) (by kernel_rfl) tells_nil) (fun ds => by kernel_rfl) (fun i x => by kernel_rfl) (fun i x β k => by kernel_rfl) (fun β ds k => by kernel_rfl)
theorem t_expr_offsets_each_k100_2 (C : CallF) : TS_expr_offsets_each_k100 C (.loop (codeAt [1, 0, 0] B_expr_offsets_each_k100)) :=
  tl3 S100_17 [false, false, true, true, true, true, true, true] [[1, 2, 0, 0, 0, 0, 0, 0, 0]] (@s_expr_offsets_each_k100_2 C) (by kernel_rfl) (ltok_of (bs := [.loop (codeAt [1, 0, 0, 1, 1, 0, 0, 1, 0, 0] B_expr_offsets_each_k100)]) (by kernel_rfl) (tells_cons (t_expr_offsets_each_k100_1 C) tells_nil)) (fun ds => by kernel_rfl) (fun i x => by kernel_rfl) (fun i x β k => by kernel_rfl) (fun β ds k => by kernel_rfl)
noncomputable def f_expr_offsets_each_k100 (C : CallF) (s : List V) (visits_0 visits_1 : Int) (visits_2 b3_ b4_ : List V) : Option (List V) :=
  (Loop (s_expr_offsets_each_k100_2L C s (s.length : Int)) (0, visits_0, visits_1, visits_2, b3_, b4_)).bind (un fun (t_11 : Int) => un fun (t_12 : Bool) => un fun (visits_13 : Int) => un fun (visits_14 : Int) => un fun (visits_15 : List V) => un fun (b_16 : List V) (b_17 : List V) =>
    some [.int .i64 visits_13, .int .i64 visits_14, .list T_api_Expr visits_15, .list T_expr_offsets b_16, .list T_expr_offsets b_17])
theorem f_expr_offsets_each_k100_of {s : List V} {visits_0 visits_1 : Int} {visits_2 b3_ b4_ : List V} {r : Option (List V)} (h : f_expr_offsets_each_k100 CC s visits_0 visits_1 visits_2 b3_ b4_ = r) : CC K_expr_offsets_each_k100 [.list T_uint64 s, .int .i64 visits_0, .int .i64 visits_1, .list T_api_Expr visits_2, .list T_expr_offsets b3_, .list T_expr_offsets b4_] = r :=
  func_of (key := 100) (L := LT_expr_offsets_each_k100 CC) (bs := [.loop (codeAt [1, 0, 0] B_expr_offsets_each_k100)]) (by kernel_rfl) (tells_cons (t_expr_offsets_each_k100_2 CC) tells_nil) (Eq.trans (by kernel_rfl) h)
end Go.AM
set_option maxRecDepth 100000
namespace Go.AM
open Go.Proofs
noncomputable abbrev B_expr_offsets_each_k101 : Code := bodyOf Tryd.prog (ann.fid 101)
noncomputable def s_expr_offsets_each_k101_1 (C : CallF) (k' : Int) (t6 : List V) (t7 t8 part : Int) (b3_ b4_ : List V) {β : Type} (kn : (Int × (List V) × (List V)) → Option β) (kr : (Int × Bool × (List V) × (List V)) → Option β) : Option β :=
  bif (part : Int) != 0 then
   (C F_bits_TrailingZeros64 [.int .u64 part]).bind fun r2 =>
   (C F_expr_matcher_star_2 [.int .i64 (IntKind.wrap .i64 ((IntKind.wrap .i64 (k' * 2 ^ (min (6 : Int).toNat (IntKind.bits .i64)))) + ((V.nth r2 0).toInt))), .list T_uint64 b4_, .list T_expr_offsets b3_]).bind fun r3 =>
   kn (IntKind.wrap .u64 ((BitVec.ofInt (IntKind.bits .u64) part &&& BitVec.ofInt (IntKind.bits .u64) (IntKind.wrap .u64 (part - 1))).toNat), (V.nth r3 0).toList, (V.nth (r3.drop 1) 0).toList)
  else
   kr (part, (part : Int) != 0, b3_, b4_)
noncomputable def s_expr_offsets_each_k101_1L (C : CallF) (k' : Int) (t6 : List V) (t7 t8 : Int) : (Int × (List V) × (List V)) → Option ((Int × (List V) × (List V)) ⊕ (Int × Bool × (List V) × (List V))) := un fun part => un fun b3_ b4_ => s_expr_offsets_each_k101_1 C k' t6 t7 t8 part b3_ b4_ (fun y => some (.inl y)) (fun r => some (.inr r))
noncomputable def s_expr_offsets_each_k101_2 (C : CallF) (t6 : List V) (t7 t8 : Int) (b3_ b4_ : List V) {β : Type} (kn : (Int × (List V) × (List V)) → Option β) (kr : (Int × Bool × (List V) × (List V)) → Option β) : Option β :=
  bif decide ((t8 : Int) < t7) then
   (idx t6 t8).bind fun x1 =>
   (Loop (s_expr_offsets_each_k101_1L C t8 t6 t7 t8) (x1.toInt, b3_, b4_)).bind (un fun (part_4 : Int) => un fun (t_5 : Bool) => un fun (b_6 : List V) (b_7 : List V) =>
     kn (IntKind.wrap .i64 (t8 + 1), b_6, b_7))
  else
   kr (t8, decide ((t8 : Int) < t7), b3_, b4_)
noncomputable def s_expr_offsets_each_k101_2L (C : CallF) (t6 : List V) (t7 : Int) : (Int × (List V) × (List V)) → Option ((Int × (List V) × (List V)) ⊕ (Int × Bool × (List V) × (List V))) := un fun t8 => un fun b3_ b4_ => s_expr_offsets_each_k101_2 C t6 t7 t8 b3_ b4_ (fun y => some (.inl y)) (fun r => some (.inr r))
noncomputable def LT_expr_offsets_each_k101 (C : CallF) : LTab := fun β n ds k =>
  bif Nat.beq n 49 then loopS S101_49 [false, true, false, false, false, true, true] [[1, 0, 3, 4, 5, 0, 0, 0]] (@s_expr_offsets_each_k101_1 C) ds k else
  bif Nat.beq n 17 then loopS S101_17 [false, false, true, true, true] [[1, 2, 0, 0, 0, 0]] (@s_expr_offsets_each_k101_2 C) ds k else
  none
abbrev TS_expr_offsets_each_k101 (C : CallF) (b : Bar) : Prop := Tells Tryd.prog ann C (LT_expr_offsets_each_k101 C) 101 (ntmpsOf Tryd.prog (ann.fid 101)) (ann.sin 101).blks.length b
theorem t_expr_offsets_each_k101_1 (C : CallF) : TS_expr_offsets_each_k101 C (.loop (codeAt [1, 0, 0, 1, 1, 0, 0, 1, 0, 0] B_expr_offsets_each_k101)) :=
  tl3 S101_49 [false, true, false, false, false, true, true] [[1, 0, 3, 4, 5, 0, 0, 0]] (@s_expr_offsets_each_k101_1 C) (by kernel_rfl) (ltok_of (bs := []) (by kernel_rfl) tells_nil) (fun ds => by kernel_rfl) (fun i x => by kernel_rfl) (fun i x β k => by kernel_rfl) (fun β ds k => by kernel_rfl)
theorem t_expr_offsets_each_k101_2 (C : CallF) : TS_expr_offsets_each_k101 C (.loop (codeAt [1, 0, 0] B_expr_offsets_each_k101)) :=
  tl3 S101_17 [false, false, true, true, true] [[1, 2, 0, 0, 0, 0]] (@s_expr_offsets_each_k101_2 C) (by kernel_rfl) (ltok_of (bs := [.loop (codeAt [1, 0, 0, 1, 1, 0, 0, 1, 0, 0] B_expr_offsets_each_k101)]) (by kernel_rfl) (tells_cons (t_expr_offsets_each_k101_1 C) tells_nil)) (fun ds => by kernel_rfl) (fun i x => by kernel_rfl) (fun i x β k => by kernel_rfl) (fun β ds k => by kernel_rfl)
noncomputable def f_expr_offsets_each_k101 (C : CallF) (s b2_ b3_ : List V) : Option (List V) :=
  (Loop (s_expr_offsets_each_k101_2L C s (s.length : Int)) (0, b3_, b2_)).bind (un fun (t_8 : Int) => un fun (t_9 : Bool) => un fun (b_10 : List V) (b_11 : List V) =>
    some [.list T_expr_offsets b_10, .list T_uint64 b_11])
theorem f_expr_offsets_each_k101_of {s b2_ b3_ : List V} {r : Option (List V)} (h : f_expr_offsets_each_k101 CC s b2_ b3_ = r) : CC K_expr_offsets_each_k101 [.list T_uint64 s, .list T_uint64 b2_, .list T_expr_offsets b3_] = r :=
  func_of (key := 101) (L := LT_expr_offsets_each_k101 CC) (bs := [.loop (codeAt [1, 0, 0] B_expr_offsets_each_k101)]) (by kernel_rfl) (tells_cons (t_expr_offsets_each_k101_2 CC) tells_nil) (Eq.trans (by kernel_rfl) h)
end Go.AM
set_option maxRecDepth 100000
namespace Go.AM
open Go.Proofs
noncomputable abbrev B_expr_offsets_each_k102 : Code := bodyOf Tryd.prog (ann.fid 102)
noncomputable def s_expr_offsets_each_k102_1 (C : CallF) (k' : Int) (t6 : List V) (t7 t8 part : Int) (b3_ b4_ : List V) {β : Type} (kn : (Int × (List V) × (List V)) → Option β) (kr : (Int × Bool × (List V) × (List V)) → Option β) : Option β :=
  bif (part : Int) != 0 then
   (C F_bits_TrailingZeros64 [.int .u64 part]).bind fun r2 =>
   (C F_expr_matcher_concat_1 [.int .i64 (IntKind.wrap .i64 ((IntKind.wrap .i64 (k' * 2 ^ (min (6 : Int).toNat (IntKind.bits .i64)))) + ((V.nth r2 0).toInt))), .list T_uint64 b4_, .list T_expr_offsets b3_]).bind fun r3 =>
   kn (IntKind.wrap .u64 ((BitVec.ofInt (IntKind.bits .u64) part &&& BitVec.ofInt (IntKind.bits .u64) (IntKind.wrap .u64 (part - 1))).toNat), (V.nth r3 0).toList, (V.nth (r3.drop 1) 0).toList)
  else
   kr (part, (part : Int) != 0, b3_, b4_)
noncomputable def s_expr_offsets_each_k102_1L (C : CallF) (k' : Int) (t6 : List V) (t7 t8 : Int) : (Int × (List V) × (List V)) → Option ((Int × (List V) × (List V)) ⊕ (Int × Bool × (List V) × (List V))) := un fun part => un fun b3_ b4_ => s_expr_offsets_each_k102_1 C k' t6 t7 t8 part b3_ b4_ (fun y => some (.inl y)) (fun r => some (.inr r))
noncomputable def s_expr_offsets_each_k102_2 (C : CallF) (t6 : List V) (t7 t8 : Int) (b3_ b4_ : List V) {β : Type} (kn : (Int × (List V) × (List V)) → Option β) (kr : (Int × Bool × (List V) × (List V)) → Option β) : Option β :=
  bif decide ((t8 : Int) < t7) then
   (idx t6 t8).bind fun x1 =>
   (Loop (s_expr_offsets_each_k102_1L C t8 t6 t7 t8) (x1.toInt, b3_, b4_)).bind (un fun (part_4 : Int) => un fun (t_5 : Bool) => un fun (b_6 : List V) (b_7 : List V) =>
     kn (IntKind.wrap .i64 (t8 + 1), b_6, b_7))
  else
   kr (t8, decide ((t8 : Int) < t7), b3_, b4_)
noncomputable def s_expr_offsets_each_k102_2L (C : CallF) (t6 : List V) (t7 : Int) : (Int × (List V) × (List V)) → Option ((Int × (List V) × (List V)) ⊕ (Int × Bool × (List V) × (List V))) := un fun t8 => un fun b3_ b4_ => s_expr_offsets_each_k102_2 C t6 t7 t8 b3_ b4_ (fun y => some (.inl y)) (fun r => some (.inr r))
noncomputable def LT_expr_offsets_each_k102 (C : CallF) : LTab := fun β n ds k =>
  bif Nat.beq n 49 then loopS S102_49 [false, true, false, false, false, true, true] [[1, 0, 3, 4, 5, 0, 0, 0]] (@s_expr_offsets_each_k102_1 C) ds k else
  bif Nat.beq n 17 then loopS S102_17 [false, false, true, true, true] [[1, 2, 0, 0, 0, 0]] (@s_expr_offsets_each_k102_2 C) ds k else
  none
abbrev TS_expr_offsets_each_k102 (C : CallF) (b : Bar) : Prop := Tells Tryd.prog ann C (LT_expr_offsets_each_k102 C) 102 (ntmpsOf Tryd.prog (ann.fid 102)) (ann.sin 102).blks.length b
theorem t_expr_offsets_each_k102_1 (C : CallF) : TS_expr_offsets_each_k102 C (.loop (codeAt [1, 0, 0, 1, 1, 0, 0, 1, 0, 0] B_expr_offsets_each_k102)) :=
  tl3 S102_49 [false, true, false, false, false, true, true] [[1, 0, 3, 4, 5, 0, 0, 0]] (@s_expr_offsets_each_k102_1 C) (by kernel_rfl) (ltok_of (bs := []) (by kernel_rfl) tells_nil) (fun ds => by kernel_rfl) (fun i x => by kernel_rfl) (fun i x β k => by kernel_rfl) (fun β ds k => by kernel_rfl)
theorem t_expr_offsets_each_k102_2 (C : CallF) : TS_expr_offsets_each_k102 C (.loop (codeAt [1, 0, 0] B_expr_offsets_each_k102)) :=
  tl3 S102_17 [false, false, true, true, true] [[1, 2, 0, 0, 0, 0]] (@s_expr_offsets_each_k102_2 C) (by kernel_rfl) (ltok_of (bs := [.loop (codeAt [1, 0, 0, 1, 1, 0, 0, 1, 0, 0] B_expr_offsets_each_k102)]) (by kernel_rfl) (tells_cons (t_expr_offsets_each_k102_1 C) tells_nil)) (fun ds => by kernel_rfl) (fun i x => by kernel_rfl) (fun i x β k => by kernel_rfl) (fun β ds k => by kernel_rfl)
noncomputable def f_expr_offsets_each_k102 (C : CallF) (s b2_ b3_ : List V) : Option (List V) :=
  (Loop (s_expr_offsets_each_k102_2L C s (s.length : Int)) (0, b3_, b2_)).bind (un fun (t_8 : Int) => un fun (t_9 : Bool) => un fun (b_10 : List V) (b_11 : List V) =>
    some [.list T_expr_offsets b_10, .list T_uint64 b_11])
theorem f_expr_offsets_each_k102_of {s b2_ b3_ : List V} {r : Option (List V)} (h : f_expr_offsets_each_k102 CC s b2_ b3_ = r) : CC K_expr_offsets_each_k102 [.list T_uint64 s, .list T_uint64 b2_, .list T_expr_offsets b3_] = r :=
  func_of (key := 102) (L := LT_expr_offsets_each_k102 CC) (bs := [.loop (codeAt [1, 0, 0] B_expr_offsets_each_k102)]) (by kernel_rfl) (tells_cons (t_expr_offsets_each_k102_2 CC) tells_nil) (Eq.trans (by kernel_rfl) h)
end Go.AM
set_option maxRecDepth 100000
namespace Go.AM
open Go.Proofs
noncomputable abbrev B_expr_offsets_each_k103 : Code := bodyOf Tryd.prog (ann.fid 103)
noncomputable def s_expr_offsets_each_k103_1 (C : CallF) (k' : Int) (t6 : List V) (t7 t8 part : Int) (visits : List UInt8) (visits' : Int) (b3_ : List V) {β : Type} (kn : (Int × (List UInt8) × Int × (List V)) → Option β) (kr : (Int × Bool × (List UInt8) × Int × (List V)) → Option β) : Option β :=
  bif (part : Int) != 0 then
   (C F_bits_TrailingZeros64 [.int .u64 part]).bind fun r2 =>
   (C F_expr_matcher_complement_1 [.int .i64 (IntKind.wrap .i64 ((IntKind.wrap .i64 (k' * 2 ^ (min (6 : Int).toNat (IntKind.bits .i64)))) + ((V.nth r2 0).toInt))), .str visits, .int .i64 visits', .list T_expr_offsets b3_]).bind fun r3 =>
   kn (IntKind.wrap .u64 ((BitVec.ofInt (IntKind.bits .u64) part &&& BitVec.ofInt (IntKind.bits .u64) (IntKind.wrap .u64 (part - 1))).toNat), (V.nth r3 0).toStr, (V.nth (r3.drop 1) 0).toInt, (V.nth ((r3.drop 1).drop 1) 0).toList)
  else
   kr (part, (part : Int) != 0, visits, visits', b3_)
noncomputable def s_expr_offsets_each_k103_1L (C : CallF) (k' : Int) (t6 : List V) (t7 t8 : Int) : (Int × (List UInt8) × Int × (List V)) → Option ((Int × (List UInt8) × Int × (List V)) ⊕ (Int × Bool × (List UInt8) × Int × (List V))) := un fun part => un fun visits => un fun visits' b3_ => s_expr_offsets_each_k103_1 C k' t6 t7 t8 part visits visits' b3_ (fun y => some (.inl y)) (fun r => some (.inr r))
noncomputable def s_expr_offsets_each_k103_2 (C : CallF) (t6 : List V) (t7 t8 : Int) (visits : List UInt8) (visits' : Int) (b3_ : List V) {β : Type} (kn : (Int × (List UInt8) × Int × (List V)) → Option β) (kr : (Int × Bool × (List UInt8) × Int × (List V)) → Option β) : Option β :=
  bif decide ((t8 : Int) < t7) then
   (idx t6 t8).bind fun x1 =>
   (Loop (s_expr_offsets_each_k103_1L C t8 t6 t7 t8) (x1.toInt, visits, visits', b3_)).bind (un fun (part_4 : Int) => un fun (t_5 : Bool) => un fun (visits_6 : List UInt8) => un fun (visits_7 : Int) (b_8 : List V) =>
     kn (IntKind.wrap .i64 (t8 + 1), visits_6, visits_7, b_8))
  else
   kr (t8, decide ((t8 : Int) < t7), visits, visits', b3_)
noncomputable def s_expr_offsets_each_k103_2L (C : CallF) (t6 : List V) (t7 : Int) : (Int × (List UInt8) × Int × (List V)) → Option ((Int × (List UInt8) × Int × (List V)) ⊕ (Int × Bool × (List UInt8) × Int × (List V))) := un fun t8 => un fun visits => un fun visits' b3_ => s_expr_offsets_each_k103_2 C t6 t7 t8 visits visits' b3_ (fun y => some (.inl y)) (fun r => some (.inr r))
noncomputable def LT_expr_offsets_each_k103 (C : CallF) : LTab := fun β n ds k =>
  bif Nat.beq n 49 then loopS S103_49 [false, true, false, false, false, true, true, true] [[1, 0, 3, 4, 5, 0, 0, 0, 0]] (@s_expr_offsets_each_k103_1 C) ds k else
  bif Nat.beq n 17 then loopS S103_17 [false, false, true, true, true, true] [[1, 2, 0, 0, 0, 0, 0]] (@s_expr_offsets_each_k103_2 C) ds k else
  none
abbrev TS_expr_offsets_each_k103 (C : CallF) (b : Bar) : Prop := Tells Tryd.prog ann C (LT_expr_offsets_each_k103 C) 103 (ntmpsOf Tryd.prog (ann.fid 103)) (ann.sin 103).blks.length b
theorem t_expr_offsets_each_k103_1 (C : CallF) : TS_expr_offsets_each_k103 C (.loop (codeAt [1, 0, 0, 1, 1, 0, 0, 1, 0, 0] B_expr_offsets_each_k103)) :=
  tl3 S103_49 [false, true, false, false, false, true, true, true] [[1, 0, 3, 4, 5, 0, 0, 0, 0]] (@s_expr_offsets_each_k103_1 C) (by kernel_rfl) (ltok_of (bs := []) (by kernel_rfl) tells_nil) (fun ds => by kernel_rfl) (fun i x => by kernel_rfl) (fun i x β k => by kernel_rfl) (fun β ds k => by kernel_rfl)
theorem t_expr_offsets_each_k103_2 (C : CallF) : TS_expr_offsets_each_k103 C (.loop (codeAt [1, 0, 0] B_expr_offsets_each_k103)) :=
  tl3 S103_17 [false, false, true, true, true, true] [[1, 2, 0, 0, 0, 0, 0]] (@s_expr_offsets_each_k103_2 C) (by kernel_rfl) (ltok_of (bs := [.loop (codeAt [1, 0, 0, 1, 1, 0, 0, 1, 0, 0] B_expr_offsets_each_k103)]) (by kernel_rfl) (tells_cons (t_expr_offsets_each_k103_1 C) tells_nil)) (fun ds => by kernel_rfl) (fun i x => by kernel_rfl) (fun i x β k => by kernel_rfl) (fun β ds k => by kernel_rfl)
noncomputable def f_expr_offsets_each_k103 (C : CallF) (s : List V) (visits : List UInt8) (visits' : Int) (b3_ : List V) : Option (List V) :=
  (Loop (s_expr_offsets_each_k103_2L C s (s.length : Int)) (0, visits, visits', b3_)).bind (un fun (t_9 : Int) => un fun (t_10 : Bool) => un fun (visits_11 : List UInt8) => un fun (visits_12 : Int) (b_13 : List V) =>
    some [.str visits_11, .int .i64 visits_12, .list T_expr_offsets b_13])
theorem f_expr_offsets_each_k103_of {s : List V} {visits : List UInt8} {visits' : Int} {b3_ : List V} {r : Option (List V)} (h : f_expr_offsets_each_k103 CC s visits visits' b3_ = r) : CC K_expr_offsets_each_k103 [.list T_uint64 s, .str visits, .int .i64 visits', .list T_expr_offsets b3_] = r :=
  func_of (key := 103) (L := LT_expr_offsets_each_k103 CC) (bs := [.loop (codeAt [1, 0, 0] B_expr_offsets_each_k103)]) (by kernel_rfl) (tells_cons (t_expr_offsets_each_k103_2 CC) tells_nil) (Eq.trans (by kernel_rfl) h)
end Go.AM
set_option maxRecDepth 100000
namespace Go.AM
open Go.Proofs
noncomputable abbrev B_expr_offsets_each_k104 : Code := bodyOf Tryd.prog (ann.fid 104)
noncomputable def s_expr_offsets_each_k104_1 (C : CallF) (k' : Int) (t6 : List V) (t7 t8 part : Int) (visits : List UInt8) (visits' : Bool) (b4_ b5_ : List V) {β : Type} (kn : (Int × (List UInt8) × Bool × (List V) × (List V)) → Option β) (kr : (Int × Bool × (List UInt8) × Bool × (List V) × (List V)) → Option β) : Option β :=
  bif (part : Int) != 0 then
   (C F_bits_TrailingZeros64 [.int .u64 part]).bind fun r2 =>
   (C F_expr_matcher_concat_2 [.int .i64 (IntKind.wrap .i64 ((IntKind.wrap .i64 (k' * 2 ^ (min (6 : Int).toNat (IntKind.bits .i64)))) + ((V.nth r2 0).toInt))), .str visits, .bool visits', .list T_expr_offsets b4_, .list T_expr_offsets b5_]).bind fun r3 =>
   kn (IntKind.wrap .u64 ((BitVec.ofInt (IntKind.bits .u64) part &&& BitVec.ofInt (IntKind.bits .u64) (IntKind.wrap .u64 (part - 1))).toNat), (V.nth r3 0).toStr, (V.nth (r3.drop 1) 0).toBool, (V.nth ((r3.drop 1).drop 1) 0).toList, (V.nth (((r3.drop 1).drop 1).drop 1) 0).toList)
  else
   kr (part, (part : Int) != 0, visits, visits', b4_, b5_)
noncomputable def s_expr_offsets_each_k104_1L (C : CallF) (k' : Int) (t6 : List V) (t7 t8 : Int) : (Int × (List UInt8) × Bool × (List V) × (List V)) → Option ((Int × (List UInt8) × Bool × (List V) × (List V)) ⊕ (Int × Bool × (List UInt8) × Bool × (List V) × (List V))) := un fun part => un fun visits => un fun visits' => un fun b4_ b5_ => s_expr_offsets_each_k104_1 C k' t6 t7 t8 part visits visits' b4_ b5_ (fun y => some (.inl y)) (fun r => some (.inr r))
noncomputable def s_expr_offsets_each_k104_2 (C : CallF) (t6 : List V) (t7 t8 : Int) (visits : List UInt8) (visits' : Bool) (b4_ b5_ : List V) {β : Type} (kn : (Int × (List UInt8) × Bool × (List V) × (List V)) → Option β) (kr : (Int × Bool × (List UInt8) × Bool × (List V) × (List V)) → Option β) : Option β :=
  bif decide ((t8 : Int) < t7) then
   (idx t6 t8).bind fun x1 =>
   (Loop (s_expr_offsets_each_k104_1L C t8 t6 t7 t8) (x1.toInt, visits, visits', b4_, b5_)).bind (un fun (part_4 : Int) => un fun (t_5 : Bool) => un fun (visits_6 : List UInt8) => un fun (visits_7 : Bool) => un fun (b_8 : List V) (b_9 : List V) =>
     kn (IntKind.wrap .i64 (t8 + 1), visits_6, visits_7, b_8, b_9))
  else
   kr (t8, decide ((t8 : Int) < t7), visits, visits', b4_, b5_)
noncomputable def s_expr_offsets_each_k104_2L (C : CallF) (t6 : List V) (t7 : Int) : (Int × (List UInt8) × Bool × (List V) × (List V)) → Option ((Int × (List UInt8) × Bool × (List V) × (List V)) ⊕ (Int × Bool × (List UInt8) × Bool × (List V) × (List V))) := un fun t8 => un fun visits => un fun visits' => un fun b4_ b5_ => s_expr_offsets_each_k104_2 C t6 t7 t8 visits visits' b4_ b5_ (fun y => some (.inl y)) (fun r => some (.inr r))
noncomputable def LT_expr_offsets_each_k104 (C : CallF) : LTab := fun β n ds k =>
  bif Nat.beq n 49 then loopS S104_49 [false, true, false, false, false, true, true, true, true] [[1, 0, 3, 4, 5, 0, 0, 0, 0, 0]] (@s_expr_offsets_each_k104_1 C) ds k else
  bif Nat.beq n 17 then loopS S104_17 [false, false, true, true, true, true, true] [[1, 2, 0, 0, 0, 0, 0, 0]] (@s_expr_offsets_each_k104_2 C) ds k else
  none
abbrev TS_expr_offsets_each_k104 (C : CallF) (b : Bar) : Prop := Tells Tryd.prog ann C (LT_expr_offsets_each_k104 C) 104 (ntmpsOf Tryd.prog (ann.fid 104)) (ann.sin 104).blks.length b
theorem t_expr_offsets_each_k104_1 (C : CallF) : TS_expr_offsets_each_k104 C (.loop (codeAt [1, 0, 0, 1, 1, 0, 0, 1, 0, 0] B_expr_offsets_each_k104)) :=
  tl3 S104_49 [false, true, false, false, false, true, true, true, true] [[1, 0, 3, 4, 5, 0, 0, 0, 0, 0]] (@s_expr_offsets_each_k104_1 C) (by kernel_rfl) (ltok_of (bs := []) (by kernel_rfl) tells_nil) (fun ds => by kernel_rfl) (fun i x => by kernel_rfl) (fun i x β k => by kernel_rfl) (fun β ds k => by kernel_rfl)
theorem t_expr_offsets_each_k104_2 (C : CallF) : TS_expr_offsets_each_k104 C (.loop (codeAt [1, 0, 0] B_expr_offsets_each_k104)) :=
  tl3 S104_17 [false, false, true, true, true, true, true] [[1, 2, 0, 0, 0, 0, 0, 0]] (@s_expr_offsets_each_k104_2 C) (by kernel_rfl) (ltok_of (bs := [.loop (codeAt [1, 0, 0, 1, 1, 0, 0, 1, 0, 0] B_expr_offsets_each_k104)]) (by kernel_rfl) (tells_cons (t_expr_offsets_each_k104_1 C) tells_nil)) (fun ds => by kernel_rfl) (fun i x => by kernel_rfl) (fun i x β k => by kernel_rfl) (fun β ds k => by kernel_rfl)
noncomputable def f_expr_offsets_each_k104 (C : CallF) (s : List V) (visits : List UInt8) (visits' : Bool) (b4_ b5_ : List V) : Option (List V) :=
  (Loop (s_expr_offsets_each_k104_2L C s (s.length : Int)) (0, visits, visits', b4_, b5_)).bind (un fun (t_10 : Int) => un fun (t_11 : Bool) => un fun (visits_12 : List UInt8) => un fun (visits_13 : Bool) => un fun (b_14 : List V) (b_15 : List V) =>
    some [.str visits_12, .bool visits_13, .list T_expr_offsets b_14, .list T_expr_offsets b_15])
theorem f_expr_offsets_each_k104_of {s : List V} {visits : List UInt8} {visits' : Bool} {b4_ b5_ : List V} {r : Option (List V)} (h : f_expr_offsets_each_k104 CC s visits visits' b4_ b5_ = r) : CC K_expr_offsets_each_k104 [.list T_uint64 s, .str visits, .bool visits', .list T_expr_offsets b4_, .list T_expr_offsets b5_] = r :=
  func_of (key := 104) (L := LT_expr_offsets_each_k104 CC) (bs := [.loop (codeAt [1, 0, 0] B_expr_offsets_each_k104)]) (by kernel_rfl) (tells_cons (t_expr_offsets_each_k104_2 CC) tells_nil) (Eq.trans (by kernel_rfl) h)
end Go.AM
set_option maxRecDepth 100000
namespace Go.AM
open Go.Proofs
noncomputable abbrev B_expr_offsets_each_k105 : Code := bodyOf Tryd.prog (ann.fid 105)
noncomputable def s_expr_offsets_each_k105_1 (C : CallF) (k' : Int) (t6 : List V) (t7 t8 part : Int) (visits : Bool) (b4_ b5_ : List V) {β : Type} (kn : (Int × Bool × (List V) × (List V)) → Option β) (kr : (Int × Bool × Bool × (List V) × (List V)) → Option β) : Option β :=
  bif (part : Int) != 0 then
   (C F_bits_TrailingZeros64 [.int .u64 part]).bind fun r2 =>
   (C F_expr_matcher_concat_2_1 [.int .i64 (IntKind.wrap .i64 ((IntKind.wrap .i64 (k' * 2 ^ (min (6 : Int).toNat (IntKind.bits .i64)))) + ((V.nth r2 0).toInt))), .bool visits, .list T_uint64 b5_, .list T_expr_offsets b4_]).bind fun r3 =>
   kn (IntKind.wrap .u64 ((BitVec.ofInt (IntKind.bits .u64) part &&& BitVec.ofInt (IntKind.bits .u64) (IntKind.wrap .u64 (part - 1))).toNat), (V.nth r3 0).toBool, (V.nth (r3.drop 1) 0).toList, (V.nth ((r3.drop 1).drop 1) 0).toList)
  else
   kr (part, (part : Int) != 0, visits, b4_, b5_)
noncomputable def s_expr_offsets_each_k105_1L (C : CallF) (k' : Int) (t6 : List V) (t7 t8 : Int) : (Int × Bool × (List V) × (List V)) → Option ((Int × Bool × (List V) × (List V)) ⊕ (Int × Bool × Bool × (List V) × (List V))) := un fun part => un fun visits => un fun b4_ b5_ => s_expr_offsets_each_k105_1 C k' t6 t7 t8 part visits b4_ b5_ (fun y => some (.inl y)) (fun r => some (.inr r))
noncomputable def s_expr_offsets_each_k105_2 (C : CallF) (t6 : List V) (t7 t8 : Int) (visits : Bool) (b4_ b5_ : List V) {β : Type} (kn : (Int × Bool × (List V) × (List V)) → Option β) (kr : (Int × Bool × Bool × (List V) × (List V)) → Option β) : Option β :=
  bif decide ((t8 : Int) < t7) then
   (idx t6 t8).bind fun x1 =>
   (Loop (s_expr_offsets_each_k105_1L C t8 t6 t7 t8) (x1.toInt, visits, b4_, b5_)).bind (un fun (part_4 : Int) => un fun (t_5 : Bool) => un fun (visits_6 : Bool) => un fun (b_7 : List V) (b_8 : List V) =>
     kn (IntKind.wrap .i64 (t8 + 1), visits_6, b_7, b_8))
  else
   kr (t8, decide ((t8 : Int) < t7), visits, b4_, b5_)
noncomputable def s_expr_offsets_each_k105_2L (C : CallF) (t6 : List V) (t7 : Int) : (Int × Bool × (List V) × (List V)) → Option ((Int × Bool × (List V) × (List V)) ⊕ (Int × Bool × Bool × (List V) × (List V))) := un fun t8 => un fun visits => un fun b4_ b5_ => s_expr_offsets_each_k105_2 C t6 t7 t8 visits b4_ b5_ (fun y => some (.inl y)) (fun r => some (.inr r))
noncomputable def LT_expr_offsets_each_k105 (C : CallF) : LTab := fun β n ds k =>
  bif Nat.beq n 49 then loopS S105_49 [false, true, false, false, false, true, true, true] [[1, 0, 3, 4, 5, 0, 0, 0, 0]] (@s_expr_offsets_each_k105_1 C) ds k else
  bif Nat.beq n 17 then loopS S105_17 [false, false, true, true, true, true] [[1, 2, 0, 0, 0, 0, 0]] (@s_expr_offsets_each_k105_2 C) ds k else
  none
abbrev TS_expr_offsets_each_k105 (C : CallF) (b : Bar) : Prop := Tells Tryd.prog ann C (LT_expr_offsets_each_k105 C) 105 (ntmpsOf Tryd.prog (ann.fid 105)) (ann.sin 105).blks.length b
theorem t_expr_offsets_each_k105_1 (C : CallF) : TS_expr_offsets_each_k105 C (.loop (codeAt [1, 0, 0, 1, 1, 0, 0, 1, 0, 0] B_expr_offsets_each_k105)) :=
  tl3 S105_49 [false, true, false, false, false, true, true, true] [[1, 0, 3, 4, 5, 0, 0, 0, 0]] (@s_expr_offsets_each_k105_1 C) (by kernel_rfl) (ltok_of (bs := []) (by kernel_rfl) tells_nil) (fun ds => by kernel_rfl) (fun i x => by kernel_rfl) (fun i x β k => by kernel_rfl) (fun β ds k => by kernel_rfl)
theorem t_expr_offsets_each_k105_2 (C : CallF) : TS_expr_offsets_each_k105 C (.loop (codeAt [1, 0, 0] B_expr_offsets_each_k105)) :=
  tl3 S105_17 [false, false, true, true, true, true] [[1, 2, 0, 0, 0, 0, 0]] (@s_expr_offsets_each_k105_2 C) (by kernel_rfl) (ltok_of (bs := [.loop (codeAt [1, 0, 0, 1, 1, 0, 0, 1, 0, 0] B_expr_offsets_each_k105)]) (by kernel_rfl) (tells_cons (t_expr_offsets_each_k105_1 C) tells_nil)) (fun ds => by kernel_rfl) (fun i x => by kernel_rfl) (fun i x β k => by kernel_rfl) (fun β ds k => by kernel_rfl)
noncomputable def f_expr_offsets_each_k105 (C : CallF) (s : List V) (visits : Bool) (b3_ b4_ : List V) : Option (List V) :=
  (Loop (s_expr_offsets_each_k105_2L C s (s.length : Int)) (0, visits, b4_, b3_)).bind (un fun (t_9 : Int) => un fun (t_10 : Bool) => un fun (visits_11 : Bool) => un fun (b_12 : List V) (b_13 : List V) =>
    some [.bool visits_11, .list T_expr_offsets b_12, .list T_uint64 b_13])
theorem f_expr_offsets_each_k105_of {s : List V} {visits : Bool} {b3_ b4_ : List V} {r : Option (List V)} (h : f_expr_offsets_each_k105 CC s visits b3_ b4_ = r) : CC K_expr_offsets_each_k105 [.list T_uint64 s, .bool visits, .list T_uint64 b3_, .list T_expr_offsets b4_] = r :=
  func_of (key := 105) (L := LT_expr_offsets_each_k105 CC) (bs := [.loop (codeAt [1, 0, 0] B_expr_offsets_each_k105)]) (by kernel_rfl) (tells_cons (t_expr_offsets_each_k105_2 CC) tells_nil) (Eq.trans (by kernel_rfl) h)
end Go.AM
set_option maxRecDepth 100000
namespace Go.AM
open Go.Proofs
noncomputable abbrev B_expr_offsets_each_k98 : Code := bodyOf Tryd.prog (ann.fid 98)
noncomputable def s_expr_offsets_each_k98_1 (C : CallF) (k' : Int) (t6 : List V) (t7 t8 part visits : Int) {β : Type} (kn : (Int × Int) → Option β) (kr : (Int × Bool × Int) → Option β) : Option β :=
  bif (part : Int) != 0 then
   (C F_bits_TrailingZeros64 [.int .u64 part]).bind fun r2 =>
   (C F_expr_matcher_star_1 [.int .i64 (IntKind.wrap .i64 ((IntKind.wrap .i64 (k' * 2 ^ (min (6 : Int).toNat (IntKind.bits .i64)))) + ((V.nth r2 0).toInt))), .int .i64 visits]).bind fun r3 =>
   kn (IntKind.wrap .u64 ((BitVec.ofInt (IntKind.bits .u64) part &&& BitVec.ofInt (IntKind.bits .u64) (IntKind.wrap .u64 (part - 1))).toNat), (V.nth r3 0).toInt)
  else
   kr (part, (part : Int) != 0, visits)
noncomputable def s_expr_offsets_each_k98_1L (C : CallF) (k' : Int) (t6 : List V) (t7 t8 : Int) : (Int × Int) → Option ((Int × Int) ⊕ (Int × Bool × Int)) := un fun part visits => s_expr_offsets_each_k98_1 C k' t6 t7 t8 part visits (fun y => some (.inl y)) (fun r => some (.inr r))
noncomputable def s_expr_offsets_each_k98_2 (C : CallF) (t6 : List V) (t7 t8 visits : Int) {β : Type} (kn : (Int × Int) → Option β) (kr : (Int × Bool × Int) → Option β) : Option β :=
  bif decide ((t8 : Int) < t7) then
   (idx t6 t8).bind fun x1 =>
   (Loop (s_expr_offsets_each_k98_1L C t8 t6 t7 t8) (x1.toInt, visits)).bind (un fun (part_4 : Int) => un fun (t_5 : Bool) (visits_6 : Int) =>
     kn (IntKind.wrap .i64 (t8 + 1), visits_6))
  else
   kr (t8, decide ((t8 : Int) < t7), visits)
noncomputable def s_expr_offsets_each_k98_2L (C : CallF) (t6 : List V) (t7 : Int) : (Int × Int) → Option ((Int × Int) ⊕ (Int × Bool × Int)) := un fun t8 visits => s_expr_offsets_each_k98_2 C t6 t7 t8 visits (fun y => some (.inl y)) (fun r => some (.inr r))
noncomputable def LT_expr_offsets_each_k98 (C : CallF) : LTab := fun β n ds k =>
  bif Nat.beq n 49 then loopS S98_49 [false, true, false, false, false, true] [[1, 0, 3, 4, 5, 0, 0]] (@s_expr_offsets_each_k98_1 C) ds k else
  bif Nat.beq n 17 then loopS S98_17 [false, false, true, true] [[1, 2, 0, 0, 0]] (@s_expr_offsets_each_k98_2 C) ds k else
  none
abbrev TS_expr_offsets_each_k98 (C : CallF) (b : Bar) : Prop := Tells Tryd.prog ann C (LT_expr_offsets_each_k98 C) 98 (ntmpsOf Tryd.prog (ann.fid 98)) (ann.sin 98).blks.length b
theorem t_expr_offsets_each_k98_1 (C : CallF) : TS_expr_offsets_each_k98 C (.loop (codeAt [1, 0, 0, 1, 1, 0, 0, 1, 0, 0] B_expr_offsets_each_k98)) :=
  tl3 S98_49 [false, true, false, false, false, true] [[1, 0, 3, 4, 5, 0, 0]] (@s_expr_offsets_each_k98_1 C) (by kernel_rfl) (ltok_of (bs := []) (by kernel_rfl) tells_nil) (fun ds => by kernel_rfl) (fun i x => by kernel_rfl) (fun i x β k => by kernel_rfl) (fun β ds k => by kernel_rfl)
theorem t_expr_offsets_each_k98_2 (C : CallF) : TS_expr_offsets_each_k98 C (.loop (codeAt [1, 0, 0] B_expr_offsets_each_k98)) :=
  tl3 S98_17 [false, false, true, true] [[1, 2, 0, 0, 0]] (@s_expr_offsets_each_k98_2 C) (by kernel_rfl) (ltok_of (bs := [.loop (codeAt [1, 0, 0, 1, 1, 0, 0, 1, 0, 0] B_expr_offsets_each_k98)]) (by kernel_rfl) (tells_cons (t_expr_offsets_each_k98_1 C) tells_nil)) (fun ds => by kernel_rfl) (fun i x => by kernel_rfl) (fun i x β k => by kernel_rfl) (fun β ds k => by kernel_rfl)
noncomputable def f_expr_offsets_each_k98 (C : CallF) (s : List V) (visits : Int) : Option (List V) :=
  (Loop (s_expr_offsets_each_k98_2L C s (s.length : Int)) (0, visits)).bind (un fun (t_7 : Int) => un fun (t_8 : Bool) (visits_9 : Int) =>
    some [.int .i64 visits_9])
theorem f_expr_offsets_each_k98_of {s : List V} {visits : Int} {r : Option (List V)} (h : f_expr_offsets_each_k98 CC s visits = r) : CC K_expr_offsets_each_k98 [.list T_uint64 s, .int .i64 visits] = r :=
  func_of (key := 98) (L := LT_expr_offsets_each_k98 CC) (bs := [.loop (codeAt [1, 0, 0] B_expr_offsets_each_k98)]) (by kernel_rfl) (tells_cons (t_expr_offsets_each_k98_2 CC) tells_nil) (Eq.trans (by kernel_rfl) h)
end Go.AM
set_option maxRecDepth 100000
set_option linter.unusedSimpArgs false
namespace Go.AM
open Go.Proofs
abbrev KE_ends_1 : Nat := F_expr_offsets_each
theorem each_ends_1 {m F : Nat} (hm : m ≤ 100) {P : Nat → ((List UInt8) × Int × Int × (List V) × (List V)) → Prop}
    (hv : ∀ (i : Nat) (a : (List UInt8) × Int × Int × (List V) × (List V)), i < 64 * m → F.testBit i = true → P i a → ∃ a' : (List UInt8) × Int × Int × (List V) × (List V), CC F_expr_matcher_ends_1 [.int .i64 (i : Int), .str a.1, .int .i64 a.2.1, .int .i64 a.2.2.1, .list T_api_Expr a.2.2.2.1, .list T_expr_offsets a.2.2.2.2] = some [.str a'.1, .int .i64 a'.2.1, .int .i64 a'.2.2.1, .list T_api_Expr a'.2.2.2.1, .list T_expr_offsets a'.2.2.2.2] ∧ P (i + 1) a')
    (h2 : ∀ i a, F.testBit i = false → P i a → P (i + 1) a) (a : (List UInt8) × Int × Int × (List V) × (List V)) (hP : P 0 a) :
    ∃ a' : (List UInt8) × Int × Int × (List V) × (List V), CC KE_ends_1 [.list T_uint64 (offV m F), .str a.1, .int .i64 a.2.1, .int .i64 a.2.2.1, .list T_api_Expr a.2.2.2.1, .list T_expr_offsets a.2.2.2.2] = some [.str a'.1, .int .i64 a'.2.1, .int .i64 a'.2.2.1, .list T_api_Expr a'.2.2.2.1, .list T_expr_offsets a'.2.2.2.2] ∧ P (64 * m) a' := by
  suffices h : ∃ a', Loop (s_expr_offsets_each_2L CC (offV m F) (m : Int)) (0, a) = some ((m : Int), false, a') ∧ P (64 * m) a' by
    obtain ⟨a', hl, hP'⟩ := h
    refine ⟨a', f_expr_offsets_each_of ?_, hP'⟩
    unfold f_expr_offsets_each
    rw [offV_len]
    exact (congrArg (fun o => Option.bind o _) hl).trans rfl
  refine each_loop (S := F) (m := m) hm (outer := s_expr_offsets_each_2L CC (offV m F) (m : Int)) (inner := fun k => s_expr_offsets_each_1L CC (k : Int) (offV m F) (m : Int) (k : Int)) (P := P) ?_ ?_ ?_ h2 ?_ a hP
  · intro k a a' hk hl
    rcases a with ⟨x0, x1, x2, x3, x4⟩
    rcases a' with ⟨y0, y1, y2, y3, y4⟩
    replace hl : Loop (s_expr_offsets_each_1L CC (k : Int) (offV m F) (m : Int) (k : Int)) _ = _ := hl
    simp only [s_expr_offsets_each_2L, s_expr_offsets_each_2, un]
    rw [bif_decide, if_pos (by omega), idx_nat, offV_get hk]
    simp only [Option.bind_some, V.toInt_int]
    rw [hl]
    simp only [Option.bind_some]
    rw [wrap64 (by omega) (by omega)]
    rfl
  · intro a
    rcases a with ⟨x0, x1, x2, x3, x4⟩
    simp only [s_expr_offsets_each_2L, s_expr_offsets_each_2, un]
    rw [bif_decide, if_neg (by omega), decide_eq_false (by omega)]
  · intro k j q a hk hj hq hb hp
    obtain ⟨a', hc, hp'⟩ := hv (64 * k + j) a (by omega) hb hp
    refine ⟨a', ?_, hp'⟩
    show s_expr_offsets_each_1L CC (k : Int) (offV m F) (m : Int) (k : Int) _ = _
    rcases a with ⟨x0, x1, x2, x3, x4⟩
    rcases a' with ⟨y0, y1, y2, y3, y4⟩
    simp only [s_expr_offsets_each_1L, s_expr_offsets_each_1, un]
    rw [bif_bne, if_neg part_ne, Trailing_spec hq]
    simp only [Option.bind_some, V.nth_zero, V.toInt_int]
    rw [ix_eq (by omega) hj]
    refine (congrArg (fun o => Option.bind o _) hc).trans ?_
    simp only [Option.bind_some, List.drop_succ_cons, List.drop_zero, V.nth_zero, V.toInt_int, V.toStr_str, V.toBool_bool, V.toList_list]
    rw [part_next hq]
  · intro k a
    rcases a with ⟨x0, x1, x2, x3, x4⟩
    show s_expr_offsets_each_1L CC (k : Int) (offV m F) (m : Int) (k : Int) _ = _
    simp only [s_expr_offsets_each_1L, s_expr_offsets_each_1, un]
    rw [bif_bne, if_pos rfl]
    rfl
abbrev KE_combine_1 : Nat := K_expr_offsets_each_k100
theorem each_combine_1 {m F : Nat} (hm : m ≤ 100) {P : Nat → (Int × Int × (List V) × (List V) × (List V)) → Prop}
    (hv : ∀ (i : Nat) (a : Int × Int × (List V) × (List V) × (List V)), i < 64 * m → F.testBit i = true → P i a → ∃ a' : Int × Int × (List V) × (List V) × (List V), CC F_expr_matcher_combine_1 [.int .i64 (i : Int), .int .i64 a.1, .int .i64 a.2.1, .list T_api_Expr a.2.2.1, .list T_expr_offsets a.2.2.2.1, .list T_expr_offsets a.2.2.2.2] = some [.int .i64 a'.1, .int .i64 a'.2.1, .list T_api_Expr a'.2.2.1, .list T_expr_offsets a'.2.2.2.1, .list T_expr_offsets a'.2.2.2.2] ∧ P (i + 1) a')
    (h2 : ∀ i a, F.testBit i = false → P i a → P (i + 1) a) (a : Int × Int × (List V) × (List V) × (List V)) (hP : P 0 a) :
    ∃ a' : Int × Int × (List V) × (List V) × (List V), CC KE_combine_1 [.list T_uint64 (offV m F), .int .i64 a.1, .int .i64 a.2.1, .list T_api_Expr a.2.2.1, .list T_expr_offsets a.2.2.2.1, .list T_expr_offsets a.2.2.2.2] = some [.int .i64 a'.1, .int .i64 a'.2.1, .list T_api_Expr a'.2.2.1, .list T_expr_offsets a'.2.2.2.1, .list T_expr_offsets a'.2.2.2.2] ∧ P (64 * m) a' := by
  suffices h : ∃ a', Loop (s_expr_offsets_each_k100_2L CC (offV m F) (m : Int)) (0, a) = some ((m : Int), false, a') ∧ P (64 * m) a' by
    obtain ⟨a', hl, hP'⟩ := h
    refine ⟨a', f_expr_offsets_each_k100_of ?_, hP'⟩
    unfold f_expr_offsets_each_k100
    rw [offV_len]
    exact (congrArg (fun o => Option.bind o _) hl).trans rfl
  refine each_loop (S := F) (m := m) hm (outer := s_expr_offsets_each_k100_2L CC (offV m F) (m : Int)) (inner := fun k => s_expr_offsets_each_k100_1L CC (k : Int) (offV m F) (m : Int) (k : Int)) (P := P) ?_ ?_ ?_ h2 ?_ a hP
  · intro k a a' hk hl
    rcases a with ⟨x0, x1, x2, x3, x4⟩
    rcases a' with ⟨y0, y1, y2, y3, y4⟩
    replace hl : Loop (s_expr_offsets_each_k100_1L CC (k : Int) (offV m F) (m : Int) (k : Int)) _ = _ := hl
    simp only [s_expr_offsets_each_k100_2L, s_expr_offsets_each_k100_2, un]
    rw [bif_decide, if_pos (by omega), idx_nat, offV_get hk]
    simp only [Option.bind_some, V.toInt_int]
    rw [hl]
    simp only [Option.bind_some]
    rw [wrap64 (by omega) (by omega)]
    rfl
  · intro a
    rcases a with ⟨x0, x1, x2, x3, x4⟩
    simp only [s_expr_offsets_each_k100_2L, s_expr_offsets_each_k100_2, un]
    rw [bif_decide, if_neg (by omega), decide_eq_false (by omega)]
  · intro k j q a hk hj hq hb hp
    obtain ⟨a', hc, hp'⟩ := hv (64 * k + j) a (by omega) hb hp
    refine ⟨a', ?_, hp'⟩
    show s_expr_offsets_each_k100_1L CC (k : Int) (offV m F) (m : Int) (k : Int) _ = _
    rcases a with ⟨x0, x1, x2, x3, x4⟩
    rcases a' with ⟨y0, y1, y2, y3, y4⟩
    simp only [s_expr_offsets_each_k100_1L, s_expr_offsets_each_k100_1, un]
    rw [bif_bne, if_neg part_ne, Trailing_spec hq]
    simp only [Option.bind_some, V.nth_zero, V.toInt_int]
    rw [ix_eq (by omega) hj]
    refine (congrArg (fun o => Option.bind o _) hc).trans ?_
    simp only [Option.bind_some, List.drop_succ_cons, List.drop_zero, V.nth_zero, V.toInt_int, V.toStr_str, V.toBool_bool, V.toList_list]
    rw [part_next hq]
  · intro k a
    rcases a with ⟨x0, x1, x2, x3, x4⟩
    show s_expr_offsets_each_k100_1L CC (k : Int) (offV m F) (m : Int) (k : Int) _ = _
    simp only [s_expr_offsets_each_k100_1L, s_expr_offsets_each_k100_1, un]
    rw [bif_bne, if_pos rfl]
    rfl
abbrev KE_star_2 : Nat := K_expr_offsets_each_k101
theorem each_star_2 {m F : Nat} (hm : m ≤ 100) {P : Nat → ((List V) × (List V)) → Prop}
    (hv : ∀ (i : Nat) (a : (List V) × (List V)), i < 64 * m → F.testBit i = true → P i a → ∃ a' : (List V) × (List V), CC F_expr_matcher_star_2 [.int .i64 (i : Int), .list T_uint64 a.2, .list T_expr_offsets a.1] = some [.list T_expr_offsets a'.1, .list T_uint64 a'.2] ∧ P (i + 1) a')
    (h2 : ∀ i a, F.testBit i = false → P i a → P (i + 1) a) (a : (List V) × (List V)) (hP : P 0 a) :
    ∃ a' : (List V) × (List V), CC KE_star_2 [.list T_uint64 (offV m F), .list T_uint64 a.2, .list T_expr_offsets a.1] = some [.list T_expr_offsets a'.1, .list T_uint64 a'.2] ∧ P (64 * m) a' := by
  suffices h : ∃ a', Loop (s_expr_offsets_each_k101_2L CC (offV m F) (m : Int)) (0, a) = some ((m : Int), false, a') ∧ P (64 * m) a' by
    obtain ⟨a', hl, hP'⟩ := h
    refine ⟨a', f_expr_offsets_each_k101_of ?_, hP'⟩
    unfold f_expr_offsets_each_k101
    rw [offV_len]
    exact (congrArg (fun o => Option.bind o _) hl).trans rfl
  refine each_loop (S := F) (m := m) hm (outer := s_expr_offsets_each_k101_2L CC (offV m F) (m : Int)) (inner := fun k => s_expr_offsets_each_k101_1L CC (k : Int) (offV m F) (m : Int) (k : Int)) (P := P) ?_ ?_ ?_ h2 ?_ a hP
  · intro k a a' hk hl
    rcases a with ⟨x0, x1⟩
    rcases a' with ⟨y0, y1⟩
    replace hl : Loop (s_expr_offsets_each_k101_1L CC (k : Int) (offV m F) (m : Int) (k : Int)) _ = _ := hl
    simp only [s_expr_offsets_each_k101_2L, s_expr_offsets_each_k101_2, un]
    rw [bif_decide, if_pos (by omega), idx_nat, offV_get hk]
    simp only [Option.bind_some, V.toInt_int]
    rw [hl]
    simp only [Option.bind_some]
    rw [wrap64 (by omega) (by omega)]
    rfl
  · intro a
    rcases a with ⟨x0, x1⟩
    simp only [s_expr_offsets_each_k101_2L, s_expr_offsets_each_k101_2, un]
    rw [bif_decide, if_neg (by omega), decide_eq_false (by omega)]
  · intro k j q a hk hj hq hb hp
    obtain ⟨a', hc, hp'⟩ := hv (64 * k + j) a (by omega) hb hp
    refine ⟨a', ?_, hp'⟩
    show s_expr_offsets_each_k101_1L CC (k : Int) (offV m F) (m : Int) (k : Int) _ = _
    rcases a with ⟨x0, x1⟩
    rcases a' with ⟨y0, y1⟩
    simp only [s_expr_offsets_each_k101_1L, s_expr_offsets_each_k101_1, un]
    rw [bif_bne, if_neg part_ne, Trailing_spec hq]
    simp only [Option.bind_some, V.nth_zero, V.toInt_int]
    rw [ix_eq (by omega) hj]
    refine (congrArg (fun o => Option.bind o _) hc).trans ?_
    simp only [Option.bind_some, List.drop_succ_cons, List.drop_zero, V.nth_zero, V.toInt_int, V.toStr_str, V.toBool_bool, V.toList_list]
    rw [part_next hq]
  · intro k a
    rcases a with ⟨x0, x1⟩
    show s_expr_offsets_each_k101_1L CC (k : Int) (offV m F) (m : Int) (k : Int) _ = _
    simp only [s_expr_offsets_each_k101_1L, s_expr_offsets_each_k101_1, un]
    rw [bif_bne, if_pos rfl]
    rfl
abbrev KE_concat_1 : Nat := K_expr_offsets_each_k102
theorem each_concat_1 {m F : Nat} (hm : m ≤ 100) {P : Nat → ((List V) × (List V)) → Prop}
    (hv : ∀ (i : Nat) (a : (List V) × (List V)), i < 64 * m → F.testBit i = true → P i a → ∃ a' : (List V) × (List V), CC F_expr_matcher_concat_1 [.int .i64 (i : Int), .list T_uint64 a.2, .list T_expr_offsets a.1] = some [.list T_expr_offsets a'.1, .list T_uint64 a'.2] ∧ P (i + 1) a')
    (h2 : ∀ i a, F.testBit i = false → P i a → P (i + 1) a) (a : (List V) × (List V)) (hP : P 0 a) :
    ∃ a' : (List V) × (List V), CC KE_concat_1 [.list T_uint64 (offV m F), .list T_uint64 a.2, .list T_expr_offsets a.1] = some [.list T_expr_offsets a'.1, .list T_uint64 a'.2] ∧ P (64 * m) a' := by
  suffices h : ∃ a', Loop (s_expr_offsets_each_k102_2L CC (offV m F) (m : Int)) (0, a) = some ((m : Int), false, a') ∧ P (64 * m) a' by
    obtain ⟨a', hl, hP'⟩ := h
    refine ⟨a', f_expr_offsets_each_k102_of ?_, hP'⟩
    unfold f_expr_offsets_each_k102
    rw [offV_len]
    exact (congrArg (fun o => Option.bind o _) hl).trans rfl
  refine each_loop (S := F) (m := m) hm (outer := s_expr_offsets_each_k102_2L CC (offV m F) (m : Int)) (inner := fun k => s_expr_offsets_each_k102_1L CC (k : Int) (offV m F) (m : Int) (k : Int)) (P := P) ?_ ?_ ?_ h2 ?_ a hP
  · intro k a a' hk hl
    rcases a with ⟨x0, x1⟩
    rcases a' with ⟨y0, y1⟩
    replace hl : Loop (s_expr_offsets_each_k102_1L CC (k : Int) (offV m F) (m : Int) (k : Int)) _ = _ := hl
    simp only [s_expr_offsets_each_k102_2L, s_expr_offsets_each_k102_2, un]
    rw [bif_decide, if_pos (by omega), idx_nat, offV_get hk]
    simp only [Option.bind_some, V.toInt_int]
    rw [hl]
    simp only [Option.bind_some]
    rw [wrap64 (by omega) (by omega)]
    rfl
  · intro a
    rcases a with ⟨x0, x1⟩
    simp only [s_expr_offsets_each_k102_2L, s_expr_offsets_each_k102_2, un]
    rw [bif_decide, if_neg (by omega), decide_eq_false (by omega)]
  · intro k j q a hk hj hq hb hp
    obtain ⟨a', hc, hp'⟩ := hv (64 * k + j) a (by omega) hb hp
    refine ⟨a', ?_, hp'⟩
    show s_expr_offsets_each_k102_1L CC (k : Int) (offV m F) (m : Int) (k : Int) _ = _
    rcases a with ⟨x0, x1⟩
    rcases a' with ⟨y0, y1⟩
    simp only [s_expr_offsets_each_k102_1L, s_expr_offsets_each_k102_1, un]
    rw [bif_bne, if_neg part_ne, Trailing_spec hq]
    simp only [Option.bind_some, V.nth_zero, V.toInt_int]
    rw [ix_eq (by omega) hj]
    refine (congrArg (fun o => Option.bind o _) hc).trans ?_
    simp only [Option.bind_some, List.drop_succ_cons, List.drop_zero, V.nth_zero, V.toInt_int, V.toStr_str, V.toBool_bool, V.toList_list]
    rw [part_next hq]
  · intro k a
    rcases a with ⟨x0, x1⟩
    show s_expr_offsets_each_k102_1L CC (k : Int) (offV m F) (m : Int) (k : Int) _ = _
    simp only [s_expr_offsets_each_k102_1L, s_expr_offsets_each_k102_1, un]
    rw [bif_bne, if_pos rfl]
    rfl
abbrev KE_complement_1 : Nat := K_expr_offsets_each_k103
theorem each_complement_1 {m F : Nat} (hm : m ≤ 100) {P : Nat → ((List UInt8) × Int × (List V)) → Prop}
    (hv : ∀ (i : Nat) (a : (List UInt8) × Int × (List V)), i < 64 * m → F.testBit i = true → P i a → ∃ a' : (List UInt8) × Int × (List V), CC F_expr_matcher_complement_1 [.int .i64 (i : Int), .str a.1, .int .i64 a.2.1, .list T_expr_offsets a.2.2] = some [.str a'.1, .int .i64 a'.2.1, .list T_expr_offsets a'.2.2] ∧ P (i + 1) a')
    (h2 : ∀ i a, F.testBit i = false → P i a → P (i + 1) a) (a : (List UInt8) × Int × (List V)) (hP : P 0 a) :
    ∃ a' : (List UInt8) × Int × (List V), CC KE_complement_1 [.list T_uint64 (offV m F), .str a.1, .int .i64 a.2.1, .list T_expr_offsets a.2.2] = some [.str a'.1, .int .i64 a'.2.1, .list T_expr_offsets a'.2.2] ∧ P (64 * m) a' := by
  suffices h : ∃ a', Loop (s_expr_offsets_each_k103_2L CC (offV m F) (m : Int)) (0, a) = some ((m : Int), false, a') ∧ P (64 * m) a' by
    obtain ⟨a', hl, hP'⟩ := h
    refine ⟨a', f_expr_offsets_each_k103_of ?_, hP'⟩
    unfold f_expr_offsets_each_k103
    rw [offV_len]
    exact (congrArg (fun o => Option.bind o _) hl).trans rfl
  refine each_loop (S := F) (m := m) hm (outer := s_expr_offsets_each_k103_2L CC (offV m F) (m : Int)) (inner := fun k => s_expr_offsets_each_k103_1L CC (k : Int) (offV m F) (m : Int) (k : Int)) (P := P) ?_ ?_ ?_ h2 ?_ a hP
  · intro k a a' hk hl
    rcases a with ⟨x0, x1, x2⟩
    rcases a' with ⟨y0, y1, y2⟩
    replace hl : Loop (s_expr_offsets_each_k103_1L CC (k : Int) (offV m F) (m : Int) (k : Int)) _ = _ := hl
    simp only [s_expr_offsets_each_k103_2L, s_expr_offsets_each_k103_2, un]
    rw [bif_decide, if_pos (by omega), idx_nat, offV_get hk]
    simp only [Option.bind_some, V.toInt_int]
    rw [hl]
    simp only [Option.bind_some]
    rw [wrap64 (by omega) (by omega)]
    rfl
  · intro a
    rcases a with ⟨x0, x1, x2⟩
    simp only [s_expr_offsets_each_k103_2L, s_expr_offsets_each_k103_2, un]
    rw [bif_decide, if_neg (by omega), decide_eq_false (by omega)]
  · intro k j q a hk hj hq hb hp
    obtain ⟨a', hc, hp'⟩ := hv (64 * k + j) a (by omega) hb hp
    refine ⟨a', ?_, hp'⟩
    show s_expr_offsets_each_k103_1L CC (k : Int) (offV m F) (m : Int) (k : Int) _ = _
    rcases a with ⟨x0, x1, x2⟩
    rcases a' with ⟨y0, y1, y2⟩
    simp only [s_expr_offsets_each_k103_1L, s_expr_offsets_each_k103_1, un]
    rw [bif_bne, if_neg part_ne, Trailing_spec hq]
    simp only [Option.bind_some, V.nth_zero, V.toInt_int]
    rw [ix_eq (by omega) hj]
    refine (congrArg (fun o => Option.bind o _) hc).trans ?_
    simp only [Option.bind_some, List.drop_succ_cons, List.drop_zero, V.nth_zero, V.toInt_int, V.toStr_str, V.toBool_bool, V.toList_list]
    rw [part_next hq]
  · intro k a
    rcases a with ⟨x0, x1, x2⟩
    show s_expr_offsets_each_k103_1L CC (k : Int) (offV m F) (m : Int) (k : Int) _ = _
    simp only [s_expr_offsets_each_k103_1L, s_expr_offsets_each_k103_1, un]
    rw [bif_bne, if_pos rfl]
    rfl
abbrev KE_concat_2 : Nat := K_expr_offsets_each_k104
theorem each_concat_2 {m F : Nat} (hm : m ≤ 100) {P : Nat → ((List UInt8) × Bool × (List V) × (List V)) → Prop}
    (hv : ∀ (i : Nat) (a : (List UInt8) × Bool × (List V) × (List V)), i < 64 * m → F.testBit i = true → P i a → ∃ a' : (List UInt8) × Bool × (List V) × (List V), CC F_expr_matcher_concat_2 [.int .i64 (i : Int), .str a.1, .bool a.2.1, .list T_expr_offsets a.2.2.1, .list T_expr_offsets a.2.2.2] = some [.str a'.1, .bool a'.2.1, .list T_expr_offsets a'.2.2.1, .list T_expr_offsets a'.2.2.2] ∧ P (i + 1) a')
    (h2 : ∀ i a, F.testBit i = false → P i a → P (i + 1) a) (a : (List UInt8) × Bool × (List V) × (List V)) (hP : P 0 a) :
    ∃ a' : (List UInt8) × Bool × (List V) × (List V), CC KE_concat_2 [.list T_uint64 (offV m F), .str a.1, .bool a.2.1, .list T_expr_offsets a.2.2.1, .list T_expr_offsets a.2.2.2] = some [.str a'.1, .bool a'.2.1, .list T_expr_offsets a'.2.2.1, .list T_expr_offsets a'.2.2.2] ∧ P (64 * m) a' := by
  suffices h : ∃ a', Loop (s_expr_offsets_each_k104_2L CC (offV m F) (m : Int)) (0, a) = some ((m : Int), false, a') ∧ P (64 * m) a' by
    obtain ⟨a', hl, hP'⟩ := h
    refine ⟨a', f_expr_offsets_each_k104_of ?_, hP'⟩
    unfold f_expr_offsets_each_k104
    rw [offV_len]
    exact (congrArg (fun o => Option.bind o _) hl).trans rfl
  refine each_loop (S := F) (m := m) hm (outer := s_expr_offsets_each_k104_2L CC (offV m F) (m : Int)) (inner := fun k => s_expr_offsets_each_k104_1L CC (k : Int) (offV m F) (m : Int) (k : Int)) (P := P) ?_ ?_ ?_ h2 ?_ a hP
  · intro k a a' hk hl
    rcases a with ⟨x0, x1, x2, x3⟩
    rcases a' with ⟨y0, y1, y2, y3⟩
    replace hl : Loop (s_expr_offsets_each_k104_1L CC (k : Int) (offV m F) (m : Int) (k : Int)) _ = _ := hl
    simp only [s_expr_offsets_each_k104_2L, s_expr_offsets_each_k104_2, un]
    rw [bif_decide, if_pos (by omega), idx_nat, offV_get hk]
    simp only [Option.bind_some, V.toInt_int]
    rw [hl]
    simp only [Option.bind_some]
    rw [wrap64 (by omega) (by omega)]
    rfl
  · intro a
    rcases a with ⟨x0, x1, x2, x3⟩
    simp only [s_expr_offsets_each_k104_2L, s_expr_offsets_each_k104_2, un]
    rw [bif_decide, if_neg (by omega), decide_eq_false (by omega)]
  · intro k j q a hk hj hq hb hp
    obtain ⟨a', hc, hp'⟩ := hv (64 * k + j) a (by omega) hb hp
    refine ⟨a', ?_, hp'⟩
    show s_expr_offsets_each_k104_1L CC (k : Int) (offV m F) (m : Int) (k : Int) _ = _
    rcases a with ⟨x0, x1, x2, x3⟩
    rcases a' with ⟨y0, y1, y2, y3⟩
    simp only [s_expr_offsets_each_k104_1L, s_expr_offsets_each_k104_1, un]
    rw [bif_bne, if_neg part_ne, Trailing_spec hq]
    simp only [Option.bind_some, V.nth_zero, V.toInt_int]
    rw [ix_eq (by omega) hj]
    refine (congrArg (fun o => Option.bind o _) hc).trans ?_
    simp only [Option.bind_some, List.drop_succ_cons, List.drop_zero, V.nth_zero, V.toInt_int, V.toStr_str, V.toBool_bool, V.toList_list]
    rw [part_next hq]
  · intro k a
    rcases a with ⟨x0, x1, x2, x3⟩
    show s_expr_offsets_each_k104_1L CC (k : Int) (offV m F) (m : Int) (k : Int) _ = _
    simp only [s_expr_offsets_each_k104_1L, s_expr_offsets_each_k104_1, un]
    rw [bif_bne, if_pos rfl]
    rfl
abbrev KE_concat_2_1 : Nat := K_expr_offsets_each_k105
theorem each_concat_2_1 {m F : Nat} (hm : m ≤ 100) {P : Nat → (Bool × (List V) × (List V)) → Prop}
    (hv : ∀ (i : Nat) (a : Bool × (List V) × (List V)), i < 64 * m → F.testBit i = true → P i a → ∃ a' : Bool × (List V) × (List V), CC F_expr_matcher_concat_2_1 [.int .i64 (i : Int), .bool a.1, .list T_uint64 a.2.2, .list T_expr_offsets a.2.1] = some [.bool a'.1, .list T_expr_offsets a'.2.1, .list T_uint64 a'.2.2] ∧ P (i + 1) a')
    (h2 : ∀ i a, F.testBit i = false → P i a → P (i + 1) a) (a : Bool × (List V) × (List V)) (hP : P 0 a) :
    ∃ a' : Bool × (List V) × (List V), CC KE_concat_2_1 [.list T_uint64 (offV m F), .bool a.1, .list T_uint64 a.2.2, .list T_expr_offsets a.2.1] = some [.bool a'.1, .list T_expr_offsets a'.2.1, .list T_uint64 a'.2.2] ∧ P (64 * m) a' := by
  suffices h : ∃ a', Loop (s_expr_offsets_each_k105_2L CC (offV m F) (m : Int)) (0, a) = some ((m : Int), false, a') ∧ P (64 * m) a' by
    obtain ⟨a', hl, hP'⟩ := h
    refine ⟨a', f_expr_offsets_each_k105_of ?_, hP'⟩
    unfold f_expr_offsets_each_k105
    rw [offV_len]
    exact (congrArg (fun o => Option.bind o _) hl).trans rfl
  refine each_loop (S := F) (m := m) hm (outer := s_expr_offsets_each_k105_2L CC (offV m F) (m : Int)) (inner := fun k => s_expr_offsets_each_k105_1L CC (k : Int) (offV m F) (m : Int) (k : Int)) (P := P) ?_ ?_ ?_ h2 ?_ a hP
  · intro k a a' hk hl
    rcases a with ⟨x0, x1, x2⟩
    rcases a' with ⟨y0, y1, y2⟩
    replace hl : Loop (s_expr_offsets_each_k105_1L CC (k : Int) (offV m F) (m : Int) (k : Int)) _ = _ := hl
    simp only [s_expr_offsets_each_k105_2L, s_expr_offsets_each_k105_2, un]
    rw [bif_decide, if_pos (by omega), idx_nat, offV_get hk]
    simp only [Option.bind_some, V.toInt_int]
    rw [hl]
    simp only [Option.bind_some]
    rw [wrap64 (by omega) (by omega)]
    rfl
  · intro a
    rcases a with ⟨x0, x1, x2⟩
    simp only [s_expr_offsets_each_k105_2L, s_expr_offsets_each_k105_2, un]
    rw [bif_decide, if_neg (by omega), decide_eq_false (by omega)]
  · intro k j q a hk hj hq hb hp
    obtain ⟨a', hc, hp'⟩ := hv (64 * k + j) a (by omega) hb hp
    refine ⟨a', ?_, hp'⟩
    show s_expr_offsets_each_k105_1L CC (k : Int) (offV m F) (m : Int) (k : Int) _ = _
    rcases a with ⟨x0, x1, x2⟩
    rcases a' with ⟨y0, y1, y2⟩
    simp only [s_expr_offsets_each_k105_1L, s_expr_offsets_each_k105_1, un]
    rw [bif_bne, if_neg part_ne, Trailing_spec hq]
    simp only [Option.bind_some, V.nth_zero, V.toInt_int]
    rw [ix_eq (by omega) hj]
    refine (congrArg (fun o => Option.bind o _) hc).trans ?_
    simp only [Option.bind_some, List.drop_succ_cons, List.drop_zero, V.nth_zero, V.toInt_int, V.toStr_str, V.toBool_bool, V.toList_list]
    rw [part_next hq]
  · intro k a
    rcases a with ⟨x0, x1, x2⟩
    show s_expr_offsets_each_k105_1L CC (k : Int) (offV m F) (m : Int) (k : Int) _ = _
    simp only [s_expr_offsets_each_k105_1L, s_expr_offsets_each_k105_1, un]
    rw [bif_bne, if_pos rfl]
    rfl
abbrev KE_star_1 : Nat := K_expr_offsets_each_k98
theorem each_star_1 {m F : Nat} (hm : m ≤ 100) {P : Nat → (Int) → Prop}
    (hv : ∀ (i : Nat) (a : Int), i < 64 * m → F.testBit i = true → P i a → ∃ a' : Int, CC F_expr_matcher_star_1 [.int .i64 (i : Int), .int .i64 a] = some [.int .i64 a'] ∧ P (i + 1) a')
    (h2 : ∀ i a, F.testBit i = false → P i a → P (i + 1) a) (a : Int) (hP : P 0 a) :
    ∃ a' : Int, CC KE_star_1 [.list T_uint64 (offV m F), .int .i64 a] = some [.int .i64 a'] ∧ P (64 * m) a' := by
  suffices h : ∃ a', Loop (s_expr_offsets_each_k98_2L CC (offV m F) (m : Int)) (0, a) = some ((m : Int), false, a') ∧ P (64 * m) a' by
    obtain ⟨a', hl, hP'⟩ := h
    refine ⟨a', f_expr_offsets_each_k98_of ?_, hP'⟩
    unfold f_expr_offsets_each_k98
    rw [offV_len]
    exact (congrArg (fun o => Option.bind o _) hl).trans rfl
  refine each_loop (S := F) (m := m) hm (outer := s_expr_offsets_each_k98_2L CC (offV m F) (m : Int)) (inner := fun k => s_expr_offsets_each_k98_1L CC (k : Int) (offV m F) (m : Int) (k : Int)) (P := P) ?_ ?_ ?_ h2 ?_ a hP
  · intro k a a' hk hl
    replace hl : Loop (s_expr_offsets_each_k98_1L CC (k : Int) (offV m F) (m : Int) (k : Int)) _ = _ := hl
    simp only [s_expr_offsets_each_k98_2L, s_expr_offsets_each_k98_2, un]
    rw [bif_decide, if_pos (by omega), idx_nat, offV_get hk]
    simp only [Option.bind_some, V.toInt_int]
    rw [hl]
    simp only [Option.bind_some]
    rw [wrap64 (by omega) (by omega)]
    rfl
  · intro a
    simp only [s_expr_offsets_each_k98_2L, s_expr_offsets_each_k98_2, un]
    rw [bif_decide, if_neg (by omega), decide_eq_false (by omega)]
  · intro k j q a hk hj hq hb hp
    obtain ⟨a', hc, hp'⟩ := hv (64 * k + j) a (by omega) hb hp
    refine ⟨a', ?_, hp'⟩
    show s_expr_offsets_each_k98_1L CC (k : Int) (offV m F) (m : Int) (k : Int) _ = _
    simp only [s_expr_offsets_each_k98_1L, s_expr_offsets_each_k98_1, un]
    rw [bif_bne, if_neg part_ne, Trailing_spec hq]
    simp only [Option.bind_some, V.nth_zero, V.toInt_int]
    rw [ix_eq (by omega) hj]
    refine (congrArg (fun o => Option.bind o _) hc).trans ?_
    simp only [Option.bind_some, List.drop_succ_cons, List.drop_zero, V.nth_zero, V.toInt_int, V.toStr_str, V.toBool_bool, V.toList_list]
    rw [part_next hq]
  · intro k a
    show s_expr_offsets_each_k98_1L CC (k : Int) (offV m F) (m : Int) (k : Int) _ = _
    simp only [s_expr_offsets_each_k98_1L, s_expr_offsets_each_k98_1, un]
    rw [bif_bne, if_pos rfl]
    rfl
end Go.AM
set_option maxRecDepth 100000
namespace Go.AM
open Go.Proofs
noncomputable abbrev B_expr_matcher_ends_1 : Code := bodyOf Tryd.prog (ann.fid 34)
noncomputable def s_expr_matcher_ends_1_1 (C : CallF) (i : Int) (t10 : Bool) (t1s : List UInt8) (t3s_0 t3s_1 : Int) (t3s_2 b3_ : List V) {β : Type} (kr : (List V) → Option β) : Option β :=
  bif t10 then
   bif (decide (0 ≤ i)) && (decide (i < (b3_.length : Int))) then
    (b3_[(i : Int).toNat]?).bind fun x3 =>
    (C K_expr_offsets_add_k99 [natV ((i : Int).toNat), .int .i64 i, .list T_expr_offsets b3_]).bind fun r4 =>
    kr ((V.nth r4 0).toList)
   else none
  else
   bif (t3s_0 : Int) == 3 then
    bif decide ((i : Int) < (t1s.length : Int)) then
     (bif decide (0 ≤ i) then (t1s[(i : Int).toNat]?).map fun b => V.int .u8 b.toNat else none).bind fun x5 =>
     bif ((IntKind.wrap .i64 (IntKind.wrap .u8 (x5.toInt - 97))) : Int) == t3s_1 then
      bif (decide (0 ≤ i)) && (decide (i < (b3_.length : Int))) then
       (b3_[(i : Int).toNat]?).bind fun x6 =>
       (C K_expr_offsets_add_k99 [natV ((i : Int).toNat), .int .i64 (IntKind.wrap .i64 (i + 1)), .list T_expr_offsets b3_]).bind fun r7 =>
       kr ((V.nth r7 0).toList)
      else none
     else
      kr b3_
    else
     kr b3_
   else
    kr b3_
noncomputable def LT_expr_matcher_ends_1 (C : CallF) : LTab := fun β n ds k =>
  bif Nat.beq n 175 then condS S34_175 [[3, 4, 5, 6, 0]] (@s_expr_matcher_ends_1_1 C) ds k else
  none
abbrev TS_expr_matcher_ends_1 (C : CallF) (b : Bar) : Prop := Tells Tryd.prog ann C (LT_expr_matcher_ends_1 C) 34 (ntmpsOf Tryd.prog (ann.fid 34)) (ann.sin 34).blks.length b
theorem t_expr_matcher_ends_1_1 (C : CallF) : TS_expr_matcher_ends_1 C (.cond 10 (codeAt [1, 0, 1, 0] B_expr_matcher_ends_1) (codeAt [1, 0, 1, 1] B_expr_matcher_ends_1)) :=
  tc3 S34_175 [[3, 4, 5, 6, 0]] (@s_expr_matcher_ends_1_1 C) (by kernel_rfl) (ltok_of (bs := []) (by kernel_rfl) tells_nil) (ltok_of (bs := []) (by kernel_rfl) tells_nil) (fun ds => by kernel_rfl) (fun i β k => by kernel_rfl) (fun β ds k => by kernel_rfl)
noncomputable def f_expr_matcher_ends_1 (C : CallF) (i : Int) (t1s : List UInt8) (t3s_0 t3s_1 : Int) (t3s_2 b3_ : List V) : Option (List V) :=
  (C F_expr_matcher_none [.str t1s]).bind fun r1 =>
  bif (decide (0 ≤ i)) && (decide (i < (b3_.length : Int))) then
   (b3_[(i : Int).toNat]?).bind fun x2 =>
   s_expr_matcher_ends_1_1 C i ((t3s_0 : Int) == 2) t1s t3s_0 t3s_1 t3s_2 (b3_.set ((i : Int).toNat) (.list T_uint64 ((V.nth r1 0).toList))) (fun (b_8 : List V) =>
     some [.str t1s, .int .i64 t3s_0, .int .i64 t3s_1, .list T_api_Expr t3s_2, .list T_expr_offsets b_8])
  else none
theorem f_expr_matcher_ends_1_of {i : Int} {t1s : List UInt8} {t3s_0 t3s_1 : Int} {t3s_2 b3_ : List V} {r : Option (List V)} (h : f_expr_matcher_ends_1 CC i t1s t3s_0 t3s_1 t3s_2 b3_ = r) : CC F_expr_matcher_ends_1 [.int .i64 i, .str t1s, .int .i64 t3s_0, .int .i64 t3s_1, .list T_api_Expr t3s_2, .list T_expr_offsets b3_] = r :=
  func_of (key := 34) (L := LT_expr_matcher_ends_1 CC) (bs := [.cond 10 (codeAt [1, 0, 1, 0] B_expr_matcher_ends_1) (codeAt [1, 0, 1, 1] B_expr_matcher_ends_1)]) (by kernel_rfl) (tells_cons (t_expr_matcher_ends_1_1 CC) tells_nil) (Eq.trans (by kernel_rfl) h)
end Go.AM
set_option maxRecDepth 100000
namespace Go.AM
open Go.Proofs
noncomputable def f_expr_matcher_star_1 (C : CallF) (i t1s : Int) : Option (List V) :=
  some [.int .i64 (if i < t1s then i else t1s)]
theorem f_expr_matcher_star_1_of {i t1s : Int} {r : Option (List V)} (h : f_expr_matcher_star_1 CC i t1s = r) : CC F_expr_matcher_star_1 [.int .i64 i, .int .i64 t1s] = r :=
  func_of (key := 49) (L := LT0) (bs := []) (by kernel_rfl) tells_nil (Eq.trans (by kernel_rfl) h)
end Go.AM
set_option maxRecDepth 100000
namespace Go.AM
open Go.Proofs
noncomputable def f_expr_matcher_star_2 (C : CallF) (j : Int) (b2_ b3_ : List V) : Option (List V) :=
  (C F_expr_offsets_has [.list T_uint64 b2_, .int .i64 j]).bind fun r1 =>
  bif !((V.nth r1 0).toBool) then
   bif (decide (0 ≤ j)) && (decide (j < (b3_.length : Int))) then
    (b3_[(j : Int).toNat]?).bind fun x2 =>
    (rowV Tryd.prog T_expr_offsets b3_ [((j : Int).toNat, 0)]).bind fun x3 =>
    (C F_expr_offsets_unite [.list T_uint64 x3.toList, .int .i64 j, .list T_uint64 b2_]).bind fun r4 =>
    some [.list T_expr_offsets b3_, .list T_uint64 ((V.nth r4 0).toList)]
   else none
  else
   some [.list T_expr_offsets b3_, .list T_uint64 b2_]
theorem f_expr_matcher_star_2_of {j : Int} {b2_ b3_ : List V} {r : Option (List V)} (h : f_expr_matcher_star_2 CC j b2_ b3_ = r) : CC F_expr_matcher_star_2 [.int .i64 j, .list T_uint64 b2_, .list T_expr_offsets b3_] = r :=
  func_of (key := 50) (L := LT0) (bs := []) (by kernel_rfl) tells_nil (Eq.trans (by kernel_rfl) h)
end Go.AM
