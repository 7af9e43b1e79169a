/-
  Functions of the program, lifted to plain data.
-/
import Derived.Test.YtjdpkmoloccebaaDoorProg
import Derived.Tactics
import Derived.Tactics2
import Derived.StillTactics
import Derived.Laws.Pointers
import Derived.Lib.LazyBuf
import Derived.RegionTactic
import Derived.LoopTactic
import Derived.WalkKit
import Derived.Test.YtjdpkmoloccebaaDoorRows
import Derived.Lib.LaidTab
import Derived.LaidHandle
import Derived.MakeChecks
import Derived.Lay
import Derived.Sort.AssemblyPlain
import Derived.Test.YtjdpkmoloccebaaDoorP3
set_option linter.unusedVariables false
set_option linter.unusedSimpArgs false
set_option maxRecDepth 100000
namespace Go.AM
open Go.Proofs
abbrev F_semigrouplaw06_NfaValidates : FuncId := 3
abbrev F_semigrouplaw06_NfaPositions : FuncId := 4
abbrev F_semigrouplaw06_NfaBounds : FuncId := 5
abbrev F_semigrouplaw06_NfaSteps : FuncId := 6
abbrev F_semigrouplaw06_NfaAccepts : FuncId := 7
abbrev F_semigrouplaw06_NfaReverses : FuncId := 8
abbrev F_semigrouplaw06_NfaReaches : FuncId := 9
abbrev F_semigrouplaw06_NfaSums : FuncId := 10
abbrev F_nfa_Validate : FuncId := 11
abbrev F_semigroupref06_Validate : FuncId := 12
abbrev F_semigrouplaw06_awake : FuncId := 13
abbrev F_nfa_Position : FuncId := 14
abbrev F_semigroupref06_Position : FuncId := 15
abbrev F_semigroupref06_Same : FuncId := 16
abbrev F_semigroupref04_Letters : FuncId := 17
abbrev F_nfa_Step : FuncId := 18
abbrev F_semigrouplaw06_valid : FuncId := 19
abbrev F_semigroupref06_Step : FuncId := 20
abbrev F_semigroupref02_Below : FuncId := 21
abbrev F_nfa_Accepts : FuncId := 22
abbrev F_nfa_Runs : FuncId := 23
abbrev F_semigroupref06_Accepts : FuncId := 24
abbrev F_semigroupref06_Runs : FuncId := 25
abbrev F_nfa_Reverse : FuncId := 26
abbrev F_semigroupref06_Reverse : FuncId := 27
abbrev F_semigroupref01_Reverse : FuncId := 28
abbrev F_nfa_Reachable : FuncId := 29
abbrev F_nfa_Coreachable : FuncId := 30
abbrev F_semigroupref06_Reachable : FuncId := 31
abbrev F_semigroupref06_Coreachable : FuncId := 32
abbrev F_nfa_Sum : FuncId := 33
abbrev F_semigroupref06_Sum : FuncId := 34
abbrev F_nfa_states : FuncId := 35
abbrev F_nfa_compareEdges : FuncId := 36
abbrev F_semigroupref01_MayLetters : FuncId := 37
abbrev F_semigroupref06_before : FuncId := 38
abbrev F_semigrouplaw06_ab : FuncId := 39
abbrev F_nfa_plain : FuncId := 40
abbrev F_nfa_letterNodes : FuncId := 41
abbrev F_nfa_positions_visit : FuncId := 42
abbrev F_relation_Members : FuncId := 43
abbrev F_slices_SortFunc___api_Edge_api_Edge_ : FuncId := 44
abbrev F_semigroupref06_plain : FuncId := 45
abbrev F_semigroupref06_positions_walk : FuncId := 46
abbrev F_semigroupref06_positions_link : FuncId := 47
abbrev F_semigroupref06_Sorted : FuncId := 48
abbrev F_semigroupref02_Has : FuncId := 49
abbrev F_semigroupref02_Bit : FuncId := 50
abbrev F_word_Valid : FuncId := 51
abbrev F_nfa_successors : FuncId := 52
abbrev F_relation_Image : FuncId := 53
abbrev F_semigroupref01_Valid : FuncId := 54
abbrev F_relation_Closure : FuncId := 55
abbrev F_cmp_Or_int_ : FuncId := 57
abbrev F_cmp_Compare_int_ : FuncId := 58
abbrev F_expr_Validate : FuncId := 59
abbrev F_nfa_hasBoolean : FuncId := 60
abbrev F_nfa_positions_join : FuncId := 61
abbrev F_bits_TrailingZeros64 : FuncId := 62
abbrev F_slices_pdqsortCmpFunc_api_Edge_ : FuncId := 63
abbrev F_bits_Len : FuncId := 64
abbrev F_semigroupref04_Validate : FuncId := 65
abbrev F_semigroupref04_Uses : FuncId := 66
abbrev F_semigroupref02_Members : FuncId := 67
abbrev F_relation_Valid : FuncId := 68
abbrev F_relation_points : FuncId := 69
abbrev F_cmp_isNaN_int_ : FuncId := 70
abbrev F_expr_withinLimits : FuncId := 71
abbrev F_expr_wellFormed : FuncId := 72
abbrev F_slices_ContainsFunc___api_Expr_api_Expr_ : FuncId := 73
abbrev F_slices_insertionSortCmpFunc_api_Edge_ : FuncId := 74
abbrev F_slices_heapSortCmpFunc_api_Edge_ : FuncId := 75
abbrev F_slices_breakPatternsCmpFunc_api_Edge_ : FuncId := 76
abbrev F_slices_choosePivotCmpFunc_api_Edge_ : FuncId := 77
abbrev F_slices_reverseRangeCmpFunc_api_Edge_ : FuncId := 78
abbrev F_slices_partialInsertionSortCmpFunc_api_Edge_ : FuncId := 79
abbrev F_slices_partitionEqualCmpFunc_api_Edge_ : FuncId := 80
abbrev F_slices_partitionCmpFunc_api_Edge_ : FuncId := 81
abbrev F_bits_Len64 : FuncId := 83
abbrev F_semigroupref04_Within : FuncId := 84
abbrev F_semigroupref04_shaped : FuncId := 85
abbrev F_expr_fits : FuncId := 86
abbrev F_slices_IndexFunc___api_Expr_api_Expr_ : FuncId := 87
abbrev F_slices_siftDownCmpFunc_api_Edge_ : FuncId := 88
abbrev F_slices_nextPowerOfTwo : FuncId := 89
abbrev F_slices_xorshift_Next : FuncId := 90
abbrev F_slices_medianAdjacentCmpFunc_api_Edge_ : FuncId := 91
abbrev F_slices_medianCmpFunc_api_Edge_ : FuncId := 92
abbrev F_semigroupref04_measure : FuncId := 93
abbrev F_slices_order2CmpFunc_api_Edge_ : FuncId := 94
abbrev T_int : TypeId := 3
abbrev T_uint8 : TypeId := 5
abbrev T_uint64 : TypeId := 22
abbrev T_l_api_Expr : TypeId := 30
abbrev T_api_Expr : TypeId := 32
abbrev T_api_Edge : TypeId := 38
abbrev T_l_uint64 : TypeId := 57
def tab_0 : List V := [.int .u8 0, .int .u8 1, .int .u8 56, .int .u8 2, .int .u8 57, .int .u8 49, .int .u8 28, .int .u8 3, .int .u8 61, .int .u8 58, .int .u8 42, .int .u8 50, .int .u8 38, .int .u8 29, .int .u8 17, .int .u8 4, .int .u8 62, .int .u8 47, .int .u8 59, .int .u8 36, .int .u8 45, .int .u8 43, .int .u8 51, .int .u8 22, .int .u8 53, .int .u8 39, .int .u8 33, .int .u8 30, .int .u8 24, .int .u8 18, .int .u8 12, .int .u8 5, .int .u8 63, .int .u8 55, .int .u8 48, .int .u8 27, .int .u8 60, .int .u8 41, .int .u8 37, .int .u8 16, .int .u8 46, .int .u8 35, .int .u8 44, .int .u8 21, .int .u8 52, .int .u8 32, .int .u8 23, .int .u8 11, .int .u8 54, .int .u8 26, .int .u8 40, .int .u8 15, .int .u8 34, .int .u8 20, .int .u8 31, .int .u8 10, .int .u8 25, .int .u8 14, .int .u8 19, .int .u8 9, .int .u8 13, .int .u8 8, .int .u8 7, .int .u8 6]
def S5_81 : Shape × List (Out × Shape) := (⟨[(2, .one (.ptrC 0 0 0)), (5, .one (.ptrC 1 0 0)), (19, .one (.whole T_api_Edge 2)), (20, .one (.int .i64)), (21, .one (.int .i64))], [.var 32 [.one (.int .i64), .one (.int .i64), .one (.list T_api_Expr)], .var 25 [.one (.int .i64), .one (.int .i64), .one (.int .u64), .one (.int .u64), .one (.whole T_api_Edge 2)], .arr T_api_Edge false]⟩, [(.ret, ⟨[(4, .one (.bool))], []⟩), (.exit 0, ⟨[(2, .one (.ptrC 0 0 0)), (5, .one (.ptrC 1 0 0)), (19, .one (.whole T_api_Edge 2)), (20, .one (.int .i64)), (21, .one (.int .i64)), (22, .one (.bool))], [.var 32 [.one (.int .i64), .one (.int .i64), .one (.list T_api_Expr)], .var 25 [.one (.int .i64), .one (.int .i64), .one (.int .u64), .one (.int .u64), .one (.whole T_api_Edge 2)], .arr T_api_Edge false]⟩)])
def S8_319 : Shape × List (Out × Shape) := (⟨[(1, .one (.str)), (2, .one (.ptrC 0 0 0)), (5, .one (.ptrC 1 0 0)), (19, .one (.bool))], [.var 25 [.one (.int .i64), .one (.int .i64), .one (.int .u64), .one (.int .u64), .one (.list T_api_Edge)], .var 25 [.one (.int .i64), .one (.int .i64), .one (.int .u64), .one (.int .u64), .one (.whole T_api_Edge 2)], .arr T_api_Edge false]⟩, [(.norm, ⟨[(1, .one (.str)), (2, .one (.ptrC 0 0 0)), (5, .one (.ptrC 1 0 0))], [.var 25 [.one (.int .i64), .one (.int .i64), .one (.int .u64), .one (.int .u64), .one (.list T_api_Edge)], .var 25 [.one (.int .i64), .one (.int .i64), .one (.int .u64), .one (.int .u64), .one (.whole T_api_Edge 2)], .arr T_api_Edge false]⟩)])
def S10_607 : Shape × List (Out × Shape) := (⟨[(2, .one (.str)), (3, .one (.ptrC 0 0 0)), (4, .one (.ptrC 1 0 0)), (7, .one (.ptrC 2 0 0)), (37, .one (.bool))], [.var 25 [.one (.int .i64), .one (.int .i64), .one (.int .u64), .one (.int .u64), .one (.list T_api_Edge)], .var 25 [.one (.int .i64), .one (.int .i64), .one (.int .u64), .one (.int .u64), .one (.list T_api_Edge)], .var 25 [.one (.int .i64), .one (.int .i64), .one (.int .u64), .one (.int .u64), .one (.whole T_api_Edge 3)], .arr T_api_Edge false]⟩, [(.norm, ⟨[(2, .one (.str)), (3, .one (.ptrC 0 0 0)), (4, .one (.ptrC 1 0 0)), (7, .one (.ptrC 2 0 0))], [.var 25 [.one (.int .i64), .one (.int .i64), .one (.int .u64), .one (.int .u64), .one (.list T_api_Edge)], .var 25 [.one (.int .i64), .one (.int .i64), .one (.int .u64), .one (.int .u64), .one (.list T_api_Edge)], .var 25 [.one (.int .i64), .one (.int .i64), .one (.int .u64), .one (.int .u64), .one (.whole T_api_Edge 3)], .arr T_api_Edge false]⟩)])
def S11_97 : Shape × List (Out × Shape) := (⟨[(1, .one (.ptrC 0 0 0)), (34, .one (.list T_api_Edge)), (35, .one (.int .i64)), (36, .one (.int .i64))], [.var 25 [.one (.int .i64), .one (.int .i64), .one (.int .u64), .one (.int .u64), .one (.list T_api_Edge)]]⟩, [(.ret, ⟨[(2, .one (.int .i64))], []⟩), (.exit 0, ⟨[(1, .one (.ptrC 0 0 0)), (34, .one (.list T_api_Edge)), (35, .one (.int .i64)), (36, .one (.int .i64)), (37, .one (.bool))], [.var 25 [.one (.int .i64), .one (.int .i64), .one (.int .u64), .one (.int .u64), .one (.list T_api_Edge)]]⟩)])
def S12_113 : Shape × List (Out × Shape) := (⟨[(1, .one (.ptrC 0 0 0)), (38, .one (.list T_api_Edge)), (39, .one (.int .i64)), (40, .one (.int .i64))], [.var 25 [.one (.int .i64), .one (.int .i64), .one (.int .u64), .one (.int .u64), .one (.list T_api_Edge)]]⟩, [(.ret, ⟨[(2, .one (.int .i64))], []⟩), (.exit 0, ⟨[(1, .one (.ptrC 0 0 0)), (38, .one (.list T_api_Edge)), (39, .one (.int .i64)), (40, .one (.int .i64)), (41, .one (.bool))], [.var 25 [.one (.int .i64), .one (.int .i64), .one (.int .u64), .one (.int .u64), .one (.list T_api_Edge)]]⟩)])
def S14_783 : Shape × List (Out × Shape) := (⟨[(4, .one (.ptrC 0 0 0)), (7, .one (.whole T_int 1)), (8, .one (.ptrC 2 0 0)), (10, .one (.ptrC 3 0 0)), (48, .one (.bool))], [.var 25 [.one (.int .i64), .one (.int .i64), .one (.int .u64), .one (.int .u64), .one (.whole T_api_Edge 4)], .arr T_int false, .var 59 [.one (.int .i64), .one (.whole T_uint64 5)], .var 25 [.one (.int .i64), .one (.int .i64), .one (.int .u64), .one (.int .u64), .one (.whole T_api_Edge 6)], .arr T_api_Edge false, .arr T_uint64 false, .arr T_api_Edge false]⟩, [(.norm, ⟨[(4, .one (.ptrC 0 0 0)), (7, .one (.whole T_int 1)), (8, .one (.ptrC 2 0 0)), (10, .one (.ptrC 3 0 0))], [.var 25 [.one (.int .i64), .one (.int .i64), .one (.int .u64), .one (.int .u64), .one (.whole T_api_Edge 4)], .arr T_int false, .var 59 [.one (.int .i64), .one (.whole T_uint64 5)], .var 25 [.one (.int .i64), .one (.int .i64), .one (.int .u64), .one (.int .u64), .one (.whole T_api_Edge 6)], .arr T_api_Edge false, .arr T_uint64 false, .arr T_api_Edge false]⟩)])
def S14_273 : Shape × List (Out × Shape) := (⟨[(4, .one (.ptrC 0 0 0)), (7, .one (.whole T_int 1)), (10, .one (.ptrC 2 0 0)), (11, .one (.int .i64)), (54, .one (.whole T_uint64 3)), (55, .one (.int .i64)), (56, .one (.int .i64)), (62, .one (.whole T_int 4)), (63, .one (.int .i64)), (64, .one (.int .i64))], [.var 25 [.one (.int .i64), .one (.int .i64), .one (.int .u64), .one (.int .u64), .one (.whole T_api_Edge 5)], .arr T_int false, .var 25 [.one (.int .i64), .one (.int .i64), .one (.int .u64), .one (.int .u64), .one (.whole T_api_Edge 6)], .arr T_uint64 false, .arr T_int false, .arr T_api_Edge false, .arr T_api_Edge false]⟩, [(.exit 2, ⟨[(4, .one (.ptrC 0 0 0)), (7, .one (.whole T_int 1)), (10, .one (.ptrC 2 0 0)), (11, .one (.int .i64)), (54, .one (.whole T_uint64 3)), (55, .one (.int .i64)), (56, .one (.int .i64)), (62, .one (.whole T_int 4)), (63, .one (.int .i64)), (64, .one (.int .i64)), (65, .one (.bool))], [.var 25 [.one (.int .i64), .one (.int .i64), .one (.int .u64), .one (.int .u64), .one (.whole T_api_Edge 5)], .arr T_int false, .var 25 [.one (.int .i64), .one (.int .i64), .one (.int .u64), .one (.int .u64), .one (.whole T_api_Edge 6)], .arr T_uint64 false, .arr T_int false, .arr T_api_Edge false, .arr T_api_Edge false]⟩)])
def S14_225 : Shape × List (Out × Shape) := (⟨[(4, .one (.ptrC 0 0 0)), (7, .one (.whole T_int 1)), (10, .one (.ptrC 2 0 0)), (54, .one (.whole T_uint64 3)), (55, .one (.int .i64)), (56, .one (.int .i64))], [.var 25 [.one (.int .i64), .one (.int .i64), .one (.int .u64), .one (.int .u64), .one (.whole T_api_Edge 4)], .arr T_int false, .var 25 [.one (.int .i64), .one (.int .i64), .one (.int .u64), .one (.int .u64), .one (.whole T_api_Edge 5)], .arr T_uint64 false, .arr T_api_Edge false, .arr T_api_Edge false]⟩, [(.exit 0, ⟨[(4, .one (.ptrC 0 0 0)), (7, .one (.whole T_int 1)), (10, .one (.ptrC 2 0 0)), (54, .one (.whole T_uint64 3)), (55, .one (.int .i64)), (56, .one (.int .i64)), (57, .one (.bool))], [.var 25 [.one (.int .i64), .one (.int .i64), .one (.int .u64), .one (.int .u64), .one (.whole T_api_Edge 4)], .arr T_int false, .var 25 [.one (.int .i64), .one (.int .i64), .one (.int .u64), .one (.int .u64), .one (.whole T_api_Edge 5)], .arr T_uint64 false, .arr T_api_Edge false, .arr T_api_Edge false]⟩)])
def S16_65 : Shape × List (Out × Shape) := (⟨[(2, .one (.ptrC 0 0 0)), (3, .one (.ptrC 1 0 0)), (43, .one (.int .i64)), (44, .one (.int .i64))], [.var 25 [.one (.int .i64), .one (.int .i64), .one (.int .u64), .one (.int .u64), .one (.list T_api_Edge)], .var 25 [.one (.int .i64), .one (.int .i64), .one (.int .u64), .one (.int .u64), .one (.list T_api_Edge)]]⟩, [(.ret, ⟨[(4, .one (.bool))], []⟩), (.exit 0, ⟨[(2, .one (.ptrC 0 0 0)), (3, .one (.ptrC 1 0 0)), (43, .one (.int .i64)), (44, .one (.int .i64)), (45, .one (.bool))], [.var 25 [.one (.int .i64), .one (.int .i64), .one (.int .u64), .one (.int .u64), .one (.list T_api_Edge)], .var 25 [.one (.int .i64), .one (.int .i64), .one (.int .u64), .one (.int .u64), .one (.list T_api_Edge)]]⟩)])
def S17_143 : Shape × List (Out × Shape) := (⟨[(1, .one (.ptrC 0 0 0)), (3, .one (.int .i64)), (8, .one (.bool))], [.var 32 [.one (.int .i64), .one (.int .i64), .one (.list T_api_Expr)]]⟩, [(.norm, ⟨[(1, .one (.ptrC 0 0 0)), (3, .one (.int .i64))], [.var 32 [.one (.int .i64), .one (.int .i64), .one (.list T_api_Expr)]]⟩)])
def S17_81 : Shape × List (Out × Shape) := (⟨[(3, .one (.int .i64)), (10, .one (.list T_api_Expr)), (11, .one (.int .i64)), (12, .one (.int .i64))], []⟩, [(.exit 0, ⟨[(3, .one (.int .i64)), (10, .one (.list T_api_Expr)), (11, .one (.int .i64)), (12, .one (.int .i64)), (13, .one (.bool))], []⟩)])
def S18_81 : Shape × List (Out × Shape) := (⟨[(1, .one (.int .u64)), (2, .one (.int .i64)), (7, .one (.int .u64)), (24, .one (.list T_api_Edge)), (25, .one (.int .i64)), (26, .one (.int .i64))], []⟩, [(.exit 0, ⟨[(1, .one (.int .u64)), (2, .one (.int .i64)), (7, .one (.int .u64)), (24, .one (.list T_api_Edge)), (25, .one (.int .i64)), (26, .one (.int .i64)), (27, .one (.bool))], []⟩)])
def S20_49 : Shape × List (Out × Shape) := (⟨[(1, .one (.int .u64)), (2, .one (.int .i64)), (7, .one (.int .u64)), (11, .one (.list T_api_Edge)), (12, .one (.int .i64)), (13, .one (.int .i64))], []⟩, [(.exit 0, ⟨[(1, .one (.int .u64)), (2, .one (.int .i64)), (7, .one (.int .u64)), (11, .one (.list T_api_Edge)), (12, .one (.int .i64)), (13, .one (.int .i64)), (14, .one (.bool))], []⟩)])
def S22_81 : Shape × List (Out × Shape) := (⟨[(1, .one (.str)), (2, .one (.ptrC 0 0 0)), (5, .one (.list T_l_uint64)), (6, .one (.int .u64)), (23, .one (.int .i64)), (24, .one (.int .i64))], [.var 25 [.one (.int .i64), .one (.int .i64), .one (.int .u64), .one (.int .u64), .one (.list T_api_Edge)]]⟩, [(.exit 0, ⟨[(1, .one (.str)), (2, .one (.ptrC 0 0 0)), (5, .one (.list T_l_uint64)), (6, .one (.int .u64)), (23, .one (.int .i64)), (24, .one (.int .i64)), (25, .one (.bool))], [.var 25 [.one (.int .i64), .one (.int .i64), .one (.int .u64), .one (.int .u64), .one (.list T_api_Edge)]]⟩)])
def S23_81 : Shape × List (Out × Shape) := (⟨[(1, .one (.str)), (2, .one (.ptrC 0 0 0)), (5, .one (.whole T_int 1)), (30, .one (.whole T_int 2)), (31, .one (.int .i64)), (32, .one (.int .i64))], [.var 25 [.one (.int .i64), .one (.int .i64), .one (.int .u64), .one (.int .u64), .one (.list T_api_Edge)], .arr T_int false, .arr T_int false]⟩, [(.exit 0, ⟨[(1, .one (.str)), (2, .one (.ptrC 0 0 0)), (5, .one (.whole T_int 1)), (30, .one (.whole T_int 2)), (31, .one (.int .i64)), (32, .one (.int .i64)), (33, .one (.bool))], [.var 25 [.one (.int .i64), .one (.int .i64), .one (.int .u64), .one (.int .u64), .one (.list T_api_Edge)], .arr T_int false, .arr T_int false]⟩)])
def S23_225 : Shape × List (Out × Shape) := (⟨[(1, .one (.str)), (2, .one (.ptrC 0 0 0)), (5, .one (.whole T_int 1)), (8, .one (.int .i64)), (9, .one (.whole T_int 2)), (41, .one (.int .i64)), (42, .one (.int .i64)), (49, .one (.list T_api_Edge)), (50, .one (.int .i64)), (51, .one (.int .i64))], [.var 25 [.one (.int .i64), .one (.int .i64), .one (.int .u64), .one (.int .u64), .one (.list T_api_Edge)], .arr T_int false, .arr T_int false]⟩, [(.exit 4, ⟨[(1, .one (.str)), (2, .one (.ptrC 0 0 0)), (5, .one (.whole T_int 1)), (8, .one (.int .i64)), (9, .one (.whole T_int 2)), (41, .one (.int .i64)), (42, .one (.int .i64)), (49, .one (.list T_api_Edge)), (50, .one (.int .i64)), (51, .one (.int .i64)), (52, .one (.bool))], [.var 25 [.one (.int .i64), .one (.int .i64), .one (.int .u64), .one (.int .u64), .one (.list T_api_Edge)], .arr T_int false, .arr T_int false]⟩)])
def S23_161 : Shape × List (Out × Shape) := (⟨[(1, .one (.str)), (2, .one (.ptrC 0 0 0)), (5, .one (.whole T_int 1)), (41, .one (.int .i64)), (42, .one (.int .i64))], [.var 25 [.one (.int .i64), .one (.int .i64), .one (.int .u64), .one (.int .u64), .one (.list T_api_Edge)], .arr T_int false]⟩, [(.exit 2, ⟨[(1, .one (.str)), (2, .one (.ptrC 0 0 0)), (5, .one (.whole T_int 1)), (41, .one (.int .i64)), (42, .one (.int .i64)), (43, .one (.bool))], [.var 25 [.one (.int .i64), .one (.int .i64), .one (.int .u64), .one (.int .u64), .one (.list T_api_Edge)], .arr T_int false]⟩)])
def S23_369 : Shape × List (Out × Shape) := (⟨[(5, .one (.whole T_int 0)), (12, .one (.int .i64)), (84, .one (.whole T_int 1)), (85, .one (.int .i64)), (86, .one (.int .i64))], [.arr T_int false, .arr T_int false]⟩, [(.exit 6, ⟨[(5, .one (.whole T_int 0)), (12, .one (.int .i64)), (84, .one (.whole T_int 1)), (85, .one (.int .i64)), (86, .one (.int .i64)), (87, .one (.bool))], [.arr T_int false, .arr T_int false]⟩)])
def S24_81 : Shape × List (Out × Shape) := (⟨[(1, .one (.str)), (2, .one (.ptrC 0 0 0)), (5, .one (.int .u64)), (6, .one (.int .i64))], [.var 25 [.one (.int .i64), .one (.int .i64), .one (.int .u64), .one (.int .u64), .one (.list T_api_Edge)]]⟩, [(.exit 0, ⟨[(1, .one (.str)), (2, .one (.ptrC 0 0 0)), (5, .one (.int .u64)), (6, .one (.int .i64)), (17, .one (.bool))], [.var 25 [.one (.int .i64), .one (.int .i64), .one (.int .u64), .one (.int .u64), .one (.list T_api_Edge)]]⟩)])
def S25_81 : Shape × List (Out × Shape) := (⟨[(1, .one (.str)), (2, .one (.ptrC 0 0 0)), (5, .one (.whole T_int 1)), (22, .one (.int .i64)), (23, .one (.int .i64))], [.var 25 [.one (.int .i64), .one (.int .i64), .one (.int .u64), .one (.int .u64), .one (.list T_api_Edge)], .arr T_int false]⟩, [(.exit 0, ⟨[(1, .one (.str)), (2, .one (.ptrC 0 0 0)), (5, .one (.whole T_int 1)), (22, .one (.int .i64)), (23, .one (.int .i64)), (24, .one (.bool))], [.var 25 [.one (.int .i64), .one (.int .i64), .one (.int .u64), .one (.int .u64), .one (.list T_api_Edge)], .arr T_int false]⟩)])
def S25_241 : Shape × List (Out × Shape) := (⟨[(1, .one (.str)), (2, .one (.ptrC 0 0 0)), (5, .one (.whole T_int 1)), (7, .one (.int .i64)), (8, .one (.whole T_int 2)), (44, .one (.list T_api_Edge)), (45, .one (.int .i64)), (46, .one (.int .i64))], [.var 25 [.one (.int .i64), .one (.int .i64), .one (.int .u64), .one (.int .u64), .one (.list T_api_Edge)], .arr T_int false, .arr T_int false]⟩, [(.exit 4, ⟨[(1, .one (.str)), (2, .one (.ptrC 0 0 0)), (5, .one (.whole T_int 1)), (7, .one (.int .i64)), (8, .one (.whole T_int 2)), (44, .one (.list T_api_Edge)), (45, .one (.int .i64)), (46, .one (.int .i64)), (47, .one (.bool))], [.var 25 [.one (.int .i64), .one (.int .i64), .one (.int .u64), .one (.int .u64), .one (.list T_api_Edge)], .arr T_int false, .arr T_int false]⟩)])
def S25_177 : Shape × List (Out × Shape) := (⟨[(1, .one (.str)), (2, .one (.ptrC 0 0 0)), (5, .one (.whole T_int 1)), (7, .one (.int .i64))], [.var 25 [.one (.int .i64), .one (.int .i64), .one (.int .u64), .one (.int .u64), .one (.list T_api_Edge)], .arr T_int false]⟩, [(.exit 2, ⟨[(1, .one (.str)), (2, .one (.ptrC 0 0 0)), (5, .one (.whole T_int 1)), (7, .one (.int .i64)), (37, .one (.bool))], [.var 25 [.one (.int .i64), .one (.int .i64), .one (.int .u64), .one (.int .u64), .one (.list T_api_Edge)], .arr T_int false]⟩)])
def S25_369 : Shape × List (Out × Shape) := (⟨[(2, .one (.ptrC 0 0 0)), (5, .one (.whole T_int 1)), (11, .one (.int .i64)), (77, .one (.int .i64)), (78, .one (.int .i64))], [.var 25 [.one (.int .i64), .one (.int .i64), .one (.int .u64), .one (.int .u64), .one (.list T_api_Edge)], .arr T_int false]⟩, [(.exit 6, ⟨[(2, .one (.ptrC 0 0 0)), (5, .one (.whole T_int 1)), (11, .one (.int .i64)), (77, .one (.int .i64)), (78, .one (.int .i64)), (79, .one (.bool))], [.var 25 [.one (.int .i64), .one (.int .i64), .one (.int .u64), .one (.int .u64), .one (.list T_api_Edge)], .arr T_int false]⟩)])
def S26_81 : Shape × List (Out × Shape) := (⟨[(2, .one (.ptrC 0 0 0)), (3, .one (.ptrC 1 0 0)), (20, .one (.list T_api_Edge)), (21, .one (.int .i64)), (22, .one (.int .i64))], [.var 25 [.one (.int .i64), .one (.int .i64), .one (.int .u64), .one (.int .u64), .one (.whole T_api_Edge 2)], .var 25 [.one (.int .i64), .one (.int .i64), .one (.int .u64), .one (.int .u64), .one (.whole T_api_Edge 3)], .arr T_api_Edge false, .arr T_api_Edge false]⟩, [(.exit 0, ⟨[(2, .one (.ptrC 0 0 0)), (3, .one (.ptrC 1 0 0)), (20, .one (.list T_api_Edge)), (21, .one (.int .i64)), (22, .one (.int .i64)), (23, .one (.bool))], [.var 25 [.one (.int .i64), .one (.int .i64), .one (.int .u64), .one (.int .u64), .one (.whole T_api_Edge 2)], .var 25 [.one (.int .i64), .one (.int .i64), .one (.int .u64), .one (.int .u64), .one (.whole T_api_Edge 3)], .arr T_api_Edge false, .arr T_api_Edge false]⟩)])
def S27_49 : Shape × List (Out × Shape) := (⟨[(1, .one (.ptrC 0 0 0)), (2, .one (.ptrC 1 0 0)), (3, .one (.whole T_api_Edge 2)), (7, .one (.list T_api_Edge)), (8, .one (.int .i64)), (9, .one (.int .i64))], [.var 25 [.one (.int .i64), .one (.int .i64), .one (.int .u64), .one (.int .u64), .one (.list T_api_Edge)], .var 25 [.one (.int .i64), .one (.int .i64), .one (.int .u64), .one (.int .u64), .one (.whole T_api_Edge 3)], .arr T_api_Edge false, .arr T_api_Edge false]⟩, [(.exit 0, ⟨[(1, .one (.ptrC 0 0 0)), (2, .one (.ptrC 1 0 0)), (3, .one (.whole T_api_Edge 2)), (7, .one (.list T_api_Edge)), (8, .one (.int .i64)), (9, .one (.int .i64)), (10, .one (.bool))], [.var 25 [.one (.int .i64), .one (.int .i64), .one (.int .u64), .one (.int .u64), .one (.list T_api_Edge)], .var 25 [.one (.int .i64), .one (.int .i64), .one (.int .u64), .one (.int .u64), .one (.whole T_api_Edge 3)], .arr T_api_Edge false, .arr T_api_Edge false]⟩)])
def S28_49 : Shape × List (Out × Shape) := (⟨[(0, .one (.str)), (3, .one (.whole T_uint8 0)), (4, .one (.int .i64))], [.arr T_uint8 false]⟩, [(.exit 0, ⟨[(0, .one (.str)), (3, .one (.whole T_uint8 0)), (4, .one (.int .i64)), (11, .one (.bool))], [.arr T_uint8 false]⟩)])
def S29_81 : Shape × List (Out × Shape) := (⟨[(1, .one (.ptrC 0 0 0)), (3, .one (.whole T_uint64 1)), (13, .one (.list T_api_Edge)), (14, .one (.int .i64)), (15, .one (.int .i64))], [.var 25 [.one (.int .i64), .one (.int .i64), .one (.int .u64), .one (.int .u64), .one (.list T_api_Edge)], .arr T_uint64 false]⟩, [(.exit 0, ⟨[(1, .one (.ptrC 0 0 0)), (3, .one (.whole T_uint64 1)), (13, .one (.list T_api_Edge)), (14, .one (.int .i64)), (15, .one (.int .i64)), (16, .one (.bool))], [.var 25 [.one (.int .i64), .one (.int .i64), .one (.int .u64), .one (.int .u64), .one (.list T_api_Edge)], .arr T_uint64 false]⟩)])
def S31_97 : Shape × List (Out × Shape) := (⟨[(1, .one (.ptrC 0 0 0)), (3, .one (.int .u64)), (4, .one (.int .i64)), (5, .one (.int .i64))], [.var 25 [.one (.int .i64), .one (.int .i64), .one (.int .u64), .one (.int .u64), .one (.list T_api_Edge)]]⟩, [(.exit 2, ⟨[(1, .one (.ptrC 0 0 0)), (3, .one (.int .u64)), (4, .one (.int .i64)), (5, .one (.int .i64)), (17, .one (.bool))], [.var 25 [.one (.int .i64), .one (.int .i64), .one (.int .u64), .one (.int .u64), .one (.list T_api_Edge)]]⟩)])
def S31_49 : Shape × List (Out × Shape) := (⟨[(1, .one (.ptrC 0 0 0)), (3, .one (.int .u64)), (4, .one (.int .i64))], [.var 25 [.one (.int .i64), .one (.int .i64), .one (.int .u64), .one (.int .u64), .one (.list T_api_Edge)]]⟩, [(.exit 0, ⟨[(1, .one (.ptrC 0 0 0)), (3, .one (.int .u64)), (4, .one (.int .i64)), (11, .one (.bool))], [.var 25 [.one (.int .i64), .one (.int .i64), .one (.int .u64), .one (.int .u64), .one (.list T_api_Edge)]]⟩)])
def S33_209 : Shape × List (Out × Shape) := (⟨[(2, .one (.ptrC 0 0 0)), (4, .one (.ptrC 1 0 0)), (8, .one (.ptrC 2 0 0)), (64, .one (.list T_api_Edge)), (65, .one (.int .i64)), (66, .one (.int .i64))], [.var 25 [.one (.int .i64), .one (.int .i64), .one (.int .u64), .one (.int .u64), .one (.list T_api_Edge)], .var 25 [.one (.int .i64), .one (.int .i64), .one (.int .u64), .one (.int .u64), .one (.whole T_api_Edge 3)], .var 25 [.one (.int .i64), .one (.int .i64), .one (.int .u64), .one (.int .u64), .one (.whole T_api_Edge 4)], .arr T_api_Edge false, .arr T_api_Edge false]⟩, [(.exit 0, ⟨[(2, .one (.ptrC 0 0 0)), (4, .one (.ptrC 1 0 0)), (8, .one (.ptrC 2 0 0)), (64, .one (.list T_api_Edge)), (65, .one (.int .i64)), (66, .one (.int .i64)), (67, .one (.bool))], [.var 25 [.one (.int .i64), .one (.int .i64), .one (.int .u64), .one (.int .u64), .one (.list T_api_Edge)], .var 25 [.one (.int .i64), .one (.int .i64), .one (.int .u64), .one (.int .u64), .one (.whole T_api_Edge 3)], .var 25 [.one (.int .i64), .one (.int .i64), .one (.int .u64), .one (.int .u64), .one (.whole T_api_Edge 4)], .arr T_api_Edge false, .arr T_api_Edge false]⟩)])
def S34_225 : Shape × List (Out × Shape) := (⟨[(2, .one (.ptrC 0 0 0)), (4, .one (.ptrC 1 0 0)), (8, .one (.ptrC 2 0 0)), (69, .one (.list T_api_Edge)), (70, .one (.int .i64)), (71, .one (.int .i64))], [.var 25 [.one (.int .i64), .one (.int .i64), .one (.int .u64), .one (.int .u64), .one (.list T_api_Edge)], .var 25 [.one (.int .i64), .one (.int .i64), .one (.int .u64), .one (.int .u64), .one (.whole T_api_Edge 3)], .var 25 [.one (.int .i64), .one (.int .i64), .one (.int .u64), .one (.int .u64), .one (.whole T_api_Edge 4)], .arr T_api_Edge false, .arr T_api_Edge false]⟩, [(.exit 0, ⟨[(2, .one (.ptrC 0 0 0)), (4, .one (.ptrC 1 0 0)), (8, .one (.ptrC 2 0 0)), (69, .one (.list T_api_Edge)), (70, .one (.int .i64)), (71, .one (.int .i64)), (72, .one (.bool))], [.var 25 [.one (.int .i64), .one (.int .i64), .one (.int .u64), .one (.int .u64), .one (.list T_api_Edge)], .var 25 [.one (.int .i64), .one (.int .i64), .one (.int .u64), .one (.int .u64), .one (.whole T_api_Edge 3)], .var 25 [.one (.int .i64), .one (.int .i64), .one (.int .u64), .one (.int .u64), .one (.whole T_api_Edge 4)], .arr T_api_Edge false, .arr T_api_Edge false]⟩)])
def S41_81 : Shape × List (Out × Shape) := (⟨[(3, .one (.whole T_int 0)), (13, .one (.list T_api_Expr)), (14, .one (.int .i64)), (15, .one (.int .i64))], [.arr T_int false]⟩, [(.exit 0, ⟨[(3, .one (.whole T_int 0)), (13, .one (.list T_api_Expr)), (14, .one (.int .i64)), (15, .one (.int .i64)), (16, .one (.bool))], [.arr T_int false]⟩)])
def S42_161 : Shape × List (Out × Shape) := (⟨[(0, .one (.ptrC 0 0 0)), (4, .one (.ptrC 2 0 0)), (5, .one (.ptrC 3 0 0)), (42, .one (.list T_api_Expr)), (43, .one (.int .i64)), (44, .one (.int .i64))], [.var 59 [.one (.int .i64), .one (.whole T_uint64 4)], .dead, .var 61 [.one (.int .u64), .one (.int .u64), .one (.bool)], .var 61 [.one (.int .u64), .one (.int .u64), .one (.bool)], .arr T_uint64 false]⟩, [(.exit 1, ⟨[(0, .one (.ptrC 0 0 0)), (4, .one (.ptrC 2 0 0)), (5, .one (.ptrC 3 0 0)), (42, .one (.list T_api_Expr)), (43, .one (.int .i64)), (44, .one (.int .i64)), (45, .one (.bool))], [.var 59 [.one (.int .i64), .one (.whole T_uint64 4)], .dead, .var 61 [.one (.int .u64), .one (.int .u64), .one (.bool)], .var 61 [.one (.int .u64), .one (.int .u64), .one (.bool)], .arr T_uint64 false]⟩)])
def S42_1455 : Shape × List (Out × Shape) := (⟨[(0, .one (.ptrC 0 0 0)), (4, .one (.ptrC 2 0 0)), (9, .one (.ptrC 3 0 0)), (12, .one (.ptrC 4 0 0)), (74, .one (.list T_api_Expr)), (75, .one (.int .i64)), (76, .one (.int .i64)), (90, .one (.bool))], [.var 59 [.one (.int .i64), .one (.whole T_uint64 5)], .dead, .var 61 [.one (.int .u64), .one (.int .u64), .one (.bool)], .var 61 [.one (.int .u64), .one (.int .u64), .one (.bool)], .var 61 [.one (.int .u64), .one (.int .u64), .one (.bool)], .arr T_uint64 false]⟩, [(.norm, ⟨[(0, .one (.ptrC 0 0 0)), (4, .one (.ptrC 2 0 0)), (9, .one (.ptrC 3 0 0)), (12, .one (.ptrC 4 0 0)), (74, .one (.list T_api_Expr)), (75, .one (.int .i64)), (76, .one (.int .i64))], [.var 59 [.one (.int .i64), .one (.whole T_uint64 5)], .dead, .var 61 [.one (.int .u64), .one (.int .u64), .one (.bool)], .var 61 [.one (.int .u64), .one (.int .u64), .one (.bool)], .var 61 [.one (.int .u64), .one (.int .u64), .one (.bool)], .arr T_uint64 false]⟩)])
def S42_1599 : Shape × List (Out × Shape) := (⟨[(0, .one (.ptrC 0 0 0)), (4, .one (.ptrC 2 0 0)), (9, .one (.ptrC 3 0 0)), (12, .one (.ptrC 4 0 0)), (74, .one (.list T_api_Expr)), (75, .one (.int .i64)), (76, .one (.int .i64)), (99, .one (.bool))], [.var 59 [.one (.int .i64), .one (.whole T_uint64 5)], .dead, .var 61 [.one (.int .u64), .one (.int .u64), .one (.bool)], .var 61 [.one (.int .u64), .one (.int .u64), .one (.bool)], .var 61 [.one (.int .u64), .one (.int .u64), .one (.bool)], .arr T_uint64 false]⟩, [(.norm, ⟨[(0, .one (.ptrC 0 0 0)), (4, .one (.ptrC 2 0 0)), (9, .one (.ptrC 3 0 0)), (12, .one (.ptrC 4 0 0)), (74, .one (.list T_api_Expr)), (75, .one (.int .i64)), (76, .one (.int .i64))], [.var 59 [.one (.int .i64), .one (.whole T_uint64 5)], .dead, .var 61 [.one (.int .u64), .one (.int .u64), .one (.bool)], .var 61 [.one (.int .u64), .one (.int .u64), .one (.bool)], .var 61 [.one (.int .u64), .one (.int .u64), .one (.bool)], .arr T_uint64 false]⟩)])
def S42_305 : Shape × List (Out × Shape) := (⟨[(0, .one (.ptrC 0 0 0)), (4, .one (.ptrC 2 0 0)), (9, .one (.ptrC 3 0 0)), (74, .one (.list T_api_Expr)), (75, .one (.int .i64)), (76, .one (.int .i64))], [.var 59 [.one (.int .i64), .one (.whole T_uint64 4)], .dead, .var 61 [.one (.int .u64), .one (.int .u64), .one (.bool)], .var 61 [.one (.int .u64), .one (.int .u64), .one (.bool)], .arr T_uint64 false]⟩, [(.exit 3, ⟨[(0, .one (.ptrC 0 0 0)), (4, .one (.ptrC 2 0 0)), (9, .one (.ptrC 3 0 0)), (74, .one (.list T_api_Expr)), (75, .one (.int .i64)), (76, .one (.int .i64)), (77, .one (.bool))], [.var 59 [.one (.int .i64), .one (.whole T_uint64 4)], .dead, .var 61 [.one (.int .u64), .one (.int .u64), .one (.bool)], .var 61 [.one (.int .u64), .one (.int .u64), .one (.bool)], .arr T_uint64 false]⟩)])
def S43_33 : Shape × List (Out × Shape) := (⟨[(0, .one (.int .u64)), (3, .one (.whole T_int 0))], [.arr T_int false]⟩, [(.exit 0, ⟨[(0, .one (.int .u64)), (3, .one (.whole T_int 0)), (5, .one (.bool))], [.arr T_int false]⟩)])
def S46_177 : Shape × List (Out × Shape) := (⟨[(0, .one (.ptrC 0 0 0)), (4, .one (.ptrC 3 0 0)), (6, .one (.ptrC 4 0 0)), (47, .one (.list T_api_Expr)), (48, .one (.int .i64)), (49, .one (.int .i64))], [.var 67 [.one (.whole T_int 5), .one (.whole T_api_Edge 6)], .dead, .dead, .var 69 [.one (.int .u64), .one (.int .u64), .one (.bool)], .var 69 [.one (.int .u64), .one (.int .u64), .one (.bool)], .arr T_int false, .arr T_api_Edge false]⟩, [(.exit 1, ⟨[(0, .one (.ptrC 0 0 0)), (4, .one (.ptrC 3 0 0)), (6, .one (.ptrC 4 0 0)), (47, .one (.list T_api_Expr)), (48, .one (.int .i64)), (49, .one (.int .i64)), (50, .one (.bool))], [.var 67 [.one (.whole T_int 5), .one (.whole T_api_Edge 6)], .dead, .dead, .var 69 [.one (.int .u64), .one (.int .u64), .one (.bool)], .var 69 [.one (.int .u64), .one (.int .u64), .one (.bool)], .arr T_int false, .arr T_api_Edge false]⟩)])
def S46_1839 : Shape × List (Out × Shape) := (⟨[(0, .one (.ptrC 0 0 0)), (4, .one (.ptrC 3 0 0)), (11, .one (.ptrC 4 0 0)), (14, .one (.ptrC 5 0 0)), (98, .one (.list T_api_Expr)), (99, .one (.int .i64)), (100, .one (.int .i64)), (114, .one (.bool))], [.var 67 [.one (.whole T_int 6), .one (.whole T_api_Edge 7)], .dead, .dead, .var 69 [.one (.int .u64), .one (.int .u64), .one (.bool)], .var 69 [.one (.int .u64), .one (.int .u64), .one (.bool)], .var 69 [.one (.int .u64), .one (.int .u64), .one (.bool)], .arr T_int false, .arr T_api_Edge false]⟩, [(.norm, ⟨[(0, .one (.ptrC 0 0 0)), (4, .one (.ptrC 3 0 0)), (11, .one (.ptrC 4 0 0)), (14, .one (.ptrC 5 0 0)), (98, .one (.list T_api_Expr)), (99, .one (.int .i64)), (100, .one (.int .i64))], [.var 67 [.one (.whole T_int 6), .one (.whole T_api_Edge 7)], .dead, .dead, .var 69 [.one (.int .u64), .one (.int .u64), .one (.bool)], .var 69 [.one (.int .u64), .one (.int .u64), .one (.bool)], .var 69 [.one (.int .u64), .one (.int .u64), .one (.bool)], .arr T_int false, .arr T_api_Edge false]⟩)])
def S46_1967 : Shape × List (Out × Shape) := (⟨[(0, .one (.ptrC 0 0 0)), (4, .one (.ptrC 3 0 0)), (11, .one (.ptrC 4 0 0)), (14, .one (.ptrC 5 0 0)), (98, .one (.list T_api_Expr)), (99, .one (.int .i64)), (100, .one (.int .i64)), (122, .one (.bool))], [.var 67 [.one (.whole T_int 6), .one (.whole T_api_Edge 7)], .dead, .dead, .var 69 [.one (.int .u64), .one (.int .u64), .one (.bool)], .var 69 [.one (.int .u64), .one (.int .u64), .one (.bool)], .var 69 [.one (.int .u64), .one (.int .u64), .one (.bool)], .arr T_int false, .arr T_api_Edge false]⟩, [(.norm, ⟨[(0, .one (.ptrC 0 0 0)), (4, .one (.ptrC 3 0 0)), (11, .one (.ptrC 4 0 0)), (14, .one (.ptrC 5 0 0)), (98, .one (.list T_api_Expr)), (99, .one (.int .i64)), (100, .one (.int .i64))], [.var 67 [.one (.whole T_int 6), .one (.whole T_api_Edge 7)], .dead, .dead, .var 69 [.one (.int .u64), .one (.int .u64), .one (.bool)], .var 69 [.one (.int .u64), .one (.int .u64), .one (.bool)], .var 69 [.one (.int .u64), .one (.int .u64), .one (.bool)], .arr T_int false, .arr T_api_Edge false]⟩)])
def S46_385 : Shape × List (Out × Shape) := (⟨[(0, .one (.ptrC 0 0 0)), (4, .one (.ptrC 3 0 0)), (11, .one (.ptrC 4 0 0)), (98, .one (.list T_api_Expr)), (99, .one (.int .i64)), (100, .one (.int .i64))], [.var 67 [.one (.whole T_int 5), .one (.whole T_api_Edge 6)], .dead, .dead, .var 69 [.one (.int .u64), .one (.int .u64), .one (.bool)], .var 69 [.one (.int .u64), .one (.int .u64), .one (.bool)], .arr T_int false, .arr T_api_Edge false]⟩, [(.exit 3, ⟨[(0, .one (.ptrC 0 0 0)), (4, .one (.ptrC 3 0 0)), (11, .one (.ptrC 4 0 0)), (98, .one (.list T_api_Expr)), (99, .one (.int .i64)), (100, .one (.int .i64)), (101, .one (.bool))], [.var 67 [.one (.whole T_int 5), .one (.whole T_api_Edge 6)], .dead, .dead, .var 69 [.one (.int .u64), .one (.int .u64), .one (.bool)], .var 69 [.one (.int .u64), .one (.int .u64), .one (.bool)], .arr T_int false, .arr T_api_Edge false]⟩)])
def S47_65 : Shape × List (Out × Shape) := (⟨[(0, .one (.ptrC 0 0 0)), (2, .one (.int .u64)), (7, .one (.int .i64)), (11, .one (.whole T_int 3)), (12, .one (.int .i64)), (13, .one (.int .i64)), (18, .one (.whole T_int 4)), (19, .one (.int .i64)), (20, .one (.int .i64))], [.var 67 [.one (.whole T_int 5), .one (.whole T_api_Edge 6)], .dead, .dead, .arr T_int false, .arr T_int false, .arr T_int false, .arr T_api_Edge false]⟩, [(.exit 2, ⟨[(0, .one (.ptrC 0 0 0)), (2, .one (.int .u64)), (7, .one (.int .i64)), (11, .one (.whole T_int 3)), (12, .one (.int .i64)), (13, .one (.int .i64)), (18, .one (.whole T_int 4)), (19, .one (.int .i64)), (20, .one (.int .i64)), (21, .one (.bool))], [.var 67 [.one (.whole T_int 5), .one (.whole T_api_Edge 6)], .dead, .dead, .arr T_int false, .arr T_int false, .arr T_int false, .arr T_api_Edge false]⟩)])
def S47_17 : Shape × List (Out × Shape) := (⟨[(0, .one (.ptrC 0 0 0)), (2, .one (.int .u64)), (11, .one (.whole T_int 3)), (12, .one (.int .i64)), (13, .one (.int .i64))], [.var 67 [.one (.whole T_int 4), .one (.whole T_api_Edge 5)], .dead, .dead, .arr T_int false, .arr T_int false, .arr T_api_Edge false]⟩, [(.exit 0, ⟨[(0, .one (.ptrC 0 0 0)), (2, .one (.int .u64)), (11, .one (.whole T_int 3)), (12, .one (.int .i64)), (13, .one (.int .i64)), (14, .one (.bool))], [.var 67 [.one (.whole T_int 4), .one (.whole T_api_Edge 5)], .dead, .dead, .arr T_int false, .arr T_int false, .arr T_api_Edge false]⟩)])
def S48_97 : Shape × List (Out × Shape) := (⟨[(3, .one (.whole T_api_Edge 0)), (5, .one (.ptrC 1 0 0)), (6, .one (.int .i64)), (7, .one (.list T_api_Edge)), (8, .one (.int .i64)), (9, .one (.int .i64))], [.arr T_api_Edge false, .var 38 [.one (.int .i64), .one (.int .i64), .one (.int .i64)]]⟩, [(.exit 2, ⟨[(3, .one (.whole T_api_Edge 0)), (5, .one (.ptrC 1 0 0)), (6, .one (.int .i64)), (7, .one (.list T_api_Edge)), (8, .one (.int .i64)), (9, .one (.int .i64)), (25, .one (.bool))], [.arr T_api_Edge false, .var 38 [.one (.int .i64), .one (.int .i64), .one (.int .i64)]]⟩)])
def S48_49 : Shape × List (Out × Shape) := (⟨[(3, .one (.whole T_api_Edge 0)), (7, .one (.list T_api_Edge)), (8, .one (.int .i64)), (9, .one (.int .i64))], [.arr T_api_Edge false]⟩, [(.exit 0, ⟨[(3, .one (.whole T_api_Edge 0)), (7, .one (.list T_api_Edge)), (8, .one (.int .i64)), (9, .one (.int .i64)), (10, .one (.bool))], [.arr T_api_Edge false]⟩)])
def S51_65 : Shape × List (Out × Shape) := (⟨[(0, .one (.str)), (1, .one (.int .i64)), (18, .one (.int .i64)), (19, .one (.int .i64))], []⟩, [(.ret, ⟨[(4, .one (.bool))], []⟩), (.exit 0, ⟨[(0, .one (.str)), (1, .one (.int .i64)), (18, .one (.int .i64)), (19, .one (.int .i64)), (20, .one (.bool))], []⟩)])
def S52_49 : Shape × List (Out × Shape) := (⟨[(1, .one (.ptrC 0 0 0)), (3, .one (.whole T_l_uint64 1)), (11, .one (.int .i64)), (12, .one (.int .i64))], [.var 25 [.one (.int .i64), .one (.int .i64), .one (.int .u64), .one (.int .u64), .one (.list T_api_Edge)], .nest T_l_uint64]⟩, [(.exit 0, ⟨[(1, .one (.ptrC 0 0 0)), (3, .one (.whole T_l_uint64 1)), (11, .one (.int .i64)), (12, .one (.int .i64)), (13, .one (.bool))], [.var 25 [.one (.int .i64), .one (.int .i64), .one (.int .u64), .one (.int .u64), .one (.list T_api_Edge)], .nest T_l_uint64]⟩)])
def S52_129 : Shape × List (Out × Shape) := (⟨[(3, .one (.whole T_l_uint64 0)), (23, .one (.list T_api_Edge)), (24, .one (.int .i64)), (25, .one (.int .i64))], [.nest T_l_uint64]⟩, [(.exit 2, ⟨[(3, .one (.whole T_l_uint64 0)), (23, .one (.list T_api_Edge)), (24, .one (.int .i64)), (25, .one (.int .i64)), (26, .one (.bool))], [.nest T_l_uint64]⟩)])
def S53_81 : Shape × List (Out × Shape) := (⟨[(0, .one (.list T_uint64)), (5, .one (.int .u64)), (16, .one (.whole T_int 0)), (17, .one (.int .i64)), (18, .one (.int .i64))], [.arr T_int false]⟩, [(.exit 0, ⟨[(0, .one (.list T_uint64)), (5, .one (.int .u64)), (16, .one (.whole T_int 0)), (17, .one (.int .i64)), (18, .one (.int .i64)), (19, .one (.bool))], [.arr T_int false]⟩)])
def S54_65 : Shape × List (Out × Shape) := (⟨[(0, .one (.str)), (1, .one (.int .i64)), (5, .one (.int .i64))], []⟩, [(.ret, ⟨[(4, .one (.bool))], []⟩), (.exit 0, ⟨[(0, .one (.str)), (1, .one (.int .i64)), (5, .one (.int .i64)), (17, .one (.bool))], []⟩)])
def S55_81 : Shape × List (Out × Shape) := (⟨[(3, .one (.whole T_uint64 0)), (14, .one (.list T_uint64)), (15, .one (.int .i64)), (16, .one (.int .i64))], [.arr T_uint64 false]⟩, [(.exit 0, ⟨[(3, .one (.whole T_uint64 0)), (14, .one (.list T_uint64)), (15, .one (.int .i64)), (16, .one (.int .i64)), (17, .one (.bool))], [.arr T_uint64 false]⟩)])
def S55_209 : Shape × List (Out × Shape) := (⟨[(3, .one (.whole T_uint64 0)), (6, .one (.int .i64)), (30, .one (.int .i64)), (31, .one (.int .i64)), (35, .one (.int .i64)), (36, .one (.int .i64))], [.arr T_uint64 false]⟩, [(.exit 4, ⟨[(3, .one (.whole T_uint64 0)), (6, .one (.int .i64)), (30, .one (.int .i64)), (31, .one (.int .i64)), (35, .one (.int .i64)), (36, .one (.int .i64)), (37, .one (.bool))], [.arr T_uint64 false]⟩)])
def S55_161 : Shape × List (Out × Shape) := (⟨[(3, .one (.whole T_uint64 0)), (30, .one (.int .i64)), (31, .one (.int .i64))], [.arr T_uint64 false]⟩, [(.exit 2, ⟨[(3, .one (.whole T_uint64 0)), (30, .one (.int .i64)), (31, .one (.int .i64)), (32, .one (.bool))], [.arr T_uint64 false]⟩)])
def S57_49 : Shape × List (Out × Shape) := (⟨[(3, .one (.int .i64)), (6, .one (.list T_int)), (7, .one (.int .i64)), (8, .one (.int .i64))], []⟩, [(.ret, ⟨[(2, .one (.int .i64))], []⟩), (.exit 0, ⟨[(3, .one (.int .i64)), (6, .one (.list T_int)), (7, .one (.int .i64)), (8, .one (.int .i64)), (9, .one (.bool))], []⟩)])
def S61_17 : Shape × List (Out × Shape) := (⟨[(0, .one (.ptrC 0 0 0)), (2, .one (.int .u64)), (9, .one (.whole T_int 2)), (10, .one (.int .i64)), (11, .one (.int .i64))], [.var 59 [.one (.int .i64), .one (.whole T_uint64 3)], .dead, .arr T_int false, .arr T_uint64 false]⟩, [(.exit 0, ⟨[(0, .one (.ptrC 0 0 0)), (2, .one (.int .u64)), (9, .one (.whole T_int 2)), (10, .one (.int .i64)), (11, .one (.int .i64)), (12, .one (.bool))], [.var 59 [.one (.int .i64), .one (.whole T_uint64 3)], .dead, .arr T_int false, .arr T_uint64 false]⟩)])
def S63_639 : Shape × List (Out × Shape) := (⟨[(0, .one (.whole T_api_Edge 0)), (1, .one (.int .i64)), (2, .one (.int .i64)), (3, .one (.int .i64)), (4, .fn F_nfa_compareEdges [] []), (10, .one (.bool)), (11, .one (.bool)), (12, .one (.int .i64)), (39, .one (.bool))], [.arr T_api_Edge false]⟩, [(.norm, ⟨[(0, .one (.whole T_api_Edge 0)), (1, .one (.int .i64)), (2, .one (.int .i64)), (3, .one (.int .i64)), (4, .fn F_nfa_compareEdges [] []), (10, .one (.bool)), (11, .one (.bool)), (12, .one (.int .i64))], [.arr T_api_Edge false]⟩)])
def S63_911 : Shape × List (Out × Shape) := (⟨[(0, .one (.whole T_api_Edge 0)), (1, .one (.int .i64)), (2, .one (.int .i64)), (3, .one (.int .i64)), (4, .fn F_nfa_compareEdges [] []), (10, .one (.bool)), (11, .one (.bool)), (12, .one (.int .i64)), (13, .one (.int .i64)), (14, .one (.int .i64)), (56, .one (.bool))], [.arr T_api_Edge false]⟩, [(.norm, ⟨[(0, .one (.whole T_api_Edge 0)), (1, .one (.int .i64)), (2, .one (.int .i64)), (3, .one (.int .i64)), (4, .fn F_nfa_compareEdges [] []), (10, .one (.bool)), (11, .one (.bool)), (12, .one (.int .i64)), (13, .one (.int .i64)), (14, .one (.int .i64))], [.arr T_api_Edge false]⟩)])
def S63_1215 : Shape × List (Out × Shape) := (⟨[(0, .one (.whole T_api_Edge 0)), (1, .one (.int .i64)), (2, .one (.int .i64)), (3, .one (.int .i64)), (4, .fn F_nfa_compareEdges [] []), (10, .one (.bool)), (11, .one (.bool)), (12, .one (.int .i64)), (13, .one (.int .i64)), (75, .one (.bool))], [.arr T_api_Edge false]⟩, [(.norm, ⟨[(0, .one (.whole T_api_Edge 0)), (1, .one (.int .i64)), (2, .one (.int .i64)), (3, .one (.int .i64)), (4, .fn F_nfa_compareEdges [] []), (10, .one (.bool)), (11, .one (.bool)), (12, .one (.int .i64)), (13, .one (.int .i64))], [.arr T_api_Edge false]⟩), (.ret, ⟨[(0, .one (.whole T_api_Edge 0)), (1, .one (.int .i64)), (2, .one (.int .i64)), (3, .one (.int .i64)), (4, .fn F_nfa_compareEdges [] []), (10, .one (.bool)), (11, .one (.bool)), (12, .one (.int .i64)), (13, .one (.int .i64)), (80, .one (.bool))], [.arr T_api_Edge false]⟩)])
def S63_33 : Shape × List (Out × Shape) := (⟨[(0, .one (.whole T_api_Edge 0)), (1, .one (.int .i64)), (2, .one (.int .i64)), (3, .one (.int .i64)), (4, .fn F_nfa_compareEdges [] []), (10, .one (.bool)), (11, .one (.bool))], [.arr T_api_Edge false]⟩, [(.ret, ⟨[], [.arr T_api_Edge false]⟩)])
def S66_65 : Shape × List (Out × Shape) := (⟨[(1, .one (.int .i64)), (12, .one (.list T_api_Expr)), (13, .one (.int .i64)), (14, .one (.int .i64))], []⟩, [(.ret, ⟨[(4, .one (.bool))], []⟩), (.exit 0, ⟨[(1, .one (.int .i64)), (12, .one (.list T_api_Expr)), (13, .one (.int .i64)), (14, .one (.int .i64)), (15, .one (.bool))], []⟩)])
def S67_49 : Shape × List (Out × Shape) := (⟨[(0, .one (.int .u64)), (3, .one (.whole T_int 0)), (4, .one (.int .i64))], [.arr T_int false]⟩, [(.exit 0, ⟨[(0, .one (.int .u64)), (3, .one (.whole T_int 0)), (4, .one (.int .i64)), (6, .one (.bool))], [.arr T_int false]⟩)])
def S68_65 : Shape × List (Out × Shape) := (⟨[(0, .one (.list T_uint64)), (8, .one (.list T_uint64)), (9, .one (.int .i64)), (10, .one (.int .i64))], []⟩, [(.exit 0, ⟨[(0, .one (.list T_uint64)), (8, .one (.list T_uint64)), (9, .one (.int .i64)), (10, .one (.int .i64)), (11, .one (.bool))], []⟩), (.ret, ⟨[(2, .one (.bool))], []⟩)])
def S72_321 : Shape × List (Out × Shape) := (⟨[(1, .one (.int .i64)), (53, .one (.list T_api_Expr)), (54, .one (.int .i64)), (55, .one (.int .i64))], []⟩, [(.ret, ⟨[(4, .one (.bool))], []⟩), (.exit 1, ⟨[(1, .one (.int .i64)), (53, .one (.list T_api_Expr)), (54, .one (.int .i64)), (55, .one (.int .i64)), (56, .one (.bool))], []⟩)])
def S74_65 : Shape × List (Out × Shape) := (⟨[(0, .one (.whole T_api_Edge 0)), (1, .one (.int .i64)), (2, .one (.int .i64)), (3, .fn F_nfa_compareEdges [] []), (8, .one (.int .i64)), (9, .one (.int .i64))], [.arr T_api_Edge false]⟩, [(.exit 2, ⟨[(0, .one (.whole T_api_Edge 0)), (1, .one (.int .i64)), (2, .one (.int .i64)), (3, .fn F_nfa_compareEdges [] []), (8, .one (.int .i64)), (9, .one (.int .i64)), (34, .one (.bool))], [.arr T_api_Edge false]⟩)])
def S74_17 : Shape × List (Out × Shape) := (⟨[(0, .one (.whole T_api_Edge 0)), (1, .one (.int .i64)), (2, .one (.int .i64)), (3, .fn F_nfa_compareEdges [] []), (8, .one (.int .i64))], [.arr T_api_Edge false]⟩, [(.exit 0, ⟨[(0, .one (.whole T_api_Edge 0)), (1, .one (.int .i64)), (2, .one (.int .i64)), (3, .fn F_nfa_compareEdges [] []), (8, .one (.int .i64)), (14, .one (.bool))], [.arr T_api_Edge false]⟩)])
def S75_65 : Shape × List (Out × Shape) := (⟨[(0, .one (.whole T_api_Edge 0)), (3, .fn F_nfa_compareEdges [] []), (8, .one (.int .i64)), (9, .one (.int .i64)), (10, .one (.int .i64)), (11, .one (.int .i64))], [.arr T_api_Edge false]⟩, [(.exit 0, ⟨[(0, .one (.whole T_api_Edge 0)), (3, .fn F_nfa_compareEdges [] []), (8, .one (.int .i64)), (9, .one (.int .i64)), (10, .one (.int .i64)), (11, .one (.int .i64)), (21, .one (.bool))], [.arr T_api_Edge false]⟩)])
def S75_129 : Shape × List (Out × Shape) := (⟨[(0, .one (.whole T_api_Edge 0)), (3, .fn F_nfa_compareEdges [] []), (8, .one (.int .i64)), (9, .one (.int .i64)), (12, .one (.int .i64))], [.arr T_api_Edge false]⟩, [(.exit 2, ⟨[(0, .one (.whole T_api_Edge 0)), (3, .fn F_nfa_compareEdges [] []), (8, .one (.int .i64)), (9, .one (.int .i64)), (12, .one (.int .i64)), (33, .one (.bool))], [.arr T_api_Edge false]⟩)])
def S76_735 : Shape × List (Out × Shape) := (⟨[(0, .one (.whole T_api_Edge 0)), (1, .one (.int .i64)), (8, .one (.int .i64)), (9, .one (.ptrC 1 0 0)), (10, .one (.int .u64)), (11, .one (.int .i64)), (12, .one (.int .i64)), (45, .one (.bool))], [.arr T_api_Edge false, .var 104 [.one (.int .u64)]]⟩, [(.norm, ⟨[(0, .one (.whole T_api_Edge 0)), (1, .one (.int .i64)), (8, .one (.int .i64)), (9, .one (.ptrC 1 0 0)), (10, .one (.int .u64)), (11, .one (.int .i64)), (12, .one (.int .i64))], [.arr T_api_Edge false, .var 104 [.one (.int .u64)]]⟩)])
def S76_81 : Shape × List (Out × Shape) := (⟨[(0, .one (.whole T_api_Edge 0)), (1, .one (.int .i64)), (8, .one (.int .i64)), (9, .one (.ptrC 1 0 0)), (10, .one (.int .u64)), (11, .one (.int .i64))], [.arr T_api_Edge false, .var 104 [.one (.int .u64)]]⟩, [(.exit 0, ⟨[(0, .one (.whole T_api_Edge 0)), (1, .one (.int .i64)), (8, .one (.int .i64)), (9, .one (.ptrC 1 0 0)), (10, .one (.int .u64)), (11, .one (.int .i64)), (35, .one (.bool))], [.arr T_api_Edge false, .var 104 [.one (.int .u64)]]⟩)])
def S77_591 : Shape × List (Out × Shape) := (⟨[(0, .one (.list T_api_Edge)), (3, .fn F_nfa_compareEdges [] []), (11, .one (.ptrC 0 0 0)), (12, .one (.int .i64)), (13, .one (.int .i64)), (14, .one (.int .i64)), (36, .one (.bool))], [.var 3 [.one (.int .i64)]]⟩, [(.norm, ⟨[(0, .one (.list T_api_Edge)), (3, .fn F_nfa_compareEdges [] []), (11, .one (.ptrC 0 0 0)), (12, .one (.int .i64)), (13, .one (.int .i64)), (14, .one (.int .i64))], [.var 3 [.one (.int .i64)]]⟩)])
def S77_559 : Shape × List (Out × Shape) := (⟨[(0, .one (.list T_api_Edge)), (3, .fn F_nfa_compareEdges [] []), (10, .one (.int .i64)), (11, .one (.ptrC 0 0 0)), (12, .one (.int .i64)), (13, .one (.int .i64)), (14, .one (.int .i64)), (34, .one (.bool))], [.var 3 [.one (.int .i64)]]⟩, [(.norm, ⟨[(11, .one (.ptrC 0 0 0)), (13, .one (.int .i64))], [.var 3 [.one (.int .i64)]]⟩)])
def S78_33 : Shape × List (Out × Shape) := (⟨[(0, .one (.whole T_api_Edge 0)), (8, .one (.int .i64)), (9, .one (.int .i64))], [.arr T_api_Edge false]⟩, [(.exit 0, ⟨[(0, .one (.whole T_api_Edge 0)), (8, .one (.int .i64)), (9, .one (.int .i64)), (15, .one (.bool))], [.arr T_api_Edge false]⟩)])
def S79_81 : Shape × List (Out × Shape) := (⟨[(0, .one (.whole T_api_Edge 0)), (1, .one (.int .i64)), (2, .one (.int .i64)), (3, .fn F_nfa_compareEdges [] []), (9, .one (.int .i64)), (10, .one (.int .i64))], [.arr T_api_Edge false]⟩, [(.exit 2, ⟨[(0, .one (.whole T_api_Edge 0)), (1, .one (.int .i64)), (2, .one (.int .i64)), (3, .fn F_nfa_compareEdges [] []), (9, .one (.int .i64)), (10, .one (.int .i64)), (36, .one (.bool))], [.arr T_api_Edge false]⟩)])
def S79_225 : Shape × List (Out × Shape) := (⟨[(0, .one (.whole T_api_Edge 0)), (1, .one (.int .i64)), (2, .one (.int .i64)), (3, .fn F_nfa_compareEdges [] []), (9, .one (.int .i64)), (10, .one (.int .i64)), (11, .one (.int .i64))], [.arr T_api_Edge false]⟩, [(.exit 4, ⟨[(0, .one (.whole T_api_Edge 0)), (1, .one (.int .i64)), (2, .one (.int .i64)), (3, .fn F_nfa_compareEdges [] []), (9, .one (.int .i64)), (10, .one (.int .i64)), (11, .one (.int .i64))], [.arr T_api_Edge false]⟩)])
def S79_1055 : Shape × List (Out × Shape) := (⟨[(0, .one (.whole T_api_Edge 0)), (1, .one (.int .i64)), (2, .one (.int .i64)), (3, .fn F_nfa_compareEdges [] []), (9, .one (.int .i64)), (10, .one (.int .i64)), (65, .one (.bool))], [.arr T_api_Edge false]⟩, [(.norm, ⟨[(0, .one (.whole T_api_Edge 0)), (1, .one (.int .i64)), (2, .one (.int .i64)), (3, .fn F_nfa_compareEdges [] []), (9, .one (.int .i64)), (10, .one (.int .i64))], [.arr T_api_Edge false]⟩)])
def S79_321 : Shape × List (Out × Shape) := (⟨[(0, .one (.whole T_api_Edge 0)), (1, .one (.int .i64)), (2, .one (.int .i64)), (3, .fn F_nfa_compareEdges [] []), (9, .one (.int .i64)), (10, .one (.int .i64)), (12, .one (.int .i64))], [.arr T_api_Edge false]⟩, [(.exit 6, ⟨[(0, .one (.whole T_api_Edge 0)), (1, .one (.int .i64)), (2, .one (.int .i64)), (3, .fn F_nfa_compareEdges [] []), (9, .one (.int .i64)), (10, .one (.int .i64)), (12, .one (.int .i64))], [.arr T_api_Edge false]⟩)])
def S79_49 : Shape × List (Out × Shape) := (⟨[(0, .one (.whole T_api_Edge 0)), (1, .one (.int .i64)), (2, .one (.int .i64)), (3, .fn F_nfa_compareEdges [] []), (9, .one (.int .i64)), (10, .one (.int .i64))], [.arr T_api_Edge false]⟩, [(.ret, ⟨[(8, .one (.bool))], [.arr T_api_Edge false]⟩), (.exit 0, ⟨[(0, .one (.whole T_api_Edge 0)), (1, .one (.int .i64)), (2, .one (.int .i64)), (3, .fn F_nfa_compareEdges [] []), (9, .one (.int .i64)), (10, .one (.int .i64)), (16, .one (.bool))], [.arr T_api_Edge false]⟩)])
def S80_49 : Shape × List (Out × Shape) := (⟨[(0, .one (.whole T_api_Edge 0)), (1, .one (.int .i64)), (4, .fn F_nfa_compareEdges [] []), (11, .one (.int .i64)), (12, .one (.int .i64))], [.arr T_api_Edge false]⟩, [(.exit 2, ⟨[(0, .one (.whole T_api_Edge 0)), (1, .one (.int .i64)), (4, .fn F_nfa_compareEdges [] []), (11, .one (.int .i64)), (12, .one (.int .i64)), (47, .one (.bool))], [.arr T_api_Edge false]⟩)])
def S80_81 : Shape × List (Out × Shape) := (⟨[(0, .one (.whole T_api_Edge 0)), (1, .one (.int .i64)), (4, .fn F_nfa_compareEdges [] []), (11, .one (.int .i64)), (12, .one (.int .i64))], [.arr T_api_Edge false]⟩, [(.exit 4, ⟨[(0, .one (.whole T_api_Edge 0)), (1, .one (.int .i64)), (4, .fn F_nfa_compareEdges [] []), (11, .one (.int .i64)), (12, .one (.int .i64)), (65, .one (.bool))], [.arr T_api_Edge false]⟩)])
def S80_50 : Shape × List (Out × Shape) := (⟨[(0, .one (.whole T_api_Edge 0)), (1, .one (.int .i64)), (4, .fn F_nfa_compareEdges [] []), (11, .one (.int .i64)), (12, .one (.int .i64))], [.arr T_api_Edge false]⟩, [(.exit 0, ⟨[(0, .one (.whole T_api_Edge 0)), (1, .one (.int .i64)), (4, .fn F_nfa_compareEdges [] []), (11, .one (.int .i64)), (12, .one (.int .i64)), (70, .one (.bool))], [.arr T_api_Edge false]⟩)])
def S81_49 : Shape × List (Out × Shape) := (⟨[(0, .one (.whole T_api_Edge 0)), (1, .one (.int .i64)), (4, .fn F_nfa_compareEdges [] []), (12, .one (.int .i64)), (13, .one (.int .i64))], [.arr T_api_Edge false]⟩, [(.exit 0, ⟨[(0, .one (.whole T_api_Edge 0)), (1, .one (.int .i64)), (4, .fn F_nfa_compareEdges [] []), (12, .one (.int .i64)), (13, .one (.int .i64)), (47, .one (.bool))], [.arr T_api_Edge false]⟩)])
def S81_81 : Shape × List (Out × Shape) := (⟨[(0, .one (.whole T_api_Edge 0)), (1, .one (.int .i64)), (4, .fn F_nfa_compareEdges [] []), (12, .one (.int .i64)), (13, .one (.int .i64))], [.arr T_api_Edge false]⟩, [(.exit 2, ⟨[(0, .one (.whole T_api_Edge 0)), (1, .one (.int .i64)), (4, .fn F_nfa_compareEdges [] []), (12, .one (.int .i64)), (13, .one (.int .i64)), (66, .one (.bool))], [.arr T_api_Edge false]⟩)])
def S81_209 : Shape × List (Out × Shape) := (⟨[(0, .one (.whole T_api_Edge 0)), (1, .one (.int .i64)), (4, .fn F_nfa_compareEdges [] []), (12, .one (.int .i64)), (13, .one (.int .i64))], [.arr T_api_Edge false]⟩, [(.exit 6, ⟨[(0, .one (.whole T_api_Edge 0)), (1, .one (.int .i64)), (4, .fn F_nfa_compareEdges [] []), (12, .one (.int .i64)), (13, .one (.int .i64)), (120, .one (.bool))], [.arr T_api_Edge false]⟩)])
def S81_241 : Shape × List (Out × Shape) := (⟨[(0, .one (.whole T_api_Edge 0)), (1, .one (.int .i64)), (4, .fn F_nfa_compareEdges [] []), (12, .one (.int .i64)), (13, .one (.int .i64))], [.arr T_api_Edge false]⟩, [(.exit 8, ⟨[(0, .one (.whole T_api_Edge 0)), (1, .one (.int .i64)), (4, .fn F_nfa_compareEdges [] []), (12, .one (.int .i64)), (13, .one (.int .i64)), (139, .one (.bool))], [.arr T_api_Edge false]⟩)])
def S81_210 : Shape × List (Out × Shape) := (⟨[(0, .one (.whole T_api_Edge 0)), (1, .one (.int .i64)), (4, .fn F_nfa_compareEdges [] []), (12, .one (.int .i64)), (13, .one (.int .i64))], [.arr T_api_Edge false]⟩, [(.exit 4, ⟨[(0, .one (.whole T_api_Edge 0)), (1, .one (.int .i64)), (4, .fn F_nfa_compareEdges [] []), (12, .one (.int .i64)), (13, .one (.int .i64)), (144, .one (.bool))], [.arr T_api_Edge false]⟩)])
def S83_79 : Shape × List (Out × Shape) := (⟨[(0, .one (.int .u64)), (2, .one (.int .i64)), (4, .one (.bool))], []⟩, [(.norm, ⟨[(0, .one (.int .u64)), (2, .one (.int .i64))], []⟩)])
def S83_143 : Shape × List (Out × Shape) := (⟨[(0, .one (.int .u64)), (2, .one (.int .i64)), (8, .one (.bool))], []⟩, [(.norm, ⟨[(0, .one (.int .u64)), (2, .one (.int .i64))], []⟩)])
def S85_639 : Shape × List (Out × Shape) := (⟨[(1, .one (.int .i64)), (2, .one (.ptrC 0 0 0)), (5, .one (.int .i64)), (6, .one (.bool)), (39, .one (.bool))], [.var 32 [.one (.int .i64), .one (.int .i64), .one (.list T_api_Expr)]]⟩, [(.norm, ⟨[(1, .one (.int .i64)), (2, .one (.ptrC 0 0 0)), (5, .one (.int .i64)), (6, .one (.bool))], [.var 32 [.one (.int .i64), .one (.int .i64), .one (.list T_api_Expr)]]⟩)])
def S85_257 : Shape × List (Out × Shape) := (⟨[(1, .one (.int .i64)), (2, .one (.ptrC 0 0 0)), (5, .one (.int .i64)), (6, .one (.bool)), (7, .one (.int .i64))], [.var 32 [.one (.int .i64), .one (.int .i64), .one (.list T_api_Expr)]]⟩, [(.exit 1, ⟨[(1, .one (.int .i64)), (2, .one (.ptrC 0 0 0)), (5, .one (.int .i64)), (6, .one (.bool)), (7, .one (.int .i64)), (63, .one (.bool))], [.var 32 [.one (.int .i64), .one (.int .i64), .one (.list T_api_Expr)]]⟩)])
def S86_81 : Shape × List (Out × Shape) := (⟨[(1, .one (.int .i64)), (2, .one (.ptrC 0 0 0)), (23, .one (.list T_api_Expr)), (24, .one (.int .i64)), (25, .one (.int .i64))], [.var 3 [.one (.int .i64)]]⟩, [(.ret, ⟨[(6, .one (.bool))], [.var 3 [.one (.int .i64)]]⟩), (.exit 0, ⟨[(1, .one (.int .i64)), (2, .one (.ptrC 0 0 0)), (23, .one (.list T_api_Expr)), (24, .one (.int .i64)), (25, .one (.int .i64)), (26, .one (.bool))], [.var 3 [.one (.int .i64)]]⟩)])
def S87_33 : Shape × List (Out × Shape) := (⟨[(0, .one (.list T_api_Expr)), (1, .fn F_nfa_hasBoolean [] []), (7, .one (.int .i64)), (8, .one (.int .i64))], []⟩, [(.ret, ⟨[(4, .one (.int .i64))], []⟩), (.exit 0, ⟨[(0, .one (.list T_api_Expr)), (1, .fn F_nfa_hasBoolean [] []), (7, .one (.int .i64)), (8, .one (.int .i64)), (9, .one (.bool))], []⟩)])
def S88_655 : Shape × List (Out × Shape) := (⟨[(0, .one (.whole T_api_Edge 0)), (2, .one (.int .i64)), (3, .one (.int .i64)), (4, .fn F_nfa_compareEdges [] []), (10, .one (.int .i64)), (11, .one (.int .i64)), (40, .one (.bool))], [.arr T_api_Edge false]⟩, [(.norm, ⟨[(0, .one (.whole T_api_Edge 0)), (2, .one (.int .i64)), (3, .one (.int .i64)), (4, .fn F_nfa_compareEdges [] []), (10, .one (.int .i64)), (11, .one (.int .i64))], [.arr T_api_Edge false]⟩)])
def S88_17 : Shape × List (Out × Shape) := (⟨[(0, .one (.whole T_api_Edge 0)), (2, .one (.int .i64)), (3, .one (.int .i64)), (4, .fn F_nfa_compareEdges [] []), (10, .one (.int .i64))], [.arr T_api_Edge false]⟩, [(.exit 0, ⟨[(0, .one (.whole T_api_Edge 0)), (2, .one (.int .i64)), (3, .one (.int .i64)), (4, .fn F_nfa_compareEdges [] []), (10, .one (.int .i64)), (11, .one (.int .i64)), (18, .one (.bool))], [.arr T_api_Edge false]⟩), (.ret, ⟨[(0, .one (.whole T_api_Edge 0)), (2, .one (.int .i64)), (3, .one (.int .i64)), (4, .fn F_nfa_compareEdges [] []), (10, .one (.int .i64)), (11, .one (.int .i64)), (58, .one (.bool))], [.arr T_api_Edge false]⟩)])
def S93_49 : Shape × List (Out × Shape) := (⟨[(1, .one (.int .i64)), (2, .one (.ptrC 0 0 0)), (6, .one (.int .i64)), (7, .one (.int .i64)), (8, .one (.int .i64))], [.var 32 [.one (.int .i64), .one (.int .i64), .one (.list T_api_Expr)]]⟩, [(.exit 0, ⟨[(1, .one (.int .i64)), (2, .one (.ptrC 0 0 0)), (6, .one (.int .i64)), (7, .one (.int .i64)), (8, .one (.int .i64)), (20, .one (.bool))], [.var 32 [.one (.int .i64), .one (.int .i64), .one (.list T_api_Expr)]]⟩)])
def annFid : List (Nat × FuncId) := [(3, F_semigrouplaw06_NfaValidates), (4, F_semigrouplaw06_NfaPositions), (5, F_semigrouplaw06_NfaBounds), (6, F_semigrouplaw06_NfaSteps), (7, F_semigrouplaw06_NfaAccepts), (8, F_semigrouplaw06_NfaReverses), (9, F_semigrouplaw06_NfaReaches), (10, F_semigrouplaw06_NfaSums), (11, F_nfa_Validate), (12, F_semigroupref06_Validate), (13, F_semigrouplaw06_awake), (14, F_nfa_Position), (15, F_semigroupref06_Position), (16, F_semigroupref06_Same), (17, F_semigroupref04_Letters), (18, F_nfa_Step), (19, F_semigrouplaw06_valid), (20, F_semigroupref06_Step), (21, F_semigroupref02_Below), (22, F_nfa_Accepts), (23, F_nfa_Runs), (24, F_semigroupref06_Accepts), (25, F_semigroupref06_Runs), (26, F_nfa_Reverse), (27, F_semigroupref06_Reverse), (28, F_semigroupref01_Reverse), (29, F_nfa_Reachable), (30, F_nfa_Coreachable), (31, F_semigroupref06_Reachable), (32, F_semigroupref06_Coreachable), (33, F_nfa_Sum), (34, F_semigroupref06_Sum), (35, F_nfa_states), (36, F_nfa_compareEdges), (37, F_semigroupref01_MayLetters), (38, F_semigroupref06_before), (39, F_semigrouplaw06_ab), (40, F_nfa_plain), (41, F_nfa_letterNodes), (42, F_nfa_positions_visit), (43, F_relation_Members), (44, F_slices_SortFunc___api_Edge_api_Edge_), (45, F_semigroupref06_plain), (46, F_semigroupref06_positions_walk), (47, F_semigroupref06_positions_link), (48, F_semigroupref06_Sorted), (49, F_semigroupref02_Has), (50, F_semigroupref02_Bit), (51, F_word_Valid), (52, F_nfa_successors), (53, F_relation_Image), (54, F_semigroupref01_Valid), (55, F_relation_Closure), (57, F_cmp_Or_int_), (58, F_cmp_Compare_int_), (59, F_expr_Validate), (60, F_nfa_hasBoolean), (61, F_nfa_positions_join), (62, F_bits_TrailingZeros64), (63, F_slices_pdqsortCmpFunc_api_Edge_), (64, F_bits_Len), (65, F_semigroupref04_Validate), (66, F_semigroupref04_Uses), (67, F_semigroupref02_Members), (68, F_relation_Valid), (69, F_relation_points), (70, F_cmp_isNaN_int_), (71, F_expr_withinLimits), (72, F_expr_wellFormed), (73, F_slices_ContainsFunc___api_Expr_api_Expr_), (74, F_slices_insertionSortCmpFunc_api_Edge_), (75, F_slices_heapSortCmpFunc_api_Edge_), (76, F_slices_breakPatternsCmpFunc_api_Edge_), (77, F_slices_choosePivotCmpFunc_api_Edge_), (78, F_slices_reverseRangeCmpFunc_api_Edge_), (79, F_slices_partialInsertionSortCmpFunc_api_Edge_), (80, F_slices_partitionEqualCmpFunc_api_Edge_), (81, F_slices_partitionCmpFunc_api_Edge_), (83, F_bits_Len64), (84, F_semigroupref04_Within), (85, F_semigroupref04_shaped), (86, F_expr_fits), (87, F_slices_IndexFunc___api_Expr_api_Expr_), (88, F_slices_siftDownCmpFunc_api_Edge_), (89, F_slices_nextPowerOfTwo), (90, F_slices_xorshift_Next), (91, F_slices_medianAdjacentCmpFunc_api_Edge_), (92, F_slices_medianCmpFunc_api_Edge_), (93, F_semigroupref04_measure), (94, F_slices_order2CmpFunc_api_Edge_)]
def annSin : List (Nat × Shape) := [(3, ⟨[(0, .agg [.int .i64, .int .i64, .int .u64, .int .u64, .list T_api_Edge])], []⟩),
 (4, ⟨[(0, .agg [.int .i64, .int .i64, .list T_api_Expr]), (1, .one (.int .i64))], []⟩),
 (5, ⟨[(0, .agg [.int .i64, .int .i64, .list T_api_Expr]), (1, .one (.int .i64))], []⟩),
 (6, ⟨[(0, .agg [.int .i64, .int .i64, .int .u64, .int .u64, .list T_api_Edge]), (1, .one (.int .u64)), (2, .one (.int .i64))], []⟩),
 (7, ⟨[(0, .agg [.int .i64, .int .i64, .int .u64, .int .u64, .list T_api_Edge]), (1, .one (.str))], []⟩),
 (8, ⟨[(0, .agg [.int .i64, .int .i64, .int .u64, .int .u64, .list T_api_Edge]), (1, .one (.str))], []⟩),
 (9, ⟨[(0, .agg [.int .i64, .int .i64, .int .u64, .int .u64, .list T_api_Edge])], []⟩),
 (10, ⟨[(0, .agg [.int .i64, .int .i64, .int .u64, .int .u64, .list T_api_Edge]), (1, .agg [.int .i64, .int .i64, .int .u64, .int .u64, .list T_api_Edge]), (2, .one (.str))], []⟩),
 (11, ⟨[(0, .agg [.int .i64, .int .i64, .int .u64, .int .u64, .list T_api_Edge])], []⟩),
 (12, ⟨[(0, .agg [.int .i64, .int .i64, .int .u64, .int .u64, .list T_api_Edge])], []⟩),
 (13, ⟨[], []⟩),
 (14, ⟨[(0, .agg [.int .i64, .int .i64, .list T_api_Expr]), (1, .one (.int .i64))], []⟩),
 (15, ⟨[(0, .agg [.int .i64, .int .i64, .list T_api_Expr]), (1, .one (.int .i64))], []⟩),
 (16, ⟨[(0, .agg [.int .i64, .int .i64, .int .u64, .int .u64, .list T_api_Edge]), (1, .agg [.int .i64, .int .i64, .int .u64, .int .u64, .list T_api_Edge])], []⟩),
 (17, ⟨[(0, .agg [.int .i64, .int .i64, .list T_api_Expr])], []⟩),
 (18, ⟨[(0, .agg [.int .i64, .int .i64, .int .u64, .int .u64, .list T_api_Edge]), (1, .one (.int .u64)), (2, .one (.int .i64))], []⟩),
 (19, ⟨[(0, .agg [.int .i64, .int .i64, .int .u64, .int .u64, .list T_api_Edge])], []⟩),
 (20, ⟨[(0, .agg [.int .i64, .int .i64, .int .u64, .int .u64, .list T_api_Edge]), (1, .one (.int .u64)), (2, .one (.int .i64))], []⟩),
 (21, ⟨[(0, .one (.int .i64))], []⟩),
 (22, ⟨[(0, .agg [.int .i64, .int .i64, .int .u64, .int .u64, .list T_api_Edge]), (1, .one (.str))], []⟩),
 (23, ⟨[(0, .agg [.int .i64, .int .i64, .int .u64, .int .u64, .list T_api_Edge]), (1, .one (.str))], []⟩),
 (24, ⟨[(0, .agg [.int .i64, .int .i64, .int .u64, .int .u64, .list T_api_Edge]), (1, .one (.str))], []⟩),
 (25, ⟨[(0, .agg [.int .i64, .int .i64, .int .u64, .int .u64, .list T_api_Edge]), (1, .one (.str))], []⟩),
 (26, ⟨[(0, .agg [.int .i64, .int .i64, .int .u64, .int .u64, .list T_api_Edge])], []⟩),
 (27, ⟨[(0, .agg [.int .i64, .int .i64, .int .u64, .int .u64, .list T_api_Edge])], []⟩),
 (28, ⟨[(0, .one (.str))], []⟩),
 (29, ⟨[(0, .agg [.int .i64, .int .i64, .int .u64, .int .u64, .list T_api_Edge])], []⟩),
 (30, ⟨[(0, .agg [.int .i64, .int .i64, .int .u64, .int .u64, .list T_api_Edge])], []⟩),
 (31, ⟨[(0, .agg [.int .i64, .int .i64, .int .u64, .int .u64, .list T_api_Edge])], []⟩),
 (32, ⟨[(0, .agg [.int .i64, .int .i64, .int .u64, .int .u64, .list T_api_Edge])], []⟩),
 (33, ⟨[(0, .agg [.int .i64, .int .i64, .int .u64, .int .u64, .list T_api_Edge]), (1, .agg [.int .i64, .int .i64, .int .u64, .int .u64, .list T_api_Edge])], []⟩),
 (34, ⟨[(0, .agg [.int .i64, .int .i64, .int .u64, .int .u64, .list T_api_Edge]), (1, .agg [.int .i64, .int .i64, .int .u64, .int .u64, .list T_api_Edge])], []⟩),
 (35, ⟨[(0, .one (.int .i64))], []⟩),
 (36, ⟨[(0, .agg [.int .i64, .int .i64, .int .i64]), (1, .agg [.int .i64, .int .i64, .int .i64])], []⟩),
 (37, ⟨[(0, .one (.int .i64))], []⟩),
 (38, ⟨[(0, .agg [.int .i64, .int .i64, .int .i64]), (1, .agg [.int .i64, .int .i64, .int .i64])], []⟩),
 (39, ⟨[], []⟩),
 (40, ⟨[(0, .agg [.int .i64, .int .i64, .list T_api_Expr]), (1, .one (.int .i64))], []⟩),
 (41, ⟨[(0, .agg [.int .i64, .int .i64, .list T_api_Expr])], []⟩),
 (42, ⟨[(0, .one (.ptrC 0 0 0)), (1, .agg [.int .i64, .int .i64, .list T_api_Expr])], [.var 59 [.one (.int .i64), .one (.whole T_uint64 1)], .arr T_uint64 false]⟩),
 (43, ⟨[(0, .one (.int .u64))], []⟩),
 (44, ⟨[(0, .one (.whole T_api_Edge 0)), (1, .fn F_nfa_compareEdges [] [])], [.arr T_api_Edge false]⟩),
 (45, ⟨[(0, .agg [.int .i64, .int .i64, .list T_api_Expr]), (1, .one (.int .i64))], []⟩),
 (46, ⟨[(0, .one (.ptrC 0 0 0)), (1, .agg [.int .i64, .int .i64, .list T_api_Expr])], [.var 67 [.one (.whole T_int 1), .one (.whole T_api_Edge 2)], .arr T_int false, .arr T_api_Edge false]⟩),
 (47, ⟨[(0, .one (.ptrC 0 0 0)), (1, .one (.int .u64)), (2, .one (.int .u64))], [.var 67 [.one (.whole T_int 1), .one (.whole T_api_Edge 2)], .arr T_int false, .arr T_api_Edge false]⟩),
 (48, ⟨[(0, .one (.list T_api_Edge))], []⟩),
 (49, ⟨[(0, .one (.int .u64)), (1, .one (.int .i64))], []⟩),
 (50, ⟨[(0, .one (.int .i64))], []⟩),
 (51, ⟨[(0, .one (.str)), (1, .one (.int .i64))], []⟩),
 (52, ⟨[(0, .agg [.int .i64, .int .i64, .int .u64, .int .u64, .list T_api_Edge])], []⟩),
 (53, ⟨[(0, .one (.list T_uint64)), (1, .one (.int .u64))], []⟩),
 (54, ⟨[(0, .one (.str)), (1, .one (.int .i64))], []⟩),
 (55, ⟨[(0, .one (.list T_uint64))], []⟩),
 (57, ⟨[(0, .one (.list T_int))], []⟩),
 (58, ⟨[(0, .one (.int .i64)), (1, .one (.int .i64))], []⟩),
 (59, ⟨[(0, .agg [.int .i64, .int .i64, .list T_api_Expr]), (1, .one (.int .i64))], []⟩),
 (60, ⟨[(0, .agg [.int .i64, .int .i64, .list T_api_Expr])], []⟩),
 (61, ⟨[(0, .one (.ptrC 0 0 0)), (1, .one (.int .u64)), (2, .one (.int .u64))], [.var 59 [.one (.int .i64), .one (.whole T_uint64 1)], .arr T_uint64 false]⟩),
 (62, ⟨[(0, .one (.int .u64))], []⟩),
 (63, ⟨[(0, .one (.whole T_api_Edge 0)), (1, .one (.int .i64)), (2, .one (.int .i64)), (3, .one (.int .i64)), (4, .fn F_nfa_compareEdges [] [])], [.arr T_api_Edge false]⟩),
 (64, ⟨[(0, .one (.int .u64))], []⟩),
 (65, ⟨[(0, .agg [.int .i64, .int .i64, .list T_api_Expr]), (1, .one (.int .i64))], []⟩),
 (66, ⟨[(0, .agg [.int .i64, .int .i64, .list T_api_Expr]), (1, .one (.int .i64))], []⟩),
 (67, ⟨[(0, .one (.int .u64))], []⟩),
 (68, ⟨[(0, .one (.list T_uint64))], []⟩),
 (69, ⟨[(0, .one (.int .i64))], []⟩),
 (70, ⟨[(0, .one (.int .i64))], []⟩),
 (71, ⟨[(0, .agg [.int .i64, .int .i64, .list T_api_Expr])], []⟩),
 (72, ⟨[(0, .agg [.int .i64, .int .i64, .list T_api_Expr]), (1, .one (.int .i64))], []⟩),
 (73, ⟨[(0, .one (.list T_api_Expr)), (1, .fn F_nfa_hasBoolean [] [])], []⟩),
 (74, ⟨[(0, .one (.whole T_api_Edge 0)), (1, .one (.int .i64)), (2, .one (.int .i64)), (3, .fn F_nfa_compareEdges [] [])], [.arr T_api_Edge false]⟩),
 (75, ⟨[(0, .one (.whole T_api_Edge 0)), (1, .one (.int .i64)), (2, .one (.int .i64)), (3, .fn F_nfa_compareEdges [] [])], [.arr T_api_Edge false]⟩),
 (76, ⟨[(0, .one (.whole T_api_Edge 0)), (1, .one (.int .i64)), (2, .one (.int .i64)), (3, .fn F_nfa_compareEdges [] [])], [.arr T_api_Edge false]⟩),
 (77, ⟨[(0, .one (.list T_api_Edge)), (1, .one (.int .i64)), (2, .one (.int .i64)), (3, .fn F_nfa_compareEdges [] [])], []⟩),
 (78, ⟨[(0, .one (.whole T_api_Edge 0)), (1, .one (.int .i64)), (2, .one (.int .i64)), (3, .fn F_nfa_compareEdges [] [])], [.arr T_api_Edge false]⟩),
 (79, ⟨[(0, .one (.whole T_api_Edge 0)), (1, .one (.int .i64)), (2, .one (.int .i64)), (3, .fn F_nfa_compareEdges [] [])], [.arr T_api_Edge false]⟩),
 (80, ⟨[(0, .one (.whole T_api_Edge 0)), (1, .one (.int .i64)), (2, .one (.int .i64)), (3, .one (.int .i64)), (4, .fn F_nfa_compareEdges [] [])], [.arr T_api_Edge false]⟩),
 (81, ⟨[(0, .one (.whole T_api_Edge 0)), (1, .one (.int .i64)), (2, .one (.int .i64)), (3, .one (.int .i64)), (4, .fn F_nfa_compareEdges [] [])], [.arr T_api_Edge false]⟩),
 (83, ⟨[(0, .one (.int .u64))], []⟩),
 (84, ⟨[(0, .agg [.int .i64, .int .i64, .list T_api_Expr])], []⟩),
 (85, ⟨[(0, .agg [.int .i64, .int .i64, .list T_api_Expr]), (1, .one (.int .i64))], []⟩),
 (86, ⟨[(0, .agg [.int .i64, .int .i64, .list T_api_Expr]), (1, .one (.int .i64)), (2, .one (.ptrC 0 0 0))], [.var 3 [.one (.int .i64)]]⟩),
 (87, ⟨[(0, .one (.list T_api_Expr)), (1, .fn F_nfa_hasBoolean [] [])], []⟩),
 (88, ⟨[(0, .one (.whole T_api_Edge 0)), (1, .one (.int .i64)), (2, .one (.int .i64)), (3, .one (.int .i64)), (4, .fn F_nfa_compareEdges [] [])], [.arr T_api_Edge false]⟩),
 (89, ⟨[(0, .one (.int .i64))], []⟩),
 (90, ⟨[(0, .one (.ptrC 0 0 0))], [.var 104 [.one (.int .u64)]]⟩),
 (91, ⟨[(0, .one (.list T_api_Edge)), (1, .one (.int .i64)), (2, .one (.ptrC 0 0 0)), (3, .fn F_nfa_compareEdges [] [])], [.var 3 [.one (.int .i64)]]⟩),
 (92, ⟨[(0, .one (.list T_api_Edge)), (1, .one (.int .i64)), (2, .one (.int .i64)), (3, .one (.int .i64)), (4, .one (.ptrC 0 0 0)), (5, .fn F_nfa_compareEdges [] [])], [.var 3 [.one (.int .i64)]]⟩),
 (93, ⟨[(0, .agg [.int .i64, .int .i64, .list T_api_Expr]), (1, .one (.int .i64))], []⟩),
 (94, ⟨[(0, .one (.list T_api_Edge)), (1, .one (.int .i64)), (2, .one (.int .i64)), (3, .one (.ptrC 0 0 0)), (4, .fn F_nfa_compareEdges [] [])], [.var 3 [.one (.int .i64)]]⟩)]
def annSout : List (Nat × Shape) := [(3, ⟨[(0, .one (.bool))], []⟩),
 (4, ⟨[(0, .one (.bool))], []⟩),
 (5, ⟨[(0, .one (.bool))], []⟩),
 (6, ⟨[(0, .one (.bool))], []⟩),
 (7, ⟨[(0, .one (.bool))], []⟩),
 (8, ⟨[(0, .one (.bool))], []⟩),
 (9, ⟨[(0, .one (.bool))], []⟩),
 (10, ⟨[(0, .one (.bool))], []⟩),
 (11, ⟨[(0, .one (.int .i64))], []⟩),
 (12, ⟨[(0, .one (.int .i64))], []⟩),
 (13, ⟨[(0, .one (.bool))], []⟩),
 (14, ⟨[(0, .agg [.int .i64, .int .i64, .int .u64, .int .u64, .whole T_api_Edge 0]), (1, .one (.int .i64))], [.arr T_api_Edge false]⟩),
 (15, ⟨[(0, .agg [.int .i64, .int .i64, .int .u64, .int .u64, .whole T_api_Edge 0]), (1, .one (.int .i64))], [.arr T_api_Edge false]⟩),
 (16, ⟨[(0, .one (.bool))], []⟩),
 (17, ⟨[(0, .one (.int .i64))], []⟩),
 (18, ⟨[(0, .one (.int .u64))], []⟩),
 (19, ⟨[(0, .one (.bool))], []⟩),
 (20, ⟨[(0, .one (.int .u64))], []⟩),
 (21, ⟨[(0, .one (.int .u64))], []⟩),
 (22, ⟨[(0, .one (.bool))], []⟩),
 (23, ⟨[(0, .one (.int .i64))], []⟩),
 (24, ⟨[(0, .one (.bool))], []⟩),
 (25, ⟨[(0, .one (.int .i64))], []⟩),
 (26, ⟨[(0, .agg [.int .i64, .int .i64, .int .u64, .int .u64, .whole T_api_Edge 0])], [.arr T_api_Edge false]⟩),
 (27, ⟨[(0, .agg [.int .i64, .int .i64, .int .u64, .int .u64, .whole T_api_Edge 0])], [.arr T_api_Edge false]⟩),
 (28, ⟨[(0, .one (.str))], []⟩),
 (29, ⟨[(0, .one (.int .u64))], []⟩),
 (30, ⟨[(0, .one (.int .u64))], []⟩),
 (31, ⟨[(0, .one (.int .u64))], []⟩),
 (32, ⟨[(0, .one (.int .u64))], []⟩),
 (33, ⟨[(0, .agg [.int .i64, .int .i64, .int .u64, .int .u64, .whole T_api_Edge 0]), (1, .one (.int .i64))], [.arr T_api_Edge false]⟩),
 (34, ⟨[(0, .agg [.int .i64, .int .i64, .int .u64, .int .u64, .whole T_api_Edge 0]), (1, .one (.int .i64))], [.arr T_api_Edge false]⟩),
 (35, ⟨[(0, .one (.int .u64))], []⟩),
 (36, ⟨[(0, .one (.int .i64))], []⟩),
 (37, ⟨[(0, .one (.bool))], []⟩),
 (38, ⟨[(0, .one (.bool))], []⟩),
 (39, ⟨[(0, .agg [.int .i64, .int .i64, .whole T_api_Expr 0])], [.arr T_api_Expr false]⟩),
 (40, ⟨[(0, .one (.int .i64))], []⟩),
 (41, ⟨[(0, .one (.whole T_int 0))], [.arr T_int false]⟩),
 (42, ⟨[(0, .agg [.int .u64, .int .u64, .bool])], [.var 59 [.one (.int .i64), .one (.whole T_uint64 2)], .dead, .arr T_uint64 false]⟩),
 (43, ⟨[(0, .one (.whole T_int 0))], [.arr T_int false]⟩),
 (44, ⟨[], [.arr T_api_Edge false]⟩),
 (45, ⟨[(0, .one (.int .i64))], []⟩),
 (46, ⟨[(0, .agg [.int .u64, .int .u64, .bool])], [.var 67 [.one (.whole T_int 3), .one (.whole T_api_Edge 4)], .dead, .dead, .arr T_int false, .arr T_api_Edge false]⟩),
 (47, ⟨[], [.var 67 [.one (.whole T_int 3), .one (.whole T_api_Edge 4)], .dead, .dead, .arr T_int false, .arr T_api_Edge false]⟩),
 (48, ⟨[(0, .one (.whole T_api_Edge 0))], [.arr T_api_Edge false]⟩),
 (49, ⟨[(0, .one (.bool))], []⟩),
 (50, ⟨[(0, .one (.int .u64))], []⟩),
 (51, ⟨[(0, .one (.bool))], []⟩),
 (52, ⟨[(0, .one (.list T_l_uint64))], []⟩),
 (53, ⟨[(0, .one (.int .u64))], []⟩),
 (54, ⟨[(0, .one (.bool))], []⟩),
 (55, ⟨[(0, .one (.whole T_uint64 0))], [.arr T_uint64 false]⟩),
 (57, ⟨[(0, .one (.int .i64))], []⟩),
 (58, ⟨[(0, .one (.int .i64))], []⟩),
 (59, ⟨[(0, .one (.int .i64))], []⟩),
 (60, ⟨[(0, .one (.bool))], []⟩),
 (61, ⟨[], [.var 59 [.one (.int .i64), .one (.whole T_uint64 2)], .dead, .arr T_uint64 false]⟩),
 (62, ⟨[(0, .one (.int .i64))], []⟩),
 (63, ⟨[], [.arr T_api_Edge false]⟩),
 (64, ⟨[(0, .one (.int .i64))], []⟩),
 (65, ⟨[(0, .one (.int .i64))], []⟩),
 (66, ⟨[(0, .one (.bool))], []⟩),
 (67, ⟨[(0, .one (.whole T_int 0))], [.arr T_int false]⟩),
 (68, ⟨[(0, .one (.bool))], []⟩),
 (69, ⟨[(0, .one (.int .u64))], []⟩),
 (70, ⟨[(0, .one (.bool))], []⟩),
 (71, ⟨[(0, .one (.bool))], []⟩),
 (72, ⟨[(0, .one (.bool))], []⟩),
 (73, ⟨[(0, .one (.bool))], []⟩),
 (74, ⟨[], [.arr T_api_Edge false]⟩),
 (75, ⟨[], [.arr T_api_Edge false]⟩),
 (76, ⟨[], [.arr T_api_Edge false]⟩),
 (77, ⟨[(0, .one (.int .i64)), (1, .one (.int .i64))], []⟩),
 (78, ⟨[], [.arr T_api_Edge false]⟩),
 (79, ⟨[(0, .one (.bool))], [.arr T_api_Edge false]⟩),
 (80, ⟨[(0, .one (.int .i64))], [.arr T_api_Edge false]⟩),
 (81, ⟨[(0, .one (.int .i64)), (1, .one (.bool))], [.arr T_api_Edge false]⟩),
 (83, ⟨[(0, .one (.int .i64))], []⟩),
 (84, ⟨[(0, .one (.bool))], []⟩),
 (85, ⟨[(0, .one (.bool))], []⟩),
 (86, ⟨[(0, .one (.bool))], [.var 3 [.one (.int .i64)]]⟩),
 (87, ⟨[(0, .one (.int .i64))], []⟩),
 (88, ⟨[], [.arr T_api_Edge false]⟩),
 (89, ⟨[(0, .one (.int .u64))], []⟩),
 (90, ⟨[(0, .one (.int .u64))], [.var 104 [.one (.int .u64)]]⟩),
 (91, ⟨[(0, .one (.int .i64))], [.var 3 [.one (.int .i64)]]⟩),
 (92, ⟨[(0, .one (.int .i64))], [.var 3 [.one (.int .i64)]]⟩),
 (93, ⟨[(0, .one (.int .i64)), (1, .one (.int .i64))], []⟩),
 (94, ⟨[(0, .one (.int .i64)), (1, .one (.int .i64))], [.var 3 [.one (.int .i64)]]⟩)]
def annAlt : List (Nat × Shape) := []
def annLive : List (Nat × List (Nat × List Nat)) := [(3, [(0, [1]), (1, [2])]),
 (4, [(0, [1, 2]), (1, [1, 2, 5, 6]), (2, [5, 6, 7, 8]), (3, [4])]),
 (5, [(0, [1, 2]), (1, [2, 5, 6]), (2, [2, 5, 16]), (3, [4]), (4, [2, 5, 19, 20, 21]), (5, [2, 5, 19, 20, 21, 22]), (6, [2, 5, 8, 19, 20, 21]), (7, [2, 5, 19, 20, 21, 34]), (8, [4]), (9, [2, 5, 19, 20, 21]), (10, [4])]),
 (6, [(0, [1, 2, 3]), (1, [1, 2, 3, 7]), (2, [1, 2, 3, 7, 24]), (3, [6]), (4, [6])]),
 (7, [(0, [1, 2]), (1, [1, 2, 5, 6]), (2, [1, 2, 5, 6, 15]), (3, [4]), (4, [4])]),
 (8, [(0, [1, 2]), (1, [1, 2, 5]), (2, [1, 2, 5, 10]), (3, [4]), (4, [1, 2, 5, 19]), (5, [1, 2, 5]), (6, [4])]),
 (9, [(0, [1]), (1, [1, 3, 4]), (2, [1, 3, 4, 11]), (3, [2]), (4, [2])]),
 (10, [(0, [2, 3, 4]), (1, [2, 3, 4, 7, 8]), (2, [2, 3, 4, 7, 8, 9, 10]), (3, [2, 3, 4, 7, 8, 31]), (4, [6]), (5, [2, 3, 4, 7, 33]), (6, [6]), (7, [2, 3, 4, 7, 37]), (8, [2, 3, 4, 7]), (9, [6])]),
 (11, [(0, [1]), (1, [1, 22]), (2, [2]), (3, [1, 32]), (4, [2]), (5, [1, 34, 35, 36]), (6, [1, 34, 35, 36, 37]), (7, [1, 3, 4, 34, 35, 36]), (8, [1, 3, 4, 34, 35, 36, 65]), (9, [2]), (10, [1, 34, 35, 36, 88]), (11, [2]), (12, [1, 34, 35, 36]), (13, [2])]),
 (12, [(0, [1]), (1, [1, 19]), (2, [2]), (3, [1, 3]), (4, [1, 36]), (5, [2]), (6, [1, 38, 39, 40]), (7, [1, 38, 39, 40, 41]), (8, [1, 4, 5, 38, 39, 40]), (9, [1, 38, 39, 40, 93]), (10, [2]), (11, [1, 38, 39, 40]), (12, [2])]),
 (13, [(0, []), (1, [1, 2]), (2, [0])]),
 (14, [(0, [1, 2, 4]), (1, [1, 2, 4, 6]), (2, [1, 2, 4, 6, 19]), (3, [4, 5]), (4, [1, 2, 4, 7]), (5, [1, 2, 4, 7, 28]), (6, [4, 5]), (7, [1, 2, 4, 7, 8]), (8, [1, 4, 7, 8, 9]), (9, [1, 4, 7, 8, 9]), (10, [4, 7, 8, 9, 10]), (11, [4, 7, 8, 10, 48]), (12, [4, 7, 8, 10]), (13, [4, 7, 10, 54, 55, 56]), (14, [4, 7, 10, 54, 55, 56, 57]), (15, [4, 7, 10, 11, 12, 54, 55, 56]), (16, [4, 7, 10, 11, 54, 55, 56, 62, 63, 64]), (17, [4, 7, 10, 11, 54, 55, 56, 62, 63, 64, 65]), (18, [4, 7, 10, 11, 14, 54, 55, 56, 62, 63, 64]), (19, [4, 7, 10, 11, 54, 55, 56, 62, 63, 64]), (20, [4, 7, 10, 11, 54, 55, 56, 62, 63, 64]), (21, [4, 7, 10, 54, 55, 56]), (22, [4, 10]), (23, [4, 5])]),
 (15, [(0, [1, 2, 4]), (1, [1, 2, 4, 6]), (2, [1, 2, 4, 6, 14]), (3, [4, 5]), (4, [1, 2, 4, 20]), (5, [4, 5]), (6, [1, 2, 4, 7]), (7, [1, 4, 7, 8]), (8, [1, 4, 7, 8]), (9, [4, 8, 9]), (10, [4, 9, 47]), (11, [4, 9]), (12, [4, 5])]),
 (16, [(0, [2, 3]), (1, [2, 3, 40]), (2, [4]), (3, [2, 3, 43, 44]), (4, [2, 3, 43, 44, 45]), (5, [2, 3, 5, 43, 44]), (6, [2, 3, 43, 44, 57]), (7, [4]), (8, [2, 3, 43, 44]), (9, [4])]),
 (17, [(0, [1]), (1, [1, 3]), (2, [1, 3, 8]), (3, [1, 3]), (4, [3, 10, 11, 12]), (5, [3, 10, 11, 12, 13]), (6, [3, 5, 10, 11, 12]), (7, [3, 10, 11, 12]), (8, [3, 10, 11, 12]), (9, [2])]),
 (18, [(0, [1, 2, 3]), (1, [1, 2, 3, 22]), (2, [6]), (3, [1, 2, 3, 7]), (4, [1, 2, 7, 24, 25, 26]), (5, [1, 2, 7, 24, 25, 26, 27]), (6, [1, 2, 7, 9, 24, 25, 26]), (7, [1, 2, 7, 9, 24, 25, 26, 41]), (8, [1, 2, 7, 24, 25, 26]), (9, [1, 2, 7, 24, 25, 26]), (10, [6])]),
 (19, [(0, [1]), (1, [2])]),
 (20, [(0, [1, 2, 3]), (1, [1, 2, 3, 7]), (2, [1, 2, 7, 11, 12, 13]), (3, [1, 2, 7, 11, 12, 13, 14]), (4, [1, 2, 7, 9, 11, 12, 13]), (5, [1, 2, 7, 9, 11, 12, 13, 26]), (6, [1, 2, 7, 11, 12, 13]), (7, [1, 2, 7, 11, 12, 13]), (8, [6])]),
 (21, [(0, [0]), (1, [0, 4]), (2, [2]), (3, [2])]),
 (22, [(0, [1, 2]), (1, [1, 2, 17]), (2, [4]), (3, [1, 2, 5, 6]), (4, [1, 2, 5, 6, 23, 24]), (5, [1, 2, 5, 6, 23, 24, 25]), (6, [1, 2, 5, 6, 7, 23, 24]), (7, [1, 2, 5, 6, 23, 24]), (8, [1, 2, 5, 6, 23, 24]), (9, [4])]),
 (23, [(0, [1, 2]), (1, [1, 2, 24]), (2, [4]), (3, [1, 2, 5]), (4, [1, 2, 5, 30, 31, 32]), (5, [1, 2, 5, 30, 31, 32, 33]), (6, [1, 2, 5, 7, 30, 31, 32]), (7, [1, 2, 5, 30, 31, 32]), (8, [1, 2, 5, 30, 31, 32]), (9, [1, 2, 5, 41, 42]), (10, [1, 2, 5, 41, 42, 43]), (11, [1, 2, 5, 8, 41, 42]), (12, [1, 2, 5, 8, 9, 41, 42]), (13, [1, 2, 5, 8, 9, 41, 42, 49, 50, 51]), (14, [1, 2, 5, 8, 9, 41, 42, 49, 50, 51, 52]), (15, [1, 2, 5, 8, 9, 11, 41, 42, 49, 50, 51]), (16, [1, 2, 5, 8, 9, 11, 41, 42, 49, 50, 51, 62]), (17, [1, 2, 5, 8, 9, 41, 42, 49, 50, 51]), (18, [1, 2, 5, 8, 9, 41, 42, 49, 50, 51]), (19, [1, 2, 5, 41, 42]), (20, [1, 2, 5, 41, 42]), (21, [2, 5, 12]), (22, [5, 12, 84, 85, 86]), (23, [5, 12, 84, 85, 86, 87]), (24, [5, 12, 14, 84, 85, 86]), (25, [5, 12, 84, 85, 86]), (26, [5, 12, 84, 85, 86]), (27, [4])]),
 (24, [(0, [1, 2]), (1, [1, 2, 11]), (2, [4]), (3, [1, 2, 5]), (4, [1, 2, 5, 6]), (5, [1, 2, 5, 6, 17]), (6, [1, 2, 5, 6]), (7, [1, 2, 5, 6]), (8, [4])]),
 (25, [(0, [1, 2]), (1, [1, 2, 17]), (2, [4]), (3, [1, 2, 5]), (4, [1, 2, 5, 22, 23]), (5, [1, 2, 5, 22, 23, 24]), (6, [1, 2, 5, 6, 22, 23]), (7, [1, 2, 5, 6, 22, 23, 29]), (8, [1, 2, 5, 22, 23]), (9, [1, 2, 5, 22, 23]), (10, [1, 2, 5, 7]), (11, [1, 2, 5, 7, 37]), (12, [1, 2, 5, 7]), (13, [1, 2, 5, 7, 8]), (14, [1, 2, 5, 7, 8, 44, 45, 46]), (15, [1, 2, 5, 7, 8, 44, 45, 46, 47]), (16, [1, 2, 5, 7, 8, 10, 44, 45, 46]), (17, [1, 2, 5, 7, 8, 10, 44, 45, 46, 57]), (18, [1, 2, 5, 7, 8, 44, 45, 46]), (19, [1, 2, 5, 7, 8, 44, 45, 46]), (20, [1, 2, 5, 7]), (21, [2, 5, 11]), (22, [2, 5, 11, 77, 78]), (23, [2, 5, 11, 77, 78, 79]), (24, [2, 5, 11, 12, 77, 78]), (25, [2, 5, 11, 12, 77, 78, 84]), (26, [2, 5, 11, 77, 78]), (27, [2, 5, 11, 77, 78]), (28, [4])]),
 (26, [(0, [1, 2]), (1, [1, 2, 8]), (2, [2]), (3, [1, 2, 3]), (4, [2, 3, 20, 21, 22]), (5, [2, 3, 20, 21, 22, 23]), (6, [2, 3, 5, 20, 21, 22]), (7, [2, 3, 20, 21, 22]), (8, [2, 3, 20, 21, 22]), (9, [2, 3]), (10, [2])]),
 (27, [(0, [1, 2]), (1, [1, 2, 3]), (2, [1, 2, 3, 7, 8, 9]), (3, [1, 2, 3, 7, 8, 9, 10]), (4, [1, 2, 3, 5, 7, 8, 9]), (5, [1, 2, 3, 7, 8, 9]), (6, [1, 2, 3, 7, 8, 9]), (7, [2])]),
 (28, [(0, [0]), (1, [0, 3]), (2, [0, 3, 4]), (3, [0, 3, 4, 11]), (4, [0, 3, 4]), (5, [0, 3, 4]), (6, [2])]),
 (29, [(0, [1]), (1, [1, 8]), (2, [2]), (3, [1, 3]), (4, [1, 3, 13, 14, 15]), (5, [1, 3, 13, 14, 15, 16]), (6, [1, 3, 5, 13, 14, 15]), (7, [1, 3, 13, 14, 15]), (8, [1, 3, 13, 14, 15]), (9, [2])]),
 (30, [(0, [1]), (1, [2])]),
 (31, [(0, [1]), (1, [1, 3]), (2, [1, 3, 4]), (3, [1, 3, 4, 11]), (4, [1, 3, 4]), (5, [1, 3, 4, 5]), (6, [1, 3, 4, 5, 17]), (7, [1, 3, 4, 5]), (8, [1, 3, 4, 5]), (9, [2])]),
 (32, [(0, [1]), (1, [2])]),
 (33, [(0, [2, 3, 4]), (1, [2, 3, 4, 6]), (2, [2, 3, 4, 6, 14]), (3, [4, 5]), (4, [2, 3, 4, 7]), (5, [2, 3, 4, 7, 20]), (6, [4, 5]), (7, [2, 3, 4, 27]), (8, [4, 5]), (9, [2, 3, 4, 34]), (10, [4, 5]), (11, [2, 3, 4, 8]), (12, [2, 4, 8, 64, 65, 66]), (13, [2, 4, 8, 64, 65, 66, 67]), (14, [2, 4, 8, 10, 64, 65, 66]), (15, [2, 4, 8, 64, 65, 66]), (16, [2, 4, 8, 64, 65, 66]), (17, [4, 5])]),
 (34, [(0, [2, 3, 4]), (1, [2, 3, 4, 6]), (2, [2, 3, 4, 6, 14]), (3, [4, 5]), (4, [2, 3, 4, 7]), (5, [2, 3, 4, 7, 20]), (6, [4, 5]), (7, [2, 3, 4, 27]), (8, [4, 5]), (9, [2, 3, 4, 34]), (10, [4, 5]), (11, [2, 3, 4, 8]), (12, [2, 3, 4, 8]), (13, [2, 4, 8, 69, 70, 71]), (14, [2, 4, 8, 69, 70, 71, 72]), (15, [2, 4, 8, 10, 69, 70, 71]), (16, [2, 4, 8, 69, 70, 71]), (17, [2, 4, 8, 69, 70, 71]), (18, [4, 5])]),
 (35, [(0, [0]), (1, [2])]),
 (36, [(0, [2, 3]), (1, [4])]),
 (37, [(0, [0]), (1, [2])]),
 (38, [(0, [2, 3]), (1, [2, 3, 9]), (2, [4]), (3, [2, 3, 19]), (4, [4]), (5, [4])]),
 (39, [(0, [0]), (1, [0, 1, 2]), (2, [0])]),
 (40, [(0, [1, 2]), (1, [2, 5]), (2, [2, 5, 10]), (3, [4]), (4, [13]), (5, [4]), (6, [4])]),
 (41, [(0, [1]), (1, [1, 8]), (2, [2]), (3, [1, 3]), (4, [3, 13, 14, 15]), (5, [3, 13, 14, 15, 16]), (6, [3, 5, 13, 14, 15]), (7, [3, 13, 14, 15]), (8, [3, 13, 14, 15]), (9, [2])]),
 (42, [(0, [0, 3, 4]), (1, [0, 3, 4, 15]), (2, [0, 3, 4, 15, 16]), (3, [4]), (4, [0, 3, 4, 15, 19]), (5, [0, 4]), (6, [4]), (7, [0, 3, 4, 15, 39]), (8, [0, 3, 4, 5]), (9, [0, 4, 5, 42, 43, 44]), (10, [0, 4, 5, 42, 43, 44, 45]), (11, [0, 4, 5, 7, 42, 43, 44]), (12, [0, 4, 5, 8, 42, 43, 44]), (13, [0, 4, 5, 42, 43, 44]), (14, [0, 4, 5, 42, 43, 44]), (15, [4]), (16, [0, 3, 4, 15, 70]), (17, [0, 3, 4, 9]), (18, [0, 4, 9, 74, 75, 76]), (19, [0, 4, 9, 74, 75, 76, 77]), (20, [0, 4, 9, 11, 74, 75, 76]), (21, [0, 4, 9, 12, 74, 75, 76]), (22, [0, 4, 9, 12, 74, 75, 76]), (23, [0, 4, 9, 12, 74, 75, 76, 90]), (24, [0, 4, 9, 12, 74, 75, 76]), (25, [0, 4, 9, 12, 74, 75, 76, 99]), (26, [0, 4, 9, 12, 74, 75, 76]), (27, [0, 4, 9, 12, 74, 75, 76]), (28, [0, 4, 9, 74, 75, 76]), (29, [0, 4, 9, 74, 75, 76]), (30, [4]), (31, [0, 3, 4, 116]), (32, [0, 4, 13]), (33, [4, 13]), (34, [4, 13]), (35, [4]), (36, [4])]),
 (43, [(0, [0]), (1, [0, 3]), (2, [0, 3, 5]), (3, [0, 3]), (4, [0, 3]), (5, [2])]),
 (44, [(0, [0, 1, 4]), (1, [])]),
 (45, [(0, [1, 2]), (1, [2, 5]), (2, [2, 5, 10]), (3, [4]), (4, [17]), (5, [4]), (6, [4])]),
 (46, [(0, [0, 3, 4]), (1, [0, 3, 4, 16]), (2, [0, 3, 4, 16, 17]), (3, [4]), (4, [0, 3, 4, 16, 20]), (5, [0, 4]), (6, [4, 5]), (7, [4]), (8, [0, 3, 4, 16, 43]), (9, [0, 3, 4, 6]), (10, [0, 4, 6, 47, 48, 49]), (11, [0, 4, 6, 47, 48, 49, 50]), (12, [0, 4, 6, 8, 47, 48, 49]), (13, [0, 4, 6, 9, 47, 48, 49]), (14, [0, 4, 6, 47, 48, 49]), (15, [0, 4, 6, 47, 48, 49]), (16, [4]), (17, [0, 3, 4, 16, 75]), (18, [0, 4, 10]), (19, [4, 10]), (20, [4]), (21, [0, 3, 4, 94]), (22, [0, 3, 4, 11]), (23, [0, 4, 11, 98, 99, 100]), (24, [0, 4, 11, 98, 99, 100, 101]), (25, [0, 4, 11, 13, 98, 99, 100]), (26, [0, 4, 11, 14, 98, 99, 100]), (27, [0, 4, 11, 14, 98, 99, 100]), (28, [0, 4, 11, 14, 98, 99, 100, 114]), (29, [0, 4, 11, 14, 98, 99, 100]), (30, [0, 4, 11, 14, 98, 99, 100, 122]), (31, [0, 4, 11, 14, 98, 99, 100]), (32, [0, 4, 11, 14, 98, 99, 100]), (33, [0, 4, 11, 98, 99, 100]), (34, [0, 4, 11, 98, 99, 100]), (35, [4]), (36, [4])]),
 (47, [(0, [0, 2, 11, 12, 13]), (1, [0, 2, 11, 12, 13, 14]), (2, [0, 2, 7, 11, 12, 13]), (3, [0, 2, 7, 11, 12, 13, 18, 19, 20]), (4, [0, 2, 7, 11, 12, 13, 18, 19, 20, 21]), (5, [0, 2, 7, 9, 11, 12, 13, 18, 19, 20]), (6, [0, 2, 7, 11, 12, 13, 18, 19, 20]), (7, [0, 2, 7, 11, 12, 13, 18, 19, 20]), (8, [0, 2, 11, 12, 13])]),
 (48, [(0, [0]), (1, [0, 3]), (2, [3, 7, 8, 9]), (3, [3, 7, 8, 9, 10]), (4, [3, 5, 7, 8, 9]), (5, [3, 5, 6, 7, 8, 9]), (6, [3, 5, 6, 7, 8, 9, 25]), (7, [3, 5, 6, 7, 8, 9]), (8, [3, 5, 6, 7, 8, 9, 38]), (9, [3, 7, 8, 9]), (10, [3, 7, 8, 9]), (11, [2])]),
 (49, [(0, [0, 1]), (1, [4])]),
 (50, [(0, [0]), (1, [2])]),
 (51, [(0, [0, 1]), (1, [0, 1, 16]), (2, [4]), (3, [0, 1, 18, 19]), (4, [0, 1, 18, 19, 20]), (5, [0, 1, 5, 18, 19]), (6, [0, 1, 18, 19, 34]), (7, [4]), (8, [0, 1, 18, 19]), (9, [4])]),
 (52, [(0, [1]), (1, [1, 3]), (2, [1, 3, 11, 12]), (3, [1, 3, 11, 12, 13]), (4, [1, 3, 4, 11, 12]), (5, [1, 3, 11, 12]), (6, [1, 3, 11, 12]), (7, [3, 23, 24, 25]), (8, [3, 23, 24, 25, 26]), (9, [3, 6, 23, 24, 25]), (10, [3, 23, 24, 25]), (11, [3, 23, 24, 25]), (12, [2])]),
 (53, [(0, [0, 1]), (1, [0, 1, 10]), (2, [4]), (3, [0, 1, 5]), (4, [0, 5, 16, 17, 18]), (5, [0, 5, 16, 17, 18, 19]), (6, [0, 5, 7, 16, 17, 18]), (7, [0, 5, 16, 17, 18]), (8, [0, 5, 16, 17, 18]), (9, [4])]),
 (54, [(0, [0, 1]), (1, [0, 1, 13]), (2, [4]), (3, [0, 1, 5]), (4, [0, 1, 5, 17]), (5, [0, 1, 5]), (6, [0, 1, 5, 32]), (7, [4]), (8, [4])]),
 (55, [(0, [0]), (1, [0, 10]), (2, [2]), (3, [0, 3]), (4, [3, 14, 15, 16]), (5, [3, 14, 15, 16, 17]), (6, [3, 4, 5, 14, 15, 16]), (7, [3, 14, 15, 16]), (8, [3, 14, 15, 16]), (9, [3, 30, 31]), (10, [3, 30, 31, 32]), (11, [3, 6, 30, 31]), (12, [3, 6, 30, 31, 35, 36]), (13, [3, 6, 30, 31, 35, 36, 37]), (14, [3, 6, 7, 30, 31, 35, 36]), (15, [3, 6, 7, 30, 31, 35, 36, 46]), (16, [3, 6, 30, 31, 35, 36]), (17, [3, 6, 30, 31, 35, 36]), (18, [3, 30, 31]), (19, [2])]),
 (57, [(0, [0]), (1, [0, 3]), (2, [3, 6, 7, 8]), (3, [3, 6, 7, 8, 9]), (4, [3, 5, 6, 7, 8]), (5, [3, 5, 6, 7, 8, 14]), (6, [2]), (7, [3, 6, 7, 8]), (8, [2])]),
 (58, [(0, [0, 1]), (1, [0, 1, 5]), (2, [0, 1, 5, 6]), (3, [0, 1, 6, 11]), (4, [12]), (5, [4]), (6, [4]), (7, [0, 1, 13]), (8, [4]), (9, [0, 1, 16]), (10, [4]), (11, [19]), (12, [4]), (13, [4])]),
 (59, [(0, [1, 2]), (1, [1, 2, 10]), (2, [4]), (3, [1, 2, 13]), (4, [4]), (5, [17]), (6, [4]), (7, [4])]),
 (60, [(0, [1]), (1, [2])]),
 (61, [(0, [0, 2, 9, 10, 11]), (1, [0, 2, 9, 10, 11, 12]), (2, [0, 2, 7, 9, 10, 11]), (3, [0, 2, 9, 10, 11]), (4, [0, 2, 9, 10, 11])]),
 (62, [(0, [0]), (1, [0, 4]), (2, [2]), (3, [2])]),
 (63, [(0, [0, 1, 2, 3, 4, 10]), (1, [0, 1, 2, 3, 4, 10, 11]), (2, [0, 1, 2, 3, 4, 10, 11, 12]), (3, [0, 1, 2, 3, 4, 10, 11, 12, 25]), (4, []), (5, [0, 1, 2, 3, 4, 10, 11, 12, 32]), (6, []), (7, [0, 1, 2, 3, 4, 10, 11, 12, 39]), (8, [0, 1, 2, 3, 4, 10, 11, 12]), (9, [0, 1, 2, 3, 4, 10, 11, 12]), (10, [0, 1, 2, 3, 4, 10, 11, 12, 13, 14]), (11, [0, 1, 2, 3, 4, 10, 11, 12, 13, 14, 56]), (12, [0, 1, 2, 3, 4, 10, 11, 12, 13]), (13, [0, 1, 2, 3, 4, 10, 11, 12, 13]), (14, [0, 1, 2, 3, 4, 10, 11, 12, 13, 14]), (15, [0, 1, 2, 3, 4, 10, 11, 12, 13, 75]), (16, [0, 1, 2, 3, 4, 10, 11, 12, 13, 80]), (17, [0, 1, 2, 3, 4, 10, 11, 12, 13, 97]), (18, [0, 2, 3, 4, 10, 11, 15]), (19, [0, 1, 2, 3, 4, 10, 11]), (20, [0, 1, 2, 3, 4, 12, 16, 17]), (21, [0, 1, 2, 3, 4, 11, 12, 16]), (22, [0, 1, 2, 3, 4, 11, 12, 16, 18, 19]), (23, [0, 1, 2, 3, 4, 11, 16, 18, 19, 20]), (24, [0, 1, 2, 3, 4, 11, 16, 18, 19, 20, 125]), (25, [0, 1, 2, 3, 4, 10, 11, 16]), (26, [0, 2, 3, 4, 10, 11, 16]), (27, [0, 1, 2, 3, 4, 10, 11]), (28, [0, 1, 2, 3, 4, 10, 11, 16]), (29, [0, 1, 3, 4, 10, 11, 16]), (30, [0, 1, 2, 3, 4, 10, 11])]),
 (64, [(0, [0]), (1, [2]), (2, [2])]),
 (65, [(0, [1, 2]), (1, [1, 2, 5]), (2, [4]), (3, [1, 2, 9]), (4, [4]), (5, [13]), (6, [4]), (7, [4])]),
 (66, [(0, [1, 2]), (1, [1, 2, 10]), (2, [4]), (3, [1, 12, 13, 14]), (4, [1, 12, 13, 14, 15]), (5, [1, 6, 12, 13, 14]), (6, [1, 12, 13, 14, 20]), (7, [4]), (8, [1, 12, 13, 14]), (9, [4])]),
 (67, [(0, [0]), (1, [0, 3]), (2, [0, 3, 4]), (3, [0, 3, 4, 6]), (4, [0, 3, 4]), (5, [0, 3, 4, 11]), (6, [0, 3, 4]), (7, [2])]),
 (68, [(0, [0]), (1, [0, 7]), (2, [2]), (3, [0, 8, 9, 10]), (4, [0, 8, 9, 10, 11]), (5, [0, 4, 8, 9, 10]), (6, [0, 8, 9, 10, 19]), (7, [2]), (8, [0, 8, 9, 10]), (9, [2])]),
 (69, [(0, [0]), (1, [2])]),
 (70, [(0, [0]), (1, [2])]),
 (71, [(0, [1]), (1, [1, 3]), (2, [2])]),
 (72, [(0, [1, 2]), (1, [1, 2, 9]), (2, [4]), (3, [1, 2, 27]), (4, [4]), (5, [1, 2, 29]), (6, [4]), (7, [1, 2, 29, 30]), (8, [1, 2, 29, 30]), (9, [4]), (10, [1, 2, 29, 37]), (11, [1, 2, 29, 37]), (12, [1, 2, 29, 37]), (13, [1, 2, 44]), (14, [4]), (15, [1, 2, 29, 45]), (16, [1, 2, 45]), (17, [1, 2, 51]), (18, [4]), (19, [1, 53, 54, 55]), (20, [1, 53, 54, 55, 56]), (21, [1, 6, 53, 54, 55]), (22, [1, 53, 54, 55, 62]), (23, [4]), (24, [1, 53, 54, 55]), (25, [4])]),
 (73, [(0, [0, 1]), (1, [4])]),
 (74, [(0, [0, 1, 2, 3, 8]), (1, [0, 1, 2, 3, 8, 14]), (2, [0, 1, 2, 3, 8]), (3, [0, 1, 2, 3, 8, 9]), (4, [0, 1, 2, 3, 8, 9, 34]), (5, [0, 1, 2, 3, 8, 9]), (6, [0, 1, 2, 3, 8, 9])]),
 (75, [(0, [0, 1, 2, 3, 8]), (1, [0, 1, 2, 3, 8, 9]), (2, [0, 3, 8, 9, 10]), (3, [0, 3, 8, 9, 10, 11]), (4, [0, 3, 8, 9, 10, 11, 21]), (5, [0, 3, 8, 9, 10, 11]), (6, [0, 3, 8, 9, 10, 11]), (7, [0, 3, 8, 9, 12]), (8, [0, 3, 8, 9, 12, 33]), (9, [0, 3, 8, 9, 12]), (10, [0, 3, 8, 9, 12]), (11, [0, 3, 8, 9, 12])]),
 (76, [(0, [0, 1, 8]), (1, [0, 1, 8, 17]), (2, [0, 1, 8, 9]), (3, [0, 1, 8, 9, 10]), (4, [0, 1, 8, 9, 10, 11]), (5, [0, 1, 8, 9, 10, 11, 35]), (6, [0, 1, 8, 9, 10, 11]), (7, [0, 1, 8, 9, 10, 11, 12]), (8, [0, 1, 8, 9, 10, 11, 12, 45]), (9, [0, 1, 8, 9, 10, 11, 12]), (10, [0, 1, 8, 9, 10, 11])]),
 (77, [(0, [0, 1, 2, 3]), (1, [0, 1, 3, 10]), (2, [0, 1, 3, 10, 11]), (3, [0, 1, 3, 10, 11, 12]), (4, [0, 1, 3, 10, 11, 12, 13]), (5, [0, 3, 10, 11, 12, 13, 14]), (6, [0, 3, 10, 11, 12, 13, 14, 34]), (7, [0, 3, 11, 12, 13, 14, 36]), (8, [0, 3, 11, 12, 13, 14]), (9, [0, 3, 11, 12, 13, 14]), (10, [0, 3, 11, 12, 13, 14]), (11, [11, 13]), (12, [13, 55]), (13, [8, 9]), (14, [13, 55, 57]), (15, [8, 9]), (16, [13, 60]), (17, [8, 9])]),
 (78, [(0, [0, 2, 8]), (1, [0, 8, 9]), (2, [0, 8, 9, 15]), (3, [0, 8, 9]), (4, [0, 8, 9]), (5, [0, 8, 9])]),
 (79, [(0, [0, 1, 2, 3]), (1, [0, 1, 2, 3, 9]), (2, [0, 1, 2, 3, 9, 10]), (3, [0, 1, 2, 3, 9, 10, 16]), (4, [0, 1, 2, 3, 9, 10]), (5, [0, 1, 2, 3, 9, 10, 36]), (6, [0, 1, 2, 3, 9, 10]), (7, [0, 1, 2, 3, 9, 10, 41]), (8, [8]), (9, [0, 1, 2, 3, 9, 10, 45]), (10, [8]), (11, [0, 1, 2, 3, 9, 10]), (12, [0, 1, 2, 3, 9, 10, 65]), (13, [0, 1, 2, 3, 9, 10, 11]), (14, [0, 1, 2, 3, 9, 10, 11, 69]), (15, [0, 1, 2, 3, 9, 10, 11]), (16, [0, 1, 2, 3, 9, 10, 11, 84]), (17, [0, 1, 2, 3, 9, 10, 11]), (18, [0, 1, 2, 3, 9, 10, 104]), (19, [0, 1, 2, 3, 9, 10, 12]), (20, [0, 1, 2, 3, 9, 10, 12, 109]), (21, [0, 1, 2, 3, 9, 10, 12]), (22, [0, 1, 2, 3, 9, 10, 12, 124]), (23, [0, 1, 2, 3, 9, 10, 12]), (24, [8])]),
 (80, [(0, [0, 1, 2, 3, 4]), (1, [0, 1, 2, 4]), (2, [0, 1, 4, 11, 12]), (3, [0, 1, 4, 11, 12, 47]), (4, [0, 1, 4, 11, 12]), (5, [0, 1, 4, 11, 12, 65]), (6, [0, 1, 4, 11, 12]), (7, [0, 1, 4, 11, 12, 70]), (8, [0, 1, 4, 11, 12]), (9, [0, 1, 4, 11, 12]), (10, [0, 1, 4, 11, 12]), (11, [10])]),
 (81, [(0, [0, 1, 2, 3, 4]), (1, [0, 1, 2, 4]), (2, [0, 1, 4, 12, 13]), (3, [0, 1, 4, 12, 13, 47]), (4, [0, 1, 4, 12, 13]), (5, [0, 1, 4, 12, 13, 66]), (6, [0, 1, 4, 12, 13]), (7, [0, 1, 4, 12, 13, 71]), (8, [13]), (9, [10, 11]), (10, [0, 1, 4, 12, 13]), (11, [0, 1, 4, 12, 13]), (12, [0, 1, 4, 12, 13]), (13, [0, 1, 4, 12, 13, 120]), (14, [0, 1, 4, 12, 13]), (15, [0, 1, 4, 12, 13, 139]), (16, [0, 1, 4, 12, 13]), (17, [0, 1, 4, 12, 13, 144]), (18, [0, 1, 4, 12, 13]), (19, [0, 1, 4, 12, 13]), (20, [0, 1, 4, 12, 13]), (21, [13]), (22, [10, 11])]),
 (83, [(0, [0, 2]), (1, [0, 2, 4]), (2, [0]), (3, [0, 2]), (4, [0, 2, 8]), (5, [0, 2]), (6, [0, 2]), (7, [0, 2, 14]), (8, [0, 2]), (9, [0, 2]), (10, [2])]),
 (84, [(0, [1]), (1, [3, 4]), (2, [2])]),
 (85, [(0, [1, 2]), (1, [1, 2, 5]), (2, [1, 2, 5, 6]), (3, [1, 2, 5, 6, 20]), (4, [1, 2, 5, 6]), (5, [1, 2, 5, 6, 20, 26]), (6, [1, 2, 5, 6, 20, 26]), (7, [1, 2, 5, 6, 20, 26]), (8, [1, 2, 5, 6]), (9, [1, 2, 5, 6, 20, 32]), (10, [1, 2, 5, 6, 32]), (11, [1, 2, 5, 6]), (12, [1, 2, 5, 6, 39]), (13, [1, 2, 5, 6]), (14, [1, 2, 5, 6]), (15, [1, 2, 5, 6, 7]), (16, [1, 2, 5, 6, 7, 63]), (17, [1, 2, 5, 6, 7]), (18, [1, 2, 5, 6, 7]), (19, [4])]),
 (86, [(0, [1, 2, 3]), (1, [1, 2, 3, 16]), (2, [6]), (3, [1, 2, 3]), (4, [1, 2, 23, 24, 25]), (5, [1, 2, 23, 24, 25, 26]), (6, [1, 2, 8, 23, 24, 25]), (7, [1, 2, 23, 24, 25, 34]), (8, [6]), (9, [1, 2, 23, 24, 25]), (10, [6])]),
 (87, [(0, [0, 1]), (1, [0, 1, 7, 8]), (2, [0, 1, 7, 8, 9]), (3, [0, 1, 5, 7, 8]), (4, [0, 1, 5, 7, 8, 16]), (5, [4]), (6, [0, 1, 7, 8]), (7, [4])]),
 (88, [(0, [0, 2, 3, 4, 10]), (1, [0, 2, 3, 4, 10, 11]), (2, [0, 2, 3, 4, 10, 11, 18]), (3, [0, 2, 3, 4, 10, 11, 40]), (4, [0, 2, 3, 4, 10, 11]), (5, [0, 2, 3, 4, 10, 11, 58]), (6, [0, 2, 3, 4, 11]), (7, [0, 2, 3, 4, 10])]),
 (89, [(0, [0]), (1, [2])]),
 (90, [(0, [0]), (1, [0]), (2, [0]), (3, [0]), (4, [2])]),
 (91, [(0, [0, 1, 2, 3]), (1, [8])]),
 (92, [(0, [0, 1, 2, 3, 4, 5]), (1, [0, 1, 2, 3, 4, 5]), (2, [0, 1, 2, 4, 5]), (3, [2]), (4, [12])]),
 (93, [(0, [1, 2]), (1, [1, 2, 6, 7]), (2, [1, 2, 6, 7, 8]), (3, [1, 2, 6, 7, 8, 20]), (4, [1, 2, 6, 7, 8]), (5, [1, 2, 6, 7, 8, 9, 10]), (6, [1, 2, 6, 7, 8]), (7, [4, 5])]),
 (94, [(0, [0, 1, 2, 3, 4]), (1, [1, 2, 3, 22]), (2, [1, 2]), (3, [10, 11]), (4, [10, 11])])]
def annJoin : List (Nat × List (Nat × List Nat)) := [(3, []),
 (4, []),
 (5, [(16, [2, 5]), (22, [2, 5, 19, 20, 21]), (34, [2, 5, 19, 20, 21])]),
 (6, [(24, [1, 2, 3, 7])]),
 (7, [(15, [1, 2, 5, 6])]),
 (8, [(10, [1, 2, 5]), (19, [1, 2, 5])]),
 (9, [(11, [1, 3, 4])]),
 (10, [(31, [2, 3, 4, 7, 8]), (33, [2, 3, 4, 7]), (37, [2, 3, 4, 7])]),
 (11, [(22, [1]), (32, [1]), (37, [1, 34, 35, 36]), (65, [1, 3, 4, 34, 35, 36]), (88, [1, 34, 35, 36])]),
 (12, [(19, [1]), (36, [1]), (41, [1, 38, 39, 40]), (93, [1, 38, 39, 40])]),
 (13, []),
 (14, [(19, [1, 2, 4]), (28, [1, 2, 4, 7]), (48, [4, 7, 8, 10]), (57, [4, 7, 10, 54, 55, 56]), (65, [4, 7, 10, 11, 54, 55, 56, 62, 63, 64])]),
 (15, [(14, [1, 2, 4]), (20, [1, 2, 4]), (47, [4, 9])]),
 (16, [(40, [2, 3]), (45, [2, 3, 43, 44]), (57, [2, 3, 43, 44])]),
 (17, [(8, [1, 3]), (13, [3, 10, 11, 12])]),
 (18, [(22, [1, 2, 3]), (27, [1, 2, 7, 24, 25, 26]), (41, [1, 2, 7, 24, 25, 26])]),
 (19, []),
 (20, [(14, [1, 2, 7, 11, 12, 13]), (26, [1, 2, 7, 11, 12, 13])]),
 (21, [(4, [0])]),
 (22, [(17, [1, 2]), (25, [1, 2, 5, 6, 23, 24])]),
 (23, [(24, [1, 2]), (33, [1, 2, 5, 30, 31, 32]), (43, [1, 2, 5, 41, 42]), (52, [1, 2, 5, 8, 9, 41, 42, 49, 50, 51]), (62, [1, 2, 5, 8, 9, 41, 42, 49, 50, 51]), (87, [5, 12, 84, 85, 86])]),
 (24, [(11, [1, 2]), (17, [1, 2, 5, 6])]),
 (25, [(17, [1, 2]), (24, [1, 2, 5, 22, 23]), (29, [1, 2, 5, 22, 23]), (37, [1, 2, 5, 7]), (47, [1, 2, 5, 7, 8, 44, 45, 46]), (57, [1, 2, 5, 7, 8, 44, 45, 46]), (79, [2, 5, 11, 77, 78]), (84, [2, 5, 11, 77, 78])]),
 (26, [(8, [1, 2]), (23, [2, 3, 20, 21, 22])]),
 (27, [(10, [1, 2, 3, 7, 8, 9])]),
 (28, [(11, [0, 3, 4])]),
 (29, [(8, [1]), (16, [1, 3, 13, 14, 15])]),
 (30, []),
 (31, [(11, [1, 3, 4]), (17, [1, 3, 4, 5])]),
 (32, []),
 (33, [(14, [2, 3, 4]), (20, [2, 3, 4]), (27, [2, 3, 4]), (34, [2, 3, 4]), (67, [2, 4, 8, 64, 65, 66])]),
 (34, [(14, [2, 3, 4]), (20, [2, 3, 4]), (27, [2, 3, 4]), (34, [2, 3, 4]), (72, [2, 4, 8, 69, 70, 71])]),
 (35, []),
 (36, []),
 (37, []),
 (38, [(9, [2, 3]), (19, [2, 3])]),
 (39, []),
 (40, [(10, [2]), (13, [])]),
 (41, [(8, [1]), (16, [3, 13, 14, 15])]),
 (42, [(16, [4]), (19, [4]), (39, [4]), (45, [0, 4, 5, 42, 43, 44]), (70, [4]), (77, [0, 4, 9, 74, 75, 76]), (90, [0, 4, 9, 12, 74, 75, 76]), (99, [0, 4, 9, 12, 74, 75, 76]), (116, [4])]),
 (43, [(5, [0, 3])]),
 (44, []),
 (45, [(10, [2]), (17, [])]),
 (46, [(17, [4]), (20, [4]), (43, [4]), (50, [0, 4, 6, 47, 48, 49]), (75, [4]), (94, [4]), (101, [0, 4, 11, 98, 99, 100]), (114, [0, 4, 11, 14, 98, 99, 100]), (122, [0, 4, 11, 14, 98, 99, 100])]),
 (47, [(14, [0, 2, 11, 12, 13]), (21, [0, 2, 7, 11, 12, 13, 18, 19, 20])]),
 (48, [(10, [3, 7, 8, 9]), (25, [3, 5, 6, 7, 8, 9]), (38, [3, 7, 8, 9])]),
 (49, []),
 (50, []),
 (51, [(16, [0, 1]), (20, [0, 1, 18, 19]), (34, [0, 1, 18, 19])]),
 (52, [(13, [1, 3, 11, 12]), (26, [3, 23, 24, 25])]),
 (53, [(10, [0, 1]), (19, [0, 5, 16, 17, 18])]),
 (54, [(13, [0, 1]), (17, [0, 1, 5]), (32, [0, 1, 5])]),
 (55, [(10, [0]), (17, [3, 14, 15, 16]), (32, [3, 30, 31]), (37, [3, 6, 30, 31, 35, 36]), (46, [3, 6, 30, 31, 35, 36])]),
 (57, [(9, [3, 6, 7, 8]), (14, [3, 6, 7, 8])]),
 (58, [(11, [0, 1, 6]), (12, []), (13, [0, 1]), (16, [0, 1]), (19, [])]),
 (59, [(10, [1, 2]), (13, [1, 2]), (17, [])]),
 (60, []),
 (61, [(12, [0, 2, 9, 10, 11])]),
 (62, [(4, [0])]),
 (63, [(25, [0, 1, 2, 3, 4, 10, 11, 12]), (32, [0, 1, 2, 3, 4, 10, 11, 12]), (39, [0, 1, 2, 3, 4, 10, 11, 12]), (56, [0, 1, 2, 3, 4, 10, 11, 12, 13, 14]), (75, [0, 1, 2, 3, 4, 10, 11, 12, 13]), (80, [0, 1, 2, 3, 4, 10, 11, 12, 13]), (97, [0, 1, 2, 3, 4, 12, 13]), (125, [0, 1, 2, 3, 4, 10, 11])]),
 (64, []),
 (65, [(5, []), (9, []), (13, [])]),
 (66, [(10, [1, 2]), (15, [1, 12, 13, 14]), (20, [1, 12, 13, 14])]),
 (67, [(6, [0, 3, 4]), (11, [0, 3, 4])]),
 (68, [(7, [0]), (11, [0, 8, 9, 10]), (19, [0, 8, 9, 10])]),
 (69, []),
 (70, []),
 (71, []),
 (72, [(9, [1, 2]), (27, [1, 2]), (30, [1, 2, 29, 30]), (37, [1, 2, 29, 37]), (44, [1, 2]), (45, [1, 2, 45]), (51, [1, 2]), (56, [1, 53, 54, 55]), (62, [1, 53, 54, 55])]),
 (73, []),
 (74, [(14, [0, 1, 2, 3, 8]), (34, [0, 1, 2, 3, 8, 9])]),
 (75, [(21, [0, 3, 8, 9, 10, 11]), (33, [0, 3, 8, 9, 12])]),
 (76, [(17, []), (35, [0, 1, 8, 9, 10, 11]), (45, [0, 1, 8, 9, 10, 11, 12])]),
 (77, [(34, [11, 13]), (36, [0, 3, 11, 12, 13, 14]), (57, [8, 9]), (60, [8, 9])]),
 (78, [(15, [0, 8, 9])]),
 (79, [(16, [0, 1, 2, 3, 9, 10]), (36, [0, 1, 2, 3, 9, 10]), (41, [0, 1, 2, 3, 9, 10]), (45, [0, 1, 2, 3, 9, 10]), (65, [0, 1, 2, 3, 9, 10]), (69, [0, 1, 2, 3, 9, 10, 11]), (84, [0, 1, 2, 3, 9, 10, 11]), (104, [0, 1, 2, 3, 9, 10]), (109, [0, 1, 2, 3, 9, 10, 12]), (124, [0, 1, 2, 3, 9, 10, 12])]),
 (80, [(47, [0, 1, 4, 11, 12]), (65, [0, 1, 4, 11, 12]), (70, [0, 1, 4, 11, 12])]),
 (81, [(47, [0, 1, 4, 12, 13]), (66, [0, 1, 4, 12, 13]), (71, [0, 1, 4, 12, 13]), (120, [0, 1, 4, 12, 13]), (139, [0, 1, 4, 12, 13]), (144, [0, 1, 4, 12, 13])]),
 (83, [(4, [0, 2]), (8, [0, 2]), (14, [0, 2])]),
 (84, []),
 (85, [(26, [1, 2, 5, 6, 20, 26]), (32, [1, 2, 5, 6, 32]), (39, [1, 2, 5, 6]), (63, [1, 2, 5, 7])]),
 (86, [(16, [1, 2, 3]), (26, [1, 2, 23, 24, 25]), (34, [1, 2, 23, 24, 25])]),
 (87, [(9, [0, 1, 7, 8]), (16, [0, 1, 7, 8])]),
 (88, [(18, [0, 2, 3, 4, 10, 11]), (40, [0, 2, 3, 4, 10, 11]), (58, [0, 2, 3, 4, 10, 11])]),
 (89, []),
 (90, []),
 (91, []),
 (92, []),
 (93, [(20, [1, 2, 6, 7, 8])]),
 (94, [(22, [1, 2])])]
def annBlk : List (Nat × List (Nat × List Nat)) := [(3, []),
 (4, []),
 (5, [(0, [2, 5]), (1, [2, 5, 19, 20, 21])]),
 (6, []),
 (7, []),
 (8, []),
 (9, []),
 (10, []),
 (11, [(0, []), (1, [1, 34, 35, 36])]),
 (12, [(0, []), (1, [1, 38, 39, 40])]),
 (13, []),
 (14, [(0, [4, 10]), (1, [4, 7, 10, 54, 55, 56]), (2, [4, 7, 10, 54, 55, 56]), (3, [4, 7, 10, 11, 54, 55, 56, 62, 63, 64])]),
 (15, []),
 (16, [(0, []), (1, [2, 3, 43, 44])]),
 (17, [(0, [3]), (1, [3, 10, 11, 12])]),
 (18, [(0, [7]), (1, [1, 2, 7, 24, 25, 26])]),
 (19, []),
 (20, [(0, [7]), (1, [1, 2, 7, 11, 12, 13])]),
 (21, []),
 (22, [(0, [2, 6]), (1, [1, 2, 5, 6, 23, 24])]),
 (23, [(0, [1, 2, 5]), (1, [1, 2, 5, 30, 31, 32]), (2, [2, 5]), (3, [1, 2, 5, 41, 42]), (4, [1, 2, 9, 41, 42]), (5, [1, 2, 5, 8, 9, 41, 42, 49, 50, 51]), (6, [12]), (7, [5, 12, 84, 85, 86])]),
 (24, [(0, [2, 5]), (1, [1, 2, 5, 6])]),
 (25, [(0, [1, 2, 5]), (1, [1, 2, 5, 22, 23]), (2, [2, 5]), (3, [1, 2, 5, 7]), (4, [1, 2, 7, 8]), (5, [1, 2, 5, 7, 8, 44, 45, 46]), (6, [11]), (7, [2, 5, 11, 77, 78])]),
 (26, [(0, [2, 3]), (1, [2, 3, 20, 21, 22])]),
 (27, [(0, [1, 2, 3]), (1, [1, 2, 3, 7, 8, 9])]),
 (28, [(0, [3]), (1, [0, 3, 4])]),
 (29, [(0, [1, 3]), (1, [1, 3, 13, 14, 15])]),
 (30, []),
 (31, [(0, [3]), (1, [1, 3, 4]), (2, [1, 3, 4]), (3, [1, 3, 4, 5])]),
 (32, []),
 (33, [(0, [4, 8]), (1, [2, 4, 8, 64, 65, 66])]),
 (34, [(0, [4, 8]), (1, [2, 4, 8, 69, 70, 71])]),
 (35, []),
 (36, []),
 (37, []),
 (38, []),
 (39, []),
 (40, []),
 (41, [(0, [3]), (1, [3, 13, 14, 15])]),
 (42, [(0, [4]), (1, [4, 5]), (2, [0, 4, 5, 42, 43, 44]), (3, [4, 9]), (4, [0, 4, 9, 74, 75, 76])]),
 (43, [(0, [3]), (1, [0, 3])]),
 (44, []),
 (45, []),
 (46, [(0, [4]), (1, [4, 6]), (2, [0, 4, 6, 47, 48, 49]), (3, [4, 11]), (4, [0, 4, 11, 98, 99, 100])]),
 (47, [(0, []), (1, [0, 2, 11, 12, 13]), (2, [0, 2, 11, 12, 13]), (3, [0, 2, 7, 11, 12, 13, 18, 19, 20])]),
 (48, [(0, [3]), (1, [3, 7, 8, 9]), (2, [3, 5, 6, 7, 8, 9]), (3, [3, 5, 6, 7, 8, 9])]),
 (49, []),
 (50, []),
 (51, [(0, []), (1, [0, 1, 18, 19])]),
 (52, [(0, [1, 3]), (1, [1, 3, 11, 12]), (2, [3]), (3, [3, 23, 24, 25])]),
 (53, [(0, [5]), (1, [0, 5, 16, 17, 18])]),
 (54, [(0, []), (1, [0, 1, 5])]),
 (55, [(0, [3]), (1, [3, 14, 15, 16]), (2, [3]), (3, [3, 30, 31]), (4, [3, 30, 31]), (5, [3, 6, 30, 31, 35, 36])]),
 (57, [(0, [3]), (1, [3, 6, 7, 8])]),
 (58, []),
 (59, []),
 (60, []),
 (61, [(0, []), (1, [0, 2, 9, 10, 11])]),
 (62, []),
 (63, [(0, []), (1, [0, 1, 2, 3, 4, 10, 11])]),
 (64, []),
 (65, [(0, [])]),
 (66, [(0, []), (1, [1, 12, 13, 14])]),
 (67, [(0, [3]), (1, [0, 3, 4])]),
 (68, [(0, []), (1, [0, 8, 9, 10])]),
 (69, []),
 (70, []),
 (71, []),
 (72, [(0, [1, 2]), (1, []), (2, [1, 53, 54, 55])]),
 (73, []),
 (74, [(0, []), (1, [0, 1, 2, 3, 8]), (2, [0, 1, 2, 3, 8]), (3, [0, 1, 2, 3, 8, 9])]),
 (75, [(0, [0, 3, 8, 9, 10]), (1, [0, 3, 8, 9, 10, 11]), (2, []), (3, [0, 3, 8, 9, 12])]),
 (76, [(0, []), (1, [0, 1, 8, 9, 10, 11])]),
 (77, [(0, [8, 9])]),
 (78, [(0, []), (1, [0, 8, 9])]),
 (79, [(0, []), (1, [0, 1, 2, 3, 9, 10]), (2, [0, 1, 2, 3, 9, 10]), (3, [0, 1, 2, 3, 9, 10]), (4, [0, 1, 2, 3, 9, 10]), (5, [0, 1, 2, 3, 9, 10, 11]), (6, [0, 1, 2, 3, 9, 10]), (7, [0, 1, 2, 3, 9, 10, 12])]),
 (80, [(0, [11]), (1, [0, 1, 4, 11, 12]), (2, [0, 1, 4, 11, 12]), (3, [0, 1, 4, 11, 12]), (4, [0, 1, 4, 11, 12]), (5, [0, 1, 4, 11, 12])]),
 (81, [(0, [0, 1, 4, 12, 13]), (1, [0, 1, 4, 12, 13]), (2, [0, 1, 4, 12, 13]), (3, [0, 1, 4, 12, 13]), (4, [0, 1, 13]), (5, [0, 1, 4, 12, 13]), (6, [0, 1, 4, 12, 13]), (7, [0, 1, 4, 12, 13]), (8, [0, 1, 4, 12, 13]), (9, [0, 1, 4, 12, 13])]),
 (83, []),
 (84, []),
 (85, [(0, [1, 2, 5, 6]), (1, [6]), (2, [1, 2, 5, 6, 7])]),
 (86, [(0, []), (1, [1, 2, 23, 24, 25])]),
 (87, [(0, []), (1, [0, 1, 7, 8])]),
 (88, [(0, []), (1, [0, 2, 3, 4, 10])]),
 (89, []),
 (90, []),
 (91, []),
 (92, []),
 (93, [(0, [6, 7]), (1, [1, 2, 6, 7, 8])]),
 (94, [])]
def annPur : List (Nat × List (Nat × List Nat)) := []
def annOutp : List (Nat × List Nat) := [(52, [0])]
def annCk : List (Nat × List (Nat × List (Nat × Nat))) := [(3, [(1, [(1, 11), (3, 12), (6, 13)])]),
 (4, [(1, [(2, 14)]), (2, [(2, 15)]), (3, [(6, 16), (9, 13)])]),
 (5, [(1, [(2, 14)]), (3, [(0, 13)]), (10, [(3, 17), (13, 11), (17, 13)])]),
 (6, [(1, [(3, 18)]), (2, [(1, 19)]), (3, [(3, 13)]), (4, [(5, 21), (8, 20), (11, 13)])]),
 (7, [(1, [(2, 22), (5, 23)]), (2, [(1, 19)]), (3, [(7, 13)]), (4, [(3, 24), (9, 25), (19, 13)])]),
 (8, [(1, [(1, 26)]), (2, [(1, 19)]), (3, [(2, 16), (4, 13)]), (6, [(2, 27), (3, 16), (7, 28), (8, 23), (11, 23), (16, 26), (18, 16), (21, 13)])]),
 (9, [(1, [(1, 29), (3, 30)]), (2, [(1, 19)]), (3, [(7, 13)]), (4, [(2, 31), (7, 32), (11, 13)])]),
 (10, [(1, [(2, 33)]), (2, [(2, 34)]), (3, [(6, 16)]), (6, [(0, 13)]), (9, [(2, 23), (5, 23), (8, 23), (13, 13)])]),
 (11, [(3, [(7, 35)]), (10, [(19, 36)])]),
 (12, [(1, [(2, 37)]), (3, [(2, 21)]), (9, [(45, 38)])]),
 (13, [(1, [(0, 39), (1, 14)]), (2, [(15, 22), (19, 22)])]),
 (14, [(1, [(2, 40)]), (4, [(2, 41)]), (8, [(1, 42)]), (16, [(1, 43)]), (22, [(2, 44)])]),
 (15, [(1, [(2, 45)]), (4, [(1, 17)]), (7, [(2, 46)]), (8, [(3, 47)]), (9, [(12, 48)])]),
 (17, [(7, [(2, 17)])]),
 (18, [(1, [(1, 11)])]),
 (19, [(1, [(1, 12)])]),
 (20, [(5, [(8, 49)]), (6, [(3, 50)])]),
 (22, [(1, [(1, 11), (7, 51)]), (3, [(1, 52)]), (7, [(8, 53)])]),
 (23, [(1, [(1, 11), (7, 51)]), (4, [(2, 43)]), (22, [(2, 43)])]),
 (24, [(1, [(3, 54)]), (7, [(7, 20)])]),
 (25, [(1, [(3, 54)]), (7, [(3, 49)]), (25, [(3, 49)])]),
 (26, [(1, [(1, 11)]), (9, [(2, 44)])]),
 (27, [(7, [(9, 48)])]),
 (29, [(1, [(1, 11)]), (9, [(1, 55), (4, 53)])]),
 (30, [(1, [(1, 26), (2, 29)])]),
 (31, [(8, [(4, 20)])]),
 (32, [(1, [(1, 27), (2, 31)])]),
 (33, [(1, [(1, 11)]), (4, [(1, 11)])]),
 (34, [(1, [(1, 12)]), (4, [(1, 12)])]),
 (36, [(1, [(4, 58), (9, 58), (14, 58), (16, 57)])]),
 (40, [(1, [(2, 59)]), (4, [(1, 60)])]),
 (41, [(7, [(2, 41)])]),
 (42, [(12, [(2, 42)]), (21, [(2, 42)]), (22, [(5, 61)]), (32, [(5, 42)]), (33, [(5, 61)])]),
 (43, [(4, [(2, 62)])]),
 (44, [(1, [(4, 64), (6, 63)])]),
 (45, [(1, [(2, 65)]), (4, [(1, 66), (4, 66)])]),
 (46, [(6, [(6, 50)]), (13, [(2, 46)]), (18, [(5, 46)]), (19, [(5, 47)]), (26, [(2, 46)]), (27, [(5, 47)])]),
 (47, [(0, [(1, 67)]), (3, [(1, 67)])]),
 (48, [(6, [(9, 38)])]),
 (53, [(1, [(1, 68)]), (4, [(3, 69), (5, 43)])]),
 (54, [(1, [(1, 37)])]),
 (55, [(1, [(1, 68)])]),
 (58, [(1, [(1, 70)]), (2, [(1, 70)])]),
 (59, [(3, [(1, 71)]), (5, [(2, 72)])]),
 (60, [(1, [(11, 73)])]),
 (61, [(0, [(1, 43)])]),
 (63, [(4, [(4, 74)]), (6, [(4, 75)]), (8, [(4, 76)]), (10, [(4, 77)]), (12, [(4, 78)]), (16, [(4, 79)]), (17, [(13, 36)]), (18, [(5, 80)]), (20, [(5, 81)]), (26, [(5, 63)]), (29, [(6, 63)])]),
 (64, [(2, [(1, 83)])]),
 (65, [(1, [(1, 37)]), (3, [(1, 84)]), (5, [(2, 85)])]),
 (66, [(6, [(2, 66)])]),
 (67, [(5, [(2, 49)])]),
 (68, [(6, [(3, 69)])]),
 (71, [(2, [(1, 86)])]),
 (72, [(22, [(2, 72)])]),
 (73, [(1, [(2, 87)])]),
 (74, [(4, [(14, 36)])]),
 (75, [(6, [(5, 88)]), (11, [(5, 88)])]),
 (76, [(3, [(1, 89)]), (7, [(0, 90)])]),
 (77, [(8, [(3, 91)]), (9, [(3, 91)]), (10, [(3, 91)]), (11, [(5, 92)])]),
 (79, [(5, [(14, 36)]), (16, [(10, 36)]), (22, [(10, 36)])]),
 (80, [(3, [(13, 36)]), (5, [(13, 36)])]),
 (81, [(3, [(13, 36)]), (5, [(13, 36)]), (13, [(13, 36)]), (15, [(13, 36)])]),
 (84, [(1, [(1, 93)])]),
 (85, [(18, [(6, 85)])]),
 (86, [(7, [(4, 86)])]),
 (87, [(4, [(5, 60)])]),
 (88, [(3, [(19, 36)]), (5, [(13, 36)])]),
 (89, [(1, [(2, 64)])]),
 (91, [(1, [(8, 92)])]),
 (92, [(1, [(5, 94)]), (2, [(5, 94)]), (3, [(5, 94)])]),
 (93, [(5, [(6, 93)])]),
 (94, [(1, [(9, 36)])])]
def annShp : List (Nat × List (Nat × (Shape × List (Out × Shape)))) := [(5, [(81, S5_81)]),
 (8, [(319, S8_319)]),
 (10, [(607, S10_607)]),
 (11, [(97, S11_97)]),
 (12, [(113, S12_113)]),
 (14, [(783, S14_783), (273, S14_273), (225, S14_225)]),
 (16, [(65, S16_65)]),
 (17, [(143, S17_143), (81, S17_81)]),
 (18, [(81, S18_81)]),
 (20, [(49, S20_49)]),
 (22, [(81, S22_81)]),
 (23, [(81, S23_81), (225, S23_225), (161, S23_161), (369, S23_369)]),
 (24, [(81, S24_81)]),
 (25, [(81, S25_81), (241, S25_241), (177, S25_177), (369, S25_369)]),
 (26, [(81, S26_81)]),
 (27, [(49, S27_49)]),
 (28, [(49, S28_49)]),
 (29, [(81, S29_81)]),
 (31, [(97, S31_97), (49, S31_49)]),
 (33, [(209, S33_209)]),
 (34, [(225, S34_225)]),
 (41, [(81, S41_81)]),
 (42, [(161, S42_161), (1455, S42_1455), (1599, S42_1599), (305, S42_305)]),
 (43, [(33, S43_33)]),
 (46, [(177, S46_177), (1839, S46_1839), (1967, S46_1967), (385, S46_385)]),
 (47, [(65, S47_65), (17, S47_17)]),
 (48, [(97, S48_97), (49, S48_49)]),
 (51, [(65, S51_65)]),
 (52, [(49, S52_49), (129, S52_129)]),
 (53, [(81, S53_81)]),
 (54, [(65, S54_65)]),
 (55, [(81, S55_81), (209, S55_209), (161, S55_161)]),
 (57, [(49, S57_49)]),
 (61, [(17, S61_17)]),
 (63, [(639, S63_639), (911, S63_911), (1215, S63_1215), (33, S63_33)]),
 (66, [(65, S66_65)]),
 (67, [(49, S67_49)]),
 (68, [(65, S68_65)]),
 (72, [(321, S72_321)]),
 (74, [(65, S74_65), (17, S74_17)]),
 (75, [(65, S75_65), (129, S75_129)]),
 (76, [(735, S76_735), (81, S76_81)]),
 (77, [(591, S77_591), (559, S77_559)]),
 (78, [(33, S78_33)]),
 (79, [(81, S79_81), (225, S79_225), (1055, S79_1055), (321, S79_321), (49, S79_49)]),
 (80, [(49, S80_49), (81, S80_81), (50, S80_50)]),
 (81, [(49, S81_49), (81, S81_81), (209, S81_209), (241, S81_241), (210, S81_210)]),
 (83, [(79, S83_79), (143, S83_143)]),
 (85, [(639, S85_639), (257, S85_257)]),
 (86, [(81, S86_81)]),
 (87, [(33, S87_33)]),
 (88, [(655, S88_655), (17, S88_17)]),
 (93, [(49, S93_49)])]
def annNst : List (Nat × List (Nat × List Nat)) := [(52, [(1, [9])])]
def annF (k : Nat) : FuncId := (lookupN annFid k).getD 0
def ann : Ann where
  fid := annF
  sin := fun k => (lookupN annSin k).getD ⟨[], []⟩
  sout := fun k => (lookupN annSout k).getD ⟨[], []⟩
  live := fun k r => (lookupN ((lookupN annLive (annF k)).getD []) r).getD []
  join := fun k r => (lookupN ((lookupN annJoin (annF k)).getD []) r).getD []
  blk := fun k r => (lookupN ((lookupN annBlk (annF k)).getD []) r).getD []
  pur := fun k r => (lookupN ((lookupN annPur k).getD []) r).getD []
  outp := fun k => (lookupN annOutp k).getD []
  alt := fun k => lookupN annAlt k
  nst := fun k r => (lookupN ((lookupN annNst k).getD []) r).getD []
  ck := fun k r i => (lookupN ((lookupN ((lookupN annCk k).getD []) r).getD []) i).getD 0
  shp := fun k x => lookupN ((lookupN annShp k).getD []) x
  nstNow := []
  ckNow := fun _ => 0
  ext := fun f => none
  cln := fun f => bif Nat.beq f 56 then some 38 else none
  idle := fun f => false
  mv := fun k => (lookupN ([(42, [1]), (46, [1, 2]), (47, [1, 2]), (61, [1])] : List (Nat × List Nat)) k).getD []
  glob := fun g => bif Nat.beq g 0 then .pref [5, 5, 5, 5, 5, 5, 5, 5, 5, 5, 5, 5, 5, 5, 5, 5, 5, 5, 5, 5, 5, 5, 5, 5, 5, 5, 5, 5, 5, 5, 5, 5, 5, 5, 5, 5, 5, 5, 5, 5, 5, 5, 5, 5, 5, 5, 5, 5, 5, 5, 5, 5, 5, 5, 5, 5, 5, 5, 5, 5, 5, 5, 5, 5] tab_0 else .undef
noncomputable abbrev PG : Program := Tryd.prog
noncomputable abbrev CC : CallF := Call Tryd.prog ann
end Go.AM
set_option maxRecDepth 100000
namespace Go.AM
open Go.Proofs Go.RowKit
set_option maxHeartbeats 1000000 in
theorem clone_56 (hP : NoCount Tryd.prog) : CloneOk Tryd.prog 56 38 := by
  refine ⟨fun args w => MuLone.run_callFunc_enter Tryd.func56 (hP _ _ Tryd.func56) (by kernel_rfl : Tryd.f56.body = some (bodyOf Tryd.prog 56)) _ _, 23, by kernel_rfl, ?_⟩
  intro s w Q h1 h2 h3
  have hu : Tryd.prog.underlying 23 = some (.slice 38) := by kernel_rfl
  go_enter Tryd.func56, Tryd.ntmps56
  rcases h3 with rfl | ⟨a, n, c, rfl⟩
  · go_wp2
    rw [run_eql_slice_nil w 23 38 none 0 0 hu]
    simp only [Result.andThen]
    rw [Oper.upon_value]
    go_wp2
    exact trivial
  · go_wp2
    rw [run_eql_slice_nil w 23 38 (some a) n c hu]
    simp only [Result.andThen]
    rw [Oper.upon_value]
    iterate 17 go_step
    obtain ⟨v, w', hv, hQ⟩ := h2 _ _ _ rfl
    unfold Oper.wp
    simp [execOp, resolve, invoke, Act.eval, hv, builtin]
    rw [Oper.upon_value]
    go_wp2
    exact hQ
theorem cln_ok (hP : NoCount PG) (f : FuncId) (e : TypeId) (h : ann.cln f = some e) : CloneOk PG f e := by
  have h1 : ann.cln f = bif Nat.beq f 56 then some 38 else none := by kernel_rfl
  rw [h1] at h
  cases hb56 : Nat.beq f 56 with
  | true =>
    rw [hb56] at h
    rw [Nat.beq_eq] at hb56
    cases h
    subst hb56
    exact clone_56 hP
  | false =>
  rw [hb56] at h
  simp only [cond_false] at h
  cases h
end Go.AM
set_option maxRecDepth 100000
namespace Go.AM
open Go.Proofs Go.Proofs.YtjdpkmoloccebaaDoor Go.Lib Go.MakeChecks
def tabNums : List Int := [0, 1, 56, 2, 57, 49, 28, 3, 61, 58, 42, 50, 38, 29, 17, 4, 62, 47, 59, 36, 45, 43, 51, 22, 53, 39, 33, 30, 24, 18, 12, 5, 63, 55, 48, 27, 60, 41, 37, 16, 46, 35, 44, 21, 52, 32, 23, 11, 54, 26, 40, 15, 34, 20, 31, 10, 25, 14, 19, 9, 13, 8, 7, 6]
theorem tab_nums : tab_0 = tabNums.map fun z => .int .u8 z := by kernel_rfl
theorem laid_nums : Rows.laid_math_bits_deBruijn64tab (H := Unit) = tabData .u8 tabNums := by kernel_rfl
def laid1 : List (String × DataW Unit) := [("math/bits.deBruijn64tab", Rows.laid_math_bits_deBruijn64tab)]
theorem globOk {W : World} (h : laidMetH Tryd.prog laid1 W) : GlobOk Tryd.prog ann.glob W (allOf W) := by
  have h1 : laidMetH Tryd.prog [("math/bits.deBruijn64tab", tabData .u8 tabNums)] W := by
    have : laid1 = [("math/bits.deBruijn64tab", tabData .u8 tabNums)] := by unfold laid1; rw [laid_nums]
    rwa [this] at h
  rw [laidMetH_plain _ _ _ (by kernel_rfl)] at h1
  have hn : Tryd.prog.globalNamed "math/bits.deBruijn64tab" = some 0 := by kernel_rfl
  have ht := tabIs_of_head (g := 0) (t := 90) (e := 5) (n := 64) hn (by kernel_rfl) (by kernel_rfl) (by kernel_rfl) (by kernel_rfl) (by kernel_rfl) h1
  have hlen : tabNums.length = 64 := by kernel_rfl
  have hc : ∀ i, i < 64 → W.cell? ⟨0, i, none⟩ = some (.int .u8 (tabNums.getD i 0)) := fun i hi => ht.cell hn i (by rw [hlen]; exact hi)
  intro g
  have hg : ann.glob g = bif Nat.beq g 0 then .pref (List.replicate 64 5) tab_0 else .undef := by kernel_rfl
  rw [hg]
  cases hb : Nat.beq g 0 with
  | false => exact .inl rfl
  | true =>
    rw [Nat.beq_eq] at hb
    subst hb
    refine .inr ⟨List.replicate 64 5, tab_0, rfl, by kernel_rfl, fun _ => ?_, fun j t x hj hx => ?_⟩
    · have h0 := hc 0 (by omega)
      unfold allOf
      unfold World.cell? at h0
      by_cases hz : 0 < W.heap.size
      · exact hz
      · have : W.heap[0]? = none := Array.getElem?_eq_none (by omega)
        simp [this] at h0
    · have hj64 : j < 64 := by
        have := (List.getElem?_eq_some_iff.1 hj).1
        simpa using this
      rw [List.getElem?_replicate, if_pos hj64] at hj
      cases hj
      rw [tab_nums, List.getElem?_map] at hx
      have hx2 : tabNums[j]? = some (tabNums.getD j 0) := by
        rw [List.getElem?_eq_getElem (by rw [hlen]; exact hj64)]
        simp [List.getD, List.getElem?_eq_getElem (show j < tabNums.length by rw [hlen]; exact hj64)]
      rw [hx2] at hx
      cases hx
      exact ⟨_, by simpa using hc j hj64, .int (by kernel_rfl)⟩
theorem own : ownKnob Tryd.prog.godebug = none := by kernel_rfl
theorem noCount : NoCount Tryd.prog := noCount_of (by kernel_rfl)
theorem mixed : Tryd.prog.follows .mixedOrders = true := by kernel_rfl
theorem fine : Fine Tryd.prog ann where
  count := noCount
  cln := cln_ok noCount
  ext := fun f T h => by
    have h1 : ann.ext f = none := by kernel_rfl
    rw [h1] at h
    cases h
  idle := fun f h => by
    have h1 : ann.idle f = false := by kernel_rfl
    rw [h1] at h
    cases h
noncomputable def laidWorld (os : Os) : World := World.laidAll Tryd.prog os laid1
theorem laidWorld_met (os : Os) (args : Array Value) : laidMetH Tryd.prog laid1 ((laidWorld os).forCall (fun _ _ => 0) ⟨#[], args, []⟩).memory := by
  rw [laidMetH_plain _ _ _ (by kernel_rfl)]
  exact laidMet_laidAll args (by kernel_rfl) (by kernel_rfl)
end Go.AM
namespace Go.AM
theorem wrap_u64 (n : Int) : IntKind.u64.wrap n = n % 18446744073709551616 := by simp [IntKind.wrap, IntKind.bits, IntKind.signed]
theorem wrapu64 {A : Nat} (h : A < 2 ^ 64) : IntKind.wrap .u64 (A : Int) = A := by
  rw [wrap_u64]; omega
theorem bv_toNat {n A : Nat} (h : A < 2 ^ n) : (BitVec.ofInt n (A : Int)).toNat = A := by
  rw [BitVec.ofInt_natCast, BitVec.toNat_ofNat]; exact Nat.mod_eq_of_lt h
theorem bv_or {n A B : Nat} (hA : A < 2 ^ n) (hB : B < 2 ^ n) : (BitVec.ofInt n (A : Int) ||| BitVec.ofInt n (B : Int)).toNat = A ||| B := by
  rw [BitVec.toNat_or, bv_toNat hA, bv_toNat hB]
theorem bv_and {n A B : Nat} (hA : A < 2 ^ n) (hB : B < 2 ^ n) : (BitVec.ofInt n (A : Int) &&& BitVec.ofInt n (B : Int)).toNat = A &&& B := by
  rw [BitVec.toNat_and, bv_toNat hA, bv_toNat hB]
theorem u64_or {A B : Nat} (hA : A < 2 ^ 64) (hB : B < 2 ^ 64) : IntKind.wrap .u64 ((BitVec.ofInt (IntKind.bits .u64) (A : Int) ||| BitVec.ofInt (IntKind.bits .u64) (B : Int)).toNat) = ((A ||| B : Nat) : Int) := by
  rw [bv_or (n := IntKind.bits .u64) hA hB]
  exact wrapu64 (Nat.or_lt_two_pow hA hB)
theorem u64_and {A B : Nat} (hA : A < 2 ^ 64) (hB : B < 2 ^ 64) : IntKind.wrap .u64 ((BitVec.ofInt (IntKind.bits .u64) (A : Int) &&& BitVec.ofInt (IntKind.bits .u64) (B : Int)).toNat) = ((A &&& B : Nat) : Int) := by
  rw [bv_and (n := IntKind.bits .u64) hA hB]
  exact wrapu64 (Nat.lt_of_le_of_lt Nat.and_le_left hA)
theorem u64_bit {m : Nat} (h : m < 64) : IntKind.wrap .u64 (1 * 2 ^ (min m (IntKind.bits .u64))) = ((2 ^ m : Nat) : Int) := by
  have e : min m (IntKind.bits .u64) = m := Nat.min_eq_left (by show m ≤ 64; omega)
  rw [e]
  have : (1 * 2 ^ m : Int) = ((2 ^ m : Nat) : Int) := by simp
  rw [this]
  exact wrapu64 (Nat.pow_lt_pow_right (by omega) h)
theorem u64_shr {A m : Nat} (h : m < 64) : Int.fdiv (A : Int) (2 ^ (min m (IntKind.bits .u64))) = ((A / 2 ^ m : Nat) : Int) := by
  have e : min m (IntKind.bits .u64) = m := Nat.min_eq_left (by show m ≤ 64; omega)
  rw [e]
  have : (2 ^ m : Int) = ((2 ^ m : Nat) : Int) := by simp
  rw [this, Int.fdiv_eq_ediv_of_nonneg _ (Int.natCast_nonneg _)]
  exact Int.natCast_ediv ..
theorem u64_has {A m : Nat} (hA : A < 2 ^ 64) (h : m < 64) :
    (IntKind.wrap .u64 ((BitVec.ofInt (IntKind.bits .u64) (Int.fdiv (A : Int) (2 ^ (min m (IntKind.bits .u64)))) &&& BitVec.ofInt (IntKind.bits .u64) 1).toNat) == 1) = A.testBit m := by
  rw [u64_shr h]
  have := u64_and (A := A / 2 ^ m) (B := 1) (Nat.lt_of_le_of_lt (Nat.div_le_self _ _) hA) (by omega)
  rw [show ((1 : Nat) : Int) = 1 from rfl] at this
  rw [this]
  rw [Nat.and_one_is_mod, Nat.testBit_eq_decide_div_mod_eq]
  by_cases hb : A / 2 ^ m % 2 = 1
  · simp [hb]
  · have : A / 2 ^ m % 2 = 0 := by omega
    simp [this]
end Go.AM
set_option maxRecDepth 100000
set_option linter.unusedSimpArgs false
namespace Go.AM
open Go.Proofs
theorem maxLen_le : maxLen ≤ 9223372036854775807 := by unfold maxLen; omega
theorem maxB : maxBytes = 35184372088832 := by unfold maxBytes; rfl
section
variable {X R A α : Type} {step : X → Option (X ⊕ R)}
theorem Loop_foldI (l : List α) (s : Nat → A → X) (f : A → α → A) (r : A → R) (Inv : Nat → A → Prop)
    (h : ∀ (i : Nat) (a : A) (hi : i < l.length), Inv i a → step (s i a) = some (.inl (s (i + 1) (f a l[i]))) ∧ Inv (i + 1) (f a l[i]))
    (he : ∀ a, Inv l.length a → step (s l.length a) = some (.inr (r a))) (a0 : A) (h0 : Inv 0 a0) :
    Loop step (s 0 a0) = some (r (l.foldl f a0)) ∧ Inv l.length (l.foldl f a0) := by
  have go : ∀ (k : Nat) (a : A), k ≤ l.length → Inv k a → Loop step (s k a) = some (r ((l.drop k).foldl f a)) ∧ Inv l.length ((l.drop k).foldl f a) := by
    intro k
    generalize hd : l.length - k = d
    induction d generalizing k with
    | zero =>
      intro a hk hi
      have : k = l.length := by omega
      subst this
      simp only [List.drop_length, List.foldl_nil]
      exact ⟨Loop_end (he a hi), hi⟩
    | succ d ih =>
      intro a hk hi
      have hk' : k < l.length := by omega
      obtain ⟨h1, h2⟩ := h k a hk' hi
      rw [Loop_norm h1, List.drop_eq_getElem_cons hk', List.foldl_cons]
      exact ih (k + 1) (by omega) _ (by omega) h2
  simpa using go 0 a0 (by omega) h0
end
end Go.AM
set_option maxRecDepth 100000
namespace Go.AM
open Go.Proofs
inductive Ex where
  | node (op letter : Int) (kids : List Ex)
namespace Ex
def op : Ex → Int | .node o _ _ => o
def letter : Ex → Int | .node _ l _ => l
def kids : Ex → List Ex | .node _ _ ks => ks
theorem ind {p : Ex → Prop} (h : ∀ o l ks, (∀ k ∈ ks, p k) → p (.node o l ks)) : ∀ e, p e
  | .node o l ks => h o l ks fun k hk => ind h k
termination_by e => SizeOf.sizeOf e
decreasing_by
  have := List.sizeOf_lt_of_mem hk
  simp
  omega
mutual
def enc : Ex → V
  | .node o l ks => .agg [.int .i64 o, .int .i64 l, .list T_api_Expr (encs ks)]
def encs : List Ex → List V
  | [] => []
  | k :: ks => enc k :: encs ks
end
theorem encs_map : ∀ ks, encs ks = ks.map enc
  | [] => by simp only [encs, List.map_nil]
  | k :: ks => by simp only [encs, List.map_cons, encs_map ks]
theorem enc_eq (e : Ex) : e.enc = .agg [.int .i64 e.op, .int .i64 e.letter, .list T_api_Expr (e.kids.map enc)] := by
  cases e; simp only [enc, op, letter, kids, encs_map]
mutual
def size : Ex → Nat
  | .node _ _ ks => 1 + sizes ks
def sizes : List Ex → Nat
  | [] => 0
  | k :: ks => size k + sizes ks
end
mutual
def depth : Ex → Nat
  | .node _ _ ks => 1 + depths ks
def depths : List Ex → Nat
  | [] => 0
  | k :: ks => max (depth k) (depths ks)
end
theorem size_pos : ∀ e : Ex, 0 < e.size
  | .node _ _ ks => by simp only [size]; omega
theorem depth_le_size : ∀ e : Ex, e.depth ≤ e.size := ind fun o l ks ih => by
  have : ∀ ks : List Ex, (∀ k ∈ ks, k.depth ≤ k.size) → depths ks ≤ sizes ks := by
    intro ks
    induction ks with
    | nil => intro _; simp only [depths, sizes]; omega
    | cons k ks ih =>
      intro h
      have h1 := h k (by simp)
      have h2 := ih fun k hk => h k (by simp [hk])
      simp only [depths, sizes]; omega
  have := this ks ih
  simp only [depth, size]; omega
inductive Ok : Ex → Prop
  | node {o l : Int} {ks : List Ex} : (-9223372036854775808 ≤ o ∧ o ≤ 9223372036854775807) → (-9223372036854775808 ≤ l ∧ l ≤ 9223372036854775807) → ks.length ≤ maxLen → (∀ k ∈ ks, Ok k) → Ok (.node o l ks)
theorem Ok.kid {o l : Int} {ks : List Ex} (h : Ok (.node o l ks)) : ∀ k ∈ ks, Ok k := by cases h; assumption
theorem Ok.len {o l : Int} {ks : List Ex} (h : Ok (.node o l ks)) : ks.length ≤ maxLen := by cases h; assumption
end Ex
open Ex
abbrev exA (e : Ex) (l : List V) : List V := .int .i64 e.op :: .int .i64 e.letter :: .list T_api_Expr (e.kids.map enc) :: l
theorem wt_ex : ∀ (n : Nat) (x : V), SizeOf.sizeOf x < n → WTv PG T_api_Expr x → ∃ e : Ex, x = e.enc ∧ e.Ok
  | 0, x, h, _ => by omega
  | n + 1, x, h, hw => by
    obtain ⟨xs, rfl, hl, hx⟩ := hw.agg_inv (by kernel_rfl)
    have e1 : etys PG T_api_Expr = [T_int, T_int, T_l_api_Expr] := by kernel_rfl
    rw [e1] at hl hx
    match xs, hl, hx, h with
    | [a, b, c], _, hx, h =>
      obtain ⟨o, rfl, ho⟩ := (hx 0 T_int a rfl rfl).int_inv (k := .i64) (by kernel_rfl)
      obtain ⟨l, rfl, hl⟩ := (hx 1 T_int b rfl rfl).int_inv (k := .i64) (by kernel_rfl)
      obtain ⟨es, rfl, he, hes⟩ := (hx 2 T_l_api_Expr c rfl rfl).list_inv (e := T_api_Expr) (by kernel_rfl)
      have : ∃ ks : List Ex, es = ks.map enc ∧ ∀ k ∈ ks, k.Ok := map_of_forallP fun y hy => wt_ex n y (by
        have := List.sizeOf_lt_of_mem hy
        simp at h
        omega) (hes y hy)
      obtain ⟨ks, rfl, hks⟩ := this
      refine ⟨.node o l ks, by rw [enc_eq]; rfl, .node ?_ ?_ (by simpa using he) hks⟩
      · exact ho
      · exact hl
end Go.AM
set_option maxRecDepth 100000
namespace Go.AM
open Go.Proofs
noncomputable def f_expr_Validate (C : CallF) (e_0 e_1 : Int) (e_2 : List V) (letters : Int) : Option (List V) :=
  bif decide ((letters : Int) < 1) then
   some [.int .i64 1]
  else
   bif decide ((letters : Int) > 6) then
    some [.int .i64 1]
   else
    (C F_expr_withinLimits [.int .i64 e_0, .int .i64 e_1, .list T_api_Expr e_2]).bind fun r1 =>
    bif !((V.nth r1 0).toBool) then
     some [.int .i64 3]
    else
     (C F_expr_wellFormed [.int .i64 e_0, .int .i64 e_1, .list T_api_Expr e_2, .int .i64 letters]).bind fun r2 =>
     bif !((V.nth r2 0).toBool) then
      some [.int .i64 4]
     else
      some [.int .i64 0]
theorem f_expr_Validate_of {e_0 e_1 : Int} {e_2 : List V} {letters : Int} {r : Option (List V)} (h : f_expr_Validate CC e_0 e_1 e_2 letters = r) : CC F_expr_Validate [.int .i64 e_0, .int .i64 e_1, .list T_api_Expr e_2, .int .i64 letters] = r :=
  func_of (key := 59) (L := LT0) (bs := []) (by kernel_rfl) tells_nil (Eq.trans (by kernel_rfl) h)
end Go.AM
set_option maxRecDepth 100000
namespace Go.AM
open Go.Proofs
noncomputable def f_expr_withinLimits (C : CallF) (e_0 e_1 : Int) (e_2 : List V) : Option (List V) :=
  (C F_expr_fits [.int .i64 e_0, .int .i64 e_1, .list T_api_Expr e_2, .int .i64 40, .int .i64 400]).bind fun r1 =>
  some [.bool ((V.nth r1 0).toBool)]
theorem f_expr_withinLimits_of {e_0 e_1 : Int} {e_2 : List V} {r : Option (List V)} (h : f_expr_withinLimits CC e_0 e_1 e_2 = r) : CC F_expr_withinLimits [.int .i64 e_0, .int .i64 e_1, .list T_api_Expr e_2] = r :=
  func_of (key := 71) (L := LT0) (bs := []) (by kernel_rfl) tells_nil (Eq.trans (by kernel_rfl) h)
end Go.AM
set_option maxRecDepth 100000
namespace Go.AM
open Go.Proofs
noncomputable abbrev B_expr_fits : Code := bodyOf Tryd.prog (ann.fid 86)
noncomputable def s_expr_fits_1 (C : CallF) (depth : Int) (t23 : List V) (t24 t25 lefts : Int) {β : Type} (kn : (Int × Int) → Option β) (kr : ((Bool × Int) ⊕ (Int × Bool × Int)) → Option β) : Option β :=
  bif decide ((t25 : Int) < t24) then
   (idx t23 t25).bind fun x1 =>
   (C F_expr_fits [.int .i64 ((x1.cell 0).toInt), .int .i64 ((x1.cell 1).toInt), .list T_api_Expr ((x1.cell 2).toList), .int .i64 (IntKind.wrap .i64 (depth - 1)), .int .i64 lefts]).bind fun r2 =>
   bif !((V.nth r2 0).toBool) then
    kr (.inl (false, (V.nth (r2.drop 1) 0).toInt))
   else
    kn (IntKind.wrap .i64 (t25 + 1), (V.nth (r2.drop 1) 0).toInt)
  else
   kr (.inr (t25, decide ((t25 : Int) < t24), lefts))
noncomputable def s_expr_fits_1L (C : CallF) (depth : Int) (t23 : List V) (t24 : Int) : (Int × Int) → Option ((Int × Int) ⊕ ((Bool × Int) ⊕ (Int × Bool × Int))) := un fun t25 lefts => s_expr_fits_1 C depth t23 t24 t25 lefts (fun y => some (.inl y)) (fun r => some (.inr r))
noncomputable def LT_expr_fits (C : CallF) : LTab := fun β n ds k =>
  bif Nat.beq n 81 then loopS S86_81 [false, false, false, true, true] [[0, 0], [1, 2, 3, 0, 0, 0]] (@s_expr_fits_1 C) ds k else
  none
abbrev TS_expr_fits (C : CallF) (b : Bar) : Prop := Tells Tryd.prog ann C (LT_expr_fits C) 86 (ntmpsOf Tryd.prog (ann.fid 86)) (ann.sin 86).blks.length b
theorem t_expr_fits_1 (C : CallF) : TS_expr_fits C (.loop (codeAt [1, 1, 1, 0, 1, 0, 0] B_expr_fits)) :=
  tl3 S86_81 [false, false, false, true, true] [[0, 0], [1, 2, 3, 0, 0, 0]] (@s_expr_fits_1 C) (by kernel_rfl) (ltok_of (bs := []) (by kernel_rfl) tells_nil) (fun ds => by kernel_rfl) (fun i x => by kernel_rfl) (fun i x β k => by kernel_rfl) (fun β ds k => by kernel_rfl)
noncomputable def f_expr_fits (C : CallF) (e_0 e_1 : Int) (e_2 : List V) (depth lefts : Int) : Option (List V) :=
  bif (depth : Int) == 0 then
   some [.bool false, .int .i64 lefts]
  else
   bif (lefts : Int) == 0 then
    some [.bool false, .int .i64 lefts]
   else
    (Loop (s_expr_fits_1L C depth e_2 (e_2.length : Int)) (0, IntKind.wrap .i64 (lefts - 1))).bind (way2 (un fun (t_3 : Bool) (b_4 : Int) =>
      some [.bool t_3, .int .i64 b_4]) (un fun (t_5 : Int) => un fun (t_6 : Bool) (lefts_7 : Int) =>
      some [.bool true, .int .i64 lefts_7]))
theorem f_expr_fits_of {e_0 e_1 : Int} {e_2 : List V} {depth lefts : Int} {r : Option (List V)} (h : f_expr_fits CC e_0 e_1 e_2 depth lefts = r) : CC F_expr_fits [.int .i64 e_0, .int .i64 e_1, .list T_api_Expr e_2, .int .i64 depth, .int .i64 lefts] = r :=
  func_of (key := 86) (L := LT_expr_fits CC) (bs := [.loop (codeAt [1, 1, 1, 0, 1, 0, 0] B_expr_fits)]) (by kernel_rfl) (tells_cons (t_expr_fits_1 CC) tells_nil) (Eq.trans (by kernel_rfl) h)
end Go.AM
set_option maxRecDepth 100000
namespace Go.AM
open Go.Proofs
noncomputable abbrev B_expr_wellFormed : Code := bodyOf Tryd.prog (ann.fid 72)
noncomputable def s_expr_wellFormed_1 (C : CallF) (letters : Int) (t53 : List V) (t54 t55 : Int) {β : Type} (kn : Int → Option β) (kr : ((Bool) ⊕ (Int × Bool)) → Option β) : Option β :=
  bif decide ((t55 : Int) < t54) then
   (idx t53 t55).bind fun x1 =>
   (C F_expr_wellFormed [.int .i64 ((x1.cell 0).toInt), .int .i64 ((x1.cell 1).toInt), .list T_api_Expr ((x1.cell 2).toList), .int .i64 letters]).bind fun r2 =>
   bif !((V.nth r2 0).toBool) then
    kr (.inl false)
   else
    kn (IntKind.wrap .i64 (t55 + 1))
  else
   kr (.inr (t55, decide ((t55 : Int) < t54)))
noncomputable def s_expr_wellFormed_1L (C : CallF) (letters : Int) (t53 : List V) (t54 : Int) : (Int) → Option ((Int) ⊕ ((Bool) ⊕ (Int × Bool))) := fun t55 => s_expr_wellFormed_1 C letters t53 t54 t55 (fun y => some (.inl y)) (fun r => some (.inr r))
noncomputable def LT_expr_wellFormed (C : CallF) : LTab := fun β n ds k =>
  bif Nat.beq n 321 then loopS S72_321 [false, false, false, true] [[0], [1, 2, 3, 0, 0]] (@s_expr_wellFormed_1 C) ds k else
  none
abbrev TS_expr_wellFormed (C : CallF) (b : Bar) : Prop := Tells Tryd.prog ann C (LT_expr_wellFormed C) 72 (ntmpsOf Tryd.prog (ann.fid 72)) (ann.sin 72).blks.length b
theorem t_expr_wellFormed_1 (C : CallF) : TS_expr_wellFormed C (.loop (codeAt [1, 1, 1, 1, 0, 1, 0, 0] B_expr_wellFormed)) :=
  tl3 S72_321 [false, false, false, true] [[0], [1, 2, 3, 0, 0]] (@s_expr_wellFormed_1 C) (by kernel_rfl) (ltok_of (bs := []) (by kernel_rfl) tells_nil) (fun ds => by kernel_rfl) (fun i x => by kernel_rfl) (fun i x β k => by kernel_rfl) (fun β ds k => by kernel_rfl)
noncomputable def f_expr_wellFormed (C : CallF) (e_0 e_1 : Int) (e_2 : List V) (letters : Int) : Option (List V) :=
  bif (e_0 : Int) == 3 then
   bif ((e_2.length : Int) : Int) == 0 then
    bif decide ((e_1 : Int) ≥ 0) then
     some [.bool (decide ((e_1 : Int) < letters))]
    else
     some [.bool false]
   else
    some [.bool false]
  else
   bif (e_1 : Int) != 0 then
    some [.bool false]
   else
    bif (e_0 : Int) == 1 then
     bif (e_0 : Int) == 1 then
      some [.bool (((e_2.length : Int) : Int) == 0)]
     else
      bif (e_0 : Int) == 4 then
       bif (e_0 : Int) == 4 then
        bif decide (((e_2.length : Int) : Int) < 2) then
         some [.bool false]
        else
         (Loop (s_expr_wellFormed_1L C letters e_2 (e_2.length : Int)) 0).bind (way2 (fun (t_3 : Bool) =>
           some [.bool t_3]) (un fun (t_4 : Int) (t_5 : Bool) =>
           some [.bool true]))
       else
        bif (e_0 : Int) == 7 then
         bif (e_0 : Int) == 7 then
          bif ((e_2.length : Int) : Int) != 1 then
           some [.bool false]
          else
           (Loop (s_expr_wellFormed_1L C letters e_2 (e_2.length : Int)) 0).bind (way2 (fun (t_6 : Bool) =>
             some [.bool t_6]) (un fun (t_7 : Int) (t_8 : Bool) =>
             some [.bool true]))
         else
          some [.bool false]
        else
         bif (e_0 : Int) == 8 then
          bif ((e_2.length : Int) : Int) != 1 then
           some [.bool false]
          else
           (Loop (s_expr_wellFormed_1L C letters e_2 (e_2.length : Int)) 0).bind (way2 (fun (t_9 : Bool) =>
             some [.bool t_9]) (un fun (t_10 : Int) (t_11 : Bool) =>
             some [.bool true]))
         else
          some [.bool false]
      else
       bif (e_0 : Int) == 5 then
        bif (e_0 : Int) == 5 then
         bif decide (((e_2.length : Int) : Int) < 2) then
          some [.bool false]
         else
          (Loop (s_expr_wellFormed_1L C letters e_2 (e_2.length : Int)) 0).bind (way2 (fun (t_12 : Bool) =>
            some [.bool t_12]) (un fun (t_13 : Int) (t_14 : Bool) =>
            some [.bool true]))
        else
         bif (e_0 : Int) == 7 then
          bif (e_0 : Int) == 7 then
           bif ((e_2.length : Int) : Int) != 1 then
            some [.bool false]
           else
            (Loop (s_expr_wellFormed_1L C letters e_2 (e_2.length : Int)) 0).bind (way2 (fun (t_15 : Bool) =>
              some [.bool t_15]) (un fun (t_16 : Int) (t_17 : Bool) =>
              some [.bool true]))
          else
           some [.bool false]
         else
          bif (e_0 : Int) == 8 then
           bif ((e_2.length : Int) : Int) != 1 then
            some [.bool false]
           else
            (Loop (s_expr_wellFormed_1L C letters e_2 (e_2.length : Int)) 0).bind (way2 (fun (t_18 : Bool) =>
              some [.bool t_18]) (un fun (t_19 : Int) (t_20 : Bool) =>
              some [.bool true]))
          else
           some [.bool false]
       else
        bif (e_0 : Int) == 6 then
         bif decide (((e_2.length : Int) : Int) < 2) then
          some [.bool false]
         else
          (Loop (s_expr_wellFormed_1L C letters e_2 (e_2.length : Int)) 0).bind (way2 (fun (t_21 : Bool) =>
            some [.bool t_21]) (un fun (t_22 : Int) (t_23 : Bool) =>
            some [.bool true]))
        else
         bif (e_0 : Int) == 7 then
          bif (e_0 : Int) == 7 then
           bif ((e_2.length : Int) : Int) != 1 then
            some [.bool false]
           else
            (Loop (s_expr_wellFormed_1L C letters e_2 (e_2.length : Int)) 0).bind (way2 (fun (t_24 : Bool) =>
              some [.bool t_24]) (un fun (t_25 : Int) (t_26 : Bool) =>
              some [.bool true]))
          else
           some [.bool false]
         else
          bif (e_0 : Int) == 8 then
           bif ((e_2.length : Int) : Int) != 1 then
            some [.bool false]
           else
            (Loop (s_expr_wellFormed_1L C letters e_2 (e_2.length : Int)) 0).bind (way2 (fun (t_27 : Bool) =>
              some [.bool t_27]) (un fun (t_28 : Int) (t_29 : Bool) =>
              some [.bool true]))
          else
           some [.bool false]
    else
     bif (e_0 : Int) == 2 then
      some [.bool (((e_2.length : Int) : Int) == 0)]
     else
      bif (e_0 : Int) == 4 then
       bif (e_0 : Int) == 4 then
        bif decide (((e_2.length : Int) : Int) < 2) then
         some [.bool false]
        else
         (Loop (s_expr_wellFormed_1L C letters e_2 (e_2.length : Int)) 0).bind (way2 (fun (t_30 : Bool) =>
           some [.bool t_30]) (un fun (t_31 : Int) (t_32 : Bool) =>
           some [.bool true]))
       else
        bif (e_0 : Int) == 7 then
         bif (e_0 : Int) == 7 then
          bif ((e_2.length : Int) : Int) != 1 then
           some [.bool false]
          else
           (Loop (s_expr_wellFormed_1L C letters e_2 (e_2.length : Int)) 0).bind (way2 (fun (t_33 : Bool) =>
             some [.bool t_33]) (un fun (t_34 : Int) (t_35 : Bool) =>
             some [.bool true]))
         else
          some [.bool false]
        else
         bif (e_0 : Int) == 8 then
          bif ((e_2.length : Int) : Int) != 1 then
           some [.bool false]
          else
           (Loop (s_expr_wellFormed_1L C letters e_2 (e_2.length : Int)) 0).bind (way2 (fun (t_36 : Bool) =>
             some [.bool t_36]) (un fun (t_37 : Int) (t_38 : Bool) =>
             some [.bool true]))
         else
          some [.bool false]
      else
       bif (e_0 : Int) == 5 then
        bif (e_0 : Int) == 5 then
         bif decide (((e_2.length : Int) : Int) < 2) then
          some [.bool false]
         else
          (Loop (s_expr_wellFormed_1L C letters e_2 (e_2.length : Int)) 0).bind (way2 (fun (t_39 : Bool) =>
            some [.bool t_39]) (un fun (t_40 : Int) (t_41 : Bool) =>
            some [.bool true]))
        else
         bif (e_0 : Int) == 7 then
          bif (e_0 : Int) == 7 then
           bif ((e_2.length : Int) : Int) != 1 then
            some [.bool false]
           else
            (Loop (s_expr_wellFormed_1L C letters e_2 (e_2.length : Int)) 0).bind (way2 (fun (t_42 : Bool) =>
              some [.bool t_42]) (un fun (t_43 : Int) (t_44 : Bool) =>
              some [.bool true]))
          else
           some [.bool false]
         else
          bif (e_0 : Int) == 8 then
           bif ((e_2.length : Int) : Int) != 1 then
            some [.bool false]
           else
            (Loop (s_expr_wellFormed_1L C letters e_2 (e_2.length : Int)) 0).bind (way2 (fun (t_45 : Bool) =>
              some [.bool t_45]) (un fun (t_46 : Int) (t_47 : Bool) =>
              some [.bool true]))
          else
           some [.bool false]
       else
        bif (e_0 : Int) == 6 then
         bif decide (((e_2.length : Int) : Int) < 2) then
          some [.bool false]
         else
          (Loop (s_expr_wellFormed_1L C letters e_2 (e_2.length : Int)) 0).bind (way2 (fun (t_48 : Bool) =>
            some [.bool t_48]) (un fun (t_49 : Int) (t_50 : Bool) =>
            some [.bool true]))
        else
         bif (e_0 : Int) == 7 then
          bif (e_0 : Int) == 7 then
           bif ((e_2.length : Int) : Int) != 1 then
            some [.bool false]
           else
            (Loop (s_expr_wellFormed_1L C letters e_2 (e_2.length : Int)) 0).bind (way2 (fun (t_51 : Bool) =>
              some [.bool t_51]) (un fun (t_52 : Int) (t_53 : Bool) =>
              some [.bool true]))
          else
           some [.bool false]
         else
          bif (e_0 : Int) == 8 then
           bif ((e_2.length : Int) : Int) != 1 then
            some [.bool false]
           else
            (Loop (s_expr_wellFormed_1L C letters e_2 (e_2.length : Int)) 0).bind (way2 (fun (t_54 : Bool) =>
              some [.bool t_54]) (un fun (t_55 : Int) (t_56 : Bool) =>
              some [.bool true]))
          else
           some [.bool false]
theorem f_expr_wellFormed_of {e_0 e_1 : Int} {e_2 : List V} {letters : Int} {r : Option (List V)} (h : f_expr_wellFormed CC e_0 e_1 e_2 letters = r) : CC F_expr_wellFormed [.int .i64 e_0, .int .i64 e_1, .list T_api_Expr e_2, .int .i64 letters] = r :=
  func_of (key := 72) (L := LT_expr_wellFormed CC) (bs := [.loop (codeAt [1, 1, 1, 1, 0, 1, 0, 0] B_expr_wellFormed)]) (by kernel_rfl) (tells_cons (t_expr_wellFormed_1 CC) tells_nil) (Eq.trans (by kernel_rfl) h)
end Go.AM
set_option maxRecDepth 100000
namespace Go.AM
open Go.Proofs
noncomputable def f_semigroupref04_Validate (C : CallF) (e_0 e_1 : Int) (e_2 : List V) (letters : Int) : Option (List V) :=
  (C F_semigroupref01_MayLetters [.int .i64 letters]).bind fun r1 =>
  bif !((V.nth r1 0).toBool) then
   some [.int .i64 1]
  else
   (C F_semigroupref04_Within [.int .i64 e_0, .int .i64 e_1, .list T_api_Expr e_2]).bind fun r2 =>
   bif !((V.nth r2 0).toBool) then
    some [.int .i64 3]
   else
    (C F_semigroupref04_shaped [.int .i64 e_0, .int .i64 e_1, .list T_api_Expr e_2, .int .i64 letters]).bind fun r3 =>
    bif !((V.nth r3 0).toBool) then
     some [.int .i64 4]
    else
     some [.int .i64 0]
theorem f_semigroupref04_Validate_of {e_0 e_1 : Int} {e_2 : List V} {letters : Int} {r : Option (List V)} (h : f_semigroupref04_Validate CC e_0 e_1 e_2 letters = r) : CC F_semigroupref04_Validate [.int .i64 e_0, .int .i64 e_1, .list T_api_Expr e_2, .int .i64 letters] = r :=
  func_of (key := 65) (L := LT0) (bs := []) (by kernel_rfl) tells_nil (Eq.trans (by kernel_rfl) h)
end Go.AM
set_option maxRecDepth 100000
namespace Go.AM
open Go.Proofs
noncomputable def f_semigroupref04_Within (C : CallF) (e_0 e_1 : Int) (e_2 : List V) : Option (List V) :=
  (C F_semigroupref04_measure [.int .i64 e_0, .int .i64 e_1, .list T_api_Expr e_2, .int .i64 400]).bind fun r1 =>
  bif decide ((((V.nth r1 0).toInt) : Int) ≤ 400) then
   some [.bool (decide ((((V.nth (r1.drop 1) 0).toInt) : Int) ≤ 40))]
  else
   some [.bool false]
theorem f_semigroupref04_Within_of {e_0 e_1 : Int} {e_2 : List V} {r : Option (List V)} (h : f_semigroupref04_Within CC e_0 e_1 e_2 = r) : CC F_semigroupref04_Within [.int .i64 e_0, .int .i64 e_1, .list T_api_Expr e_2] = r :=
  func_of (key := 84) (L := LT0) (bs := []) (by kernel_rfl) tells_nil (Eq.trans (by kernel_rfl) h)
end Go.AM
set_option maxRecDepth 100000
namespace Go.AM
open Go.Proofs
noncomputable abbrev B_semigroupref04_measure : Code := bodyOf Tryd.prog (ann.fid 93)
noncomputable def s_semigroupref04_measure_1 (C : CallF) (most es_0 es_1 : Int) (es_2 : List V) (n deep i : Int) {β : Type} (kn : (Int × Int × Int) → Option β) (kr : (Int × Int × Int × Bool) → Option β) : Option β :=
  bif decide ((i : Int) < (es_2.length : Int)) then
   bif decide ((n : Int) ≤ most) then
    (idx es_2 i).bind fun x1 =>
    (C F_semigroupref04_measure [.int .i64 ((x1.cell 0).toInt), .int .i64 ((x1.cell 1).toInt), .list T_api_Expr ((x1.cell 2).toList), .int .i64 most]).bind fun r2 =>
    kn (if (IntKind.wrap .i64 (most + 1)) < (IntKind.wrap .i64 (n + ((V.nth r2 0).toInt))) then (IntKind.wrap .i64 (most + 1)) else (IntKind.wrap .i64 (n + ((V.nth r2 0).toInt))), if ((V.nth (r2.drop 1) 0).toInt) > deep then ((V.nth (r2.drop 1) 0).toInt) else deep, IntKind.wrap .i64 (i + 1))
   else
    kr (n, deep, i, decide ((n : Int) ≤ most))
  else
   kr (n, deep, i, false)
noncomputable def s_semigroupref04_measure_1L (C : CallF) (most es_0 es_1 : Int) (es_2 : List V) : (Int × Int × Int) → Option ((Int × Int × Int) ⊕ (Int × Int × Int × Bool)) := un fun n => un fun deep i => s_semigroupref04_measure_1 C most es_0 es_1 es_2 n deep i (fun y => some (.inl y)) (fun r => some (.inr r))
noncomputable def LT_semigroupref04_measure (C : CallF) : LTab := fun β n ds k =>
  bif Nat.beq n 49 then loopS S93_49 [false, true, true, true, false, false, false] [[1, 0, 0, 0, 0, 5, 6, 7]] (@s_semigroupref04_measure_1 C) ds k else
  none
abbrev TS_semigroupref04_measure (C : CallF) (b : Bar) : Prop := Tells Tryd.prog ann C (LT_semigroupref04_measure C) 93 (ntmpsOf Tryd.prog (ann.fid 93)) (ann.sin 93).blks.length b
theorem t_semigroupref04_measure_1 (C : CallF) : TS_semigroupref04_measure C (.loop (codeAt [1, 1, 0, 1, 0, 0] B_semigroupref04_measure)) :=
  tl3 S93_49 [false, true, true, true, false, false, false] [[1, 0, 0, 0, 0, 5, 6, 7]] (@s_semigroupref04_measure_1 C) (by kernel_rfl) (ltok_of (bs := []) (by kernel_rfl) tells_nil) (fun ds => by kernel_rfl) (fun i x => by kernel_rfl) (fun i x β k => by kernel_rfl) (fun β ds k => by kernel_rfl)
noncomputable def f_semigroupref04_measure (C : CallF) (e_0 e_1 : Int) (e_2 : List V) (most : Int) : Option (List V) :=
  (Loop (s_semigroupref04_measure_1L C most e_0 e_1 e_2) (1, 0, 0)).bind (un fun (n_3 : Int) => un fun (deep_4 : Int) => un fun (i_5 : Int) (t_6 : Bool) =>
    some [.int .i64 n_3, .int .i64 (IntKind.wrap .i64 (deep_4 + 1))])
theorem f_semigroupref04_measure_of {e_0 e_1 : Int} {e_2 : List V} {most : Int} {r : Option (List V)} (h : f_semigroupref04_measure CC e_0 e_1 e_2 most = r) : CC F_semigroupref04_measure [.int .i64 e_0, .int .i64 e_1, .list T_api_Expr e_2, .int .i64 most] = r :=
  func_of (key := 93) (L := LT_semigroupref04_measure CC) (bs := [.loop (codeAt [1, 1, 0, 1, 0, 0] B_semigroupref04_measure)]) (by kernel_rfl) (tells_cons (t_semigroupref04_measure_1 CC) tells_nil) (Eq.trans (by kernel_rfl) h)
end Go.AM
set_option maxRecDepth 100000
namespace Go.AM
open Go.Proofs
noncomputable abbrev B_semigroupref04_shaped : Code := bodyOf Tryd.prog (ann.fid 85)
noncomputable def s_semigroupref04_shaped_1 (C : CallF) (letters k' : Int) (ok t39 : Bool) (es_0 es_1 : Int) (es_2 : List V) {β : Type} (kr : (Bool) → Option β) : Option β :=
  bif t39 then
   bif ok then
    bif decide ((es_1 : Int) ≥ 0) then
     kr (decide ((es_1 : Int) < letters))
    else
     kr false
   else
    kr false
  else
   bif ok then
    kr ((es_1 : Int) == 0)
   else
    kr false
noncomputable def s_semigroupref04_shaped_2 (C : CallF) (letters k' es_0 es_1 : Int) (es_2 : List V) (ok : Bool) (i : Int) {β : Type} (kn : (Bool × Int) → Option β) (kr : (Bool × Int × Bool) → Option β) : Option β :=
  bif decide ((i : Int) < k') then
   bif ok then
    (idx es_2 i).bind fun x2 =>
    (C F_semigroupref04_shaped [.int .i64 ((x2.cell 0).toInt), .int .i64 ((x2.cell 1).toInt), .list T_api_Expr ((x2.cell 2).toList), .int .i64 letters]).bind fun r3 =>
    kn ((V.nth r3 0).toBool, IntKind.wrap .i64 (i + 1))
   else
    kr (ok, i, ok)
  else
   kr (ok, i, false)
noncomputable def s_semigroupref04_shaped_2L (C : CallF) (letters k' es_0 es_1 : Int) (es_2 : List V) : (Bool × Int) → Option ((Bool × Int) ⊕ (Bool × Int × Bool)) := un fun ok i => s_semigroupref04_shaped_2 C letters k' es_0 es_1 es_2 ok i (fun y => some (.inl y)) (fun r => some (.inr r))
noncomputable def LT_semigroupref04_shaped (C : CallF) : LTab := fun β n ds k =>
  bif Nat.beq n 639 then condS S85_639 [[1, 2, 0, 5, 6, 7]] (@s_semigroupref04_shaped_1 C) ds k else
  bif Nat.beq n 257 then loopS S85_257 [false, false, true, true, false, false, false] [[1, 2, 0, 0, 0, 5, 6, 7]] (@s_semigroupref04_shaped_2 C) ds k else
  none
abbrev TS_semigroupref04_shaped (C : CallF) (b : Bar) : Prop := Tells Tryd.prog ann C (LT_semigroupref04_shaped C) 85 (ntmpsOf Tryd.prog (ann.fid 85)) (ann.sin 85).blks.length b
theorem t_semigroupref04_shaped_1 (C : CallF) : TS_semigroupref04_shaped C (.cond 39 (codeAt [1, 1, 1, 1, 0, 1, 0] B_semigroupref04_shaped) (codeAt [1, 1, 1, 1, 0, 1, 1] B_semigroupref04_shaped)) :=
  tc3 S85_639 [[1, 2, 0, 5, 6, 7]] (@s_semigroupref04_shaped_1 C) (by kernel_rfl) (ltok_of (bs := []) (by kernel_rfl) tells_nil) (ltok_of (bs := []) (by kernel_rfl) tells_nil) (fun ds => by kernel_rfl) (fun i β k => by kernel_rfl) (fun β ds k => by kernel_rfl)
theorem t_semigroupref04_shaped_2 (C : CallF) : TS_semigroupref04_shaped C (.loop (codeAt [1, 1, 1, 1, 1, 0, 1, 0, 0] B_semigroupref04_shaped)) :=
  tl3 S85_257 [false, false, true, true, false, false, false] [[1, 2, 0, 0, 0, 5, 6, 7]] (@s_semigroupref04_shaped_2 C) (by kernel_rfl) (ltok_of (bs := []) (by kernel_rfl) tells_nil) (fun ds => by kernel_rfl) (fun i x => by kernel_rfl) (fun i x β k => by kernel_rfl) (fun β ds k => by kernel_rfl)
noncomputable def f_semigroupref04_shaped (C : CallF) (e_0 e_1 : Int) (e_2 : List V) (letters : Int) : Option (List V) :=
  bif decide ((e_0 : Int) ≥ 1) then
   bif (e_0 : Int) == 1 then
    bif (e_0 : Int) == 1 then
     s_semigroupref04_shaped_1 C letters (e_2.length : Int) (((e_2.length : Int) : Int) == 0) ((e_0 : Int) == 3) e_0 e_1 e_2 (fun (ok_1 : Bool) =>
       (Loop (s_semigroupref04_shaped_2L C letters (e_2.length : Int) e_0 e_1 e_2) (ok_1, 0)).bind (un fun (ok_4 : Bool) => un fun (i_5 : Int) (t_6 : Bool) =>
         some [.bool ok_4]))
    else
     bif (e_0 : Int) == 7 then
      bif (e_0 : Int) == 7 then
       s_semigroupref04_shaped_1 C letters (e_2.length : Int) (((e_2.length : Int) : Int) == 1) ((e_0 : Int) == 3) e_0 e_1 e_2 (fun (ok_7 : Bool) =>
         (Loop (s_semigroupref04_shaped_2L C letters (e_2.length : Int) e_0 e_1 e_2) (ok_7, 0)).bind (un fun (ok_8 : Bool) => un fun (i_9 : Int) (t_10 : Bool) =>
           some [.bool ok_8]))
      else
       bif decide ((e_0 : Int) ≤ 8) then
        s_semigroupref04_shaped_1 C letters (e_2.length : Int) (decide (((e_2.length : Int) : Int) ≥ 2)) ((e_0 : Int) == 3) e_0 e_1 e_2 (fun (ok_11 : Bool) =>
          (Loop (s_semigroupref04_shaped_2L C letters (e_2.length : Int) e_0 e_1 e_2) (ok_11, 0)).bind (un fun (ok_12 : Bool) => un fun (i_13 : Int) (t_14 : Bool) =>
            some [.bool ok_12]))
       else
        s_semigroupref04_shaped_1 C letters (e_2.length : Int) false ((e_0 : Int) == 3) e_0 e_1 e_2 (fun (ok_15 : Bool) =>
          (Loop (s_semigroupref04_shaped_2L C letters (e_2.length : Int) e_0 e_1 e_2) (ok_15, 0)).bind (un fun (ok_16 : Bool) => un fun (i_17 : Int) (t_18 : Bool) =>
            some [.bool ok_16]))
     else
      bif (e_0 : Int) == 8 then
       s_semigroupref04_shaped_1 C letters (e_2.length : Int) (((e_2.length : Int) : Int) == 1) ((e_0 : Int) == 3) e_0 e_1 e_2 (fun (ok_19 : Bool) =>
         (Loop (s_semigroupref04_shaped_2L C letters (e_2.length : Int) e_0 e_1 e_2) (ok_19, 0)).bind (un fun (ok_20 : Bool) => un fun (i_21 : Int) (t_22 : Bool) =>
           some [.bool ok_20]))
      else
       bif decide ((e_0 : Int) ≤ 8) then
        s_semigroupref04_shaped_1 C letters (e_2.length : Int) (decide (((e_2.length : Int) : Int) ≥ 2)) ((e_0 : Int) == 3) e_0 e_1 e_2 (fun (ok_23 : Bool) =>
          (Loop (s_semigroupref04_shaped_2L C letters (e_2.length : Int) e_0 e_1 e_2) (ok_23, 0)).bind (un fun (ok_24 : Bool) => un fun (i_25 : Int) (t_26 : Bool) =>
            some [.bool ok_24]))
       else
        s_semigroupref04_shaped_1 C letters (e_2.length : Int) false ((e_0 : Int) == 3) e_0 e_1 e_2 (fun (ok_27 : Bool) =>
          (Loop (s_semigroupref04_shaped_2L C letters (e_2.length : Int) e_0 e_1 e_2) (ok_27, 0)).bind (un fun (ok_28 : Bool) => un fun (i_29 : Int) (t_30 : Bool) =>
            some [.bool ok_28]))
   else
    bif (e_0 : Int) == 2 then
     bif (e_0 : Int) == 2 then
      s_semigroupref04_shaped_1 C letters (e_2.length : Int) (((e_2.length : Int) : Int) == 0) ((e_0 : Int) == 3) e_0 e_1 e_2 (fun (ok_31 : Bool) =>
        (Loop (s_semigroupref04_shaped_2L C letters (e_2.length : Int) e_0 e_1 e_2) (ok_31, 0)).bind (un fun (ok_32 : Bool) => un fun (i_33 : Int) (t_34 : Bool) =>
          some [.bool ok_32]))
     else
      bif (e_0 : Int) == 7 then
       bif (e_0 : Int) == 7 then
        s_semigroupref04_shaped_1 C letters (e_2.length : Int) (((e_2.length : Int) : Int) == 1) ((e_0 : Int) == 3) e_0 e_1 e_2 (fun (ok_35 : Bool) =>
          (Loop (s_semigroupref04_shaped_2L C letters (e_2.length : Int) e_0 e_1 e_2) (ok_35, 0)).bind (un fun (ok_36 : Bool) => un fun (i_37 : Int) (t_38 : Bool) =>
            some [.bool ok_36]))
       else
        bif decide ((e_0 : Int) ≤ 8) then
         s_semigroupref04_shaped_1 C letters (e_2.length : Int) (decide (((e_2.length : Int) : Int) ≥ 2)) ((e_0 : Int) == 3) e_0 e_1 e_2 (fun (ok_39 : Bool) =>
           (Loop (s_semigroupref04_shaped_2L C letters (e_2.length : Int) e_0 e_1 e_2) (ok_39, 0)).bind (un fun (ok_40 : Bool) => un fun (i_41 : Int) (t_42 : Bool) =>
             some [.bool ok_40]))
        else
         s_semigroupref04_shaped_1 C letters (e_2.length : Int) false ((e_0 : Int) == 3) e_0 e_1 e_2 (fun (ok_43 : Bool) =>
           (Loop (s_semigroupref04_shaped_2L C letters (e_2.length : Int) e_0 e_1 e_2) (ok_43, 0)).bind (un fun (ok_44 : Bool) => un fun (i_45 : Int) (t_46 : Bool) =>
             some [.bool ok_44]))
      else
       bif (e_0 : Int) == 8 then
        s_semigroupref04_shaped_1 C letters (e_2.length : Int) (((e_2.length : Int) : Int) == 1) ((e_0 : Int) == 3) e_0 e_1 e_2 (fun (ok_47 : Bool) =>
          (Loop (s_semigroupref04_shaped_2L C letters (e_2.length : Int) e_0 e_1 e_2) (ok_47, 0)).bind (un fun (ok_48 : Bool) => un fun (i_49 : Int) (t_50 : Bool) =>
            some [.bool ok_48]))
       else
        bif decide ((e_0 : Int) ≤ 8) then
         s_semigroupref04_shaped_1 C letters (e_2.length : Int) (decide (((e_2.length : Int) : Int) ≥ 2)) ((e_0 : Int) == 3) e_0 e_1 e_2 (fun (ok_51 : Bool) =>
           (Loop (s_semigroupref04_shaped_2L C letters (e_2.length : Int) e_0 e_1 e_2) (ok_51, 0)).bind (un fun (ok_52 : Bool) => un fun (i_53 : Int) (t_54 : Bool) =>
             some [.bool ok_52]))
        else
         s_semigroupref04_shaped_1 C letters (e_2.length : Int) false ((e_0 : Int) == 3) e_0 e_1 e_2 (fun (ok_55 : Bool) =>
           (Loop (s_semigroupref04_shaped_2L C letters (e_2.length : Int) e_0 e_1 e_2) (ok_55, 0)).bind (un fun (ok_56 : Bool) => un fun (i_57 : Int) (t_58 : Bool) =>
             some [.bool ok_56]))
    else
     bif (e_0 : Int) == 3 then
      s_semigroupref04_shaped_1 C letters (e_2.length : Int) (((e_2.length : Int) : Int) == 0) ((e_0 : Int) == 3) e_0 e_1 e_2 (fun (ok_59 : Bool) =>
        (Loop (s_semigroupref04_shaped_2L C letters (e_2.length : Int) e_0 e_1 e_2) (ok_59, 0)).bind (un fun (ok_60 : Bool) => un fun (i_61 : Int) (t_62 : Bool) =>
          some [.bool ok_60]))
     else
      bif (e_0 : Int) == 7 then
       bif (e_0 : Int) == 7 then
        s_semigroupref04_shaped_1 C letters (e_2.length : Int) (((e_2.length : Int) : Int) == 1) ((e_0 : Int) == 3) e_0 e_1 e_2 (fun (ok_63 : Bool) =>
          (Loop (s_semigroupref04_shaped_2L C letters (e_2.length : Int) e_0 e_1 e_2) (ok_63, 0)).bind (un fun (ok_64 : Bool) => un fun (i_65 : Int) (t_66 : Bool) =>
            some [.bool ok_64]))
       else
        bif decide ((e_0 : Int) ≤ 8) then
         s_semigroupref04_shaped_1 C letters (e_2.length : Int) (decide (((e_2.length : Int) : Int) ≥ 2)) ((e_0 : Int) == 3) e_0 e_1 e_2 (fun (ok_67 : Bool) =>
           (Loop (s_semigroupref04_shaped_2L C letters (e_2.length : Int) e_0 e_1 e_2) (ok_67, 0)).bind (un fun (ok_68 : Bool) => un fun (i_69 : Int) (t_70 : Bool) =>
             some [.bool ok_68]))
        else
         s_semigroupref04_shaped_1 C letters (e_2.length : Int) false ((e_0 : Int) == 3) e_0 e_1 e_2 (fun (ok_71 : Bool) =>
           (Loop (s_semigroupref04_shaped_2L C letters (e_2.length : Int) e_0 e_1 e_2) (ok_71, 0)).bind (un fun (ok_72 : Bool) => un fun (i_73 : Int) (t_74 : Bool) =>
             some [.bool ok_72]))
      else
       bif (e_0 : Int) == 8 then
        s_semigroupref04_shaped_1 C letters (e_2.length : Int) (((e_2.length : Int) : Int) == 1) ((e_0 : Int) == 3) e_0 e_1 e_2 (fun (ok_75 : Bool) =>
          (Loop (s_semigroupref04_shaped_2L C letters (e_2.length : Int) e_0 e_1 e_2) (ok_75, 0)).bind (un fun (ok_76 : Bool) => un fun (i_77 : Int) (t_78 : Bool) =>
            some [.bool ok_76]))
       else
        bif decide ((e_0 : Int) ≤ 8) then
         s_semigroupref04_shaped_1 C letters (e_2.length : Int) (decide (((e_2.length : Int) : Int) ≥ 2)) ((e_0 : Int) == 3) e_0 e_1 e_2 (fun (ok_79 : Bool) =>
           (Loop (s_semigroupref04_shaped_2L C letters (e_2.length : Int) e_0 e_1 e_2) (ok_79, 0)).bind (un fun (ok_80 : Bool) => un fun (i_81 : Int) (t_82 : Bool) =>
             some [.bool ok_80]))
        else
         s_semigroupref04_shaped_1 C letters (e_2.length : Int) false ((e_0 : Int) == 3) e_0 e_1 e_2 (fun (ok_83 : Bool) =>
           (Loop (s_semigroupref04_shaped_2L C letters (e_2.length : Int) e_0 e_1 e_2) (ok_83, 0)).bind (un fun (ok_84 : Bool) => un fun (i_85 : Int) (t_86 : Bool) =>
             some [.bool ok_84]))
  else
   bif (e_0 : Int) == 1 then
    bif (e_0 : Int) == 1 then
     s_semigroupref04_shaped_1 C letters (e_2.length : Int) (((e_2.length : Int) : Int) == 0) ((e_0 : Int) == 3) e_0 e_1 e_2 (fun (ok_87 : Bool) =>
       (Loop (s_semigroupref04_shaped_2L C letters (e_2.length : Int) e_0 e_1 e_2) (ok_87, 0)).bind (un fun (ok_88 : Bool) => un fun (i_89 : Int) (t_90 : Bool) =>
         some [.bool ok_88]))
    else
     bif (e_0 : Int) == 7 then
      bif (e_0 : Int) == 7 then
       s_semigroupref04_shaped_1 C letters (e_2.length : Int) (((e_2.length : Int) : Int) == 1) ((e_0 : Int) == 3) e_0 e_1 e_2 (fun (ok_91 : Bool) =>
         (Loop (s_semigroupref04_shaped_2L C letters (e_2.length : Int) e_0 e_1 e_2) (ok_91, 0)).bind (un fun (ok_92 : Bool) => un fun (i_93 : Int) (t_94 : Bool) =>
           some [.bool ok_92]))
      else
       s_semigroupref04_shaped_1 C letters (e_2.length : Int) false ((e_0 : Int) == 3) e_0 e_1 e_2 (fun (ok_95 : Bool) =>
         (Loop (s_semigroupref04_shaped_2L C letters (e_2.length : Int) e_0 e_1 e_2) (ok_95, 0)).bind (un fun (ok_96 : Bool) => un fun (i_97 : Int) (t_98 : Bool) =>
           some [.bool ok_96]))
     else
      bif (e_0 : Int) == 8 then
       s_semigroupref04_shaped_1 C letters (e_2.length : Int) (((e_2.length : Int) : Int) == 1) ((e_0 : Int) == 3) e_0 e_1 e_2 (fun (ok_99 : Bool) =>
         (Loop (s_semigroupref04_shaped_2L C letters (e_2.length : Int) e_0 e_1 e_2) (ok_99, 0)).bind (un fun (ok_100 : Bool) => un fun (i_101 : Int) (t_102 : Bool) =>
           some [.bool ok_100]))
      else
       s_semigroupref04_shaped_1 C letters (e_2.length : Int) false ((e_0 : Int) == 3) e_0 e_1 e_2 (fun (ok_103 : Bool) =>
         (Loop (s_semigroupref04_shaped_2L C letters (e_2.length : Int) e_0 e_1 e_2) (ok_103, 0)).bind (un fun (ok_104 : Bool) => un fun (i_105 : Int) (t_106 : Bool) =>
           some [.bool ok_104]))
   else
    bif (e_0 : Int) == 2 then
     bif (e_0 : Int) == 2 then
      s_semigroupref04_shaped_1 C letters (e_2.length : Int) (((e_2.length : Int) : Int) == 0) ((e_0 : Int) == 3) e_0 e_1 e_2 (fun (ok_107 : Bool) =>
        (Loop (s_semigroupref04_shaped_2L C letters (e_2.length : Int) e_0 e_1 e_2) (ok_107, 0)).bind (un fun (ok_108 : Bool) => un fun (i_109 : Int) (t_110 : Bool) =>
          some [.bool ok_108]))
     else
      bif (e_0 : Int) == 7 then
       bif (e_0 : Int) == 7 then
        s_semigroupref04_shaped_1 C letters (e_2.length : Int) (((e_2.length : Int) : Int) == 1) ((e_0 : Int) == 3) e_0 e_1 e_2 (fun (ok_111 : Bool) =>
          (Loop (s_semigroupref04_shaped_2L C letters (e_2.length : Int) e_0 e_1 e_2) (ok_111, 0)).bind (un fun (ok_112 : Bool) => un fun (i_113 : Int) (t_114 : Bool) =>
            some [.bool ok_112]))
       else
        s_semigroupref04_shaped_1 C letters (e_2.length : Int) false ((e_0 : Int) == 3) e_0 e_1 e_2 (fun (ok_115 : Bool) =>
          (Loop (s_semigroupref04_shaped_2L C letters (e_2.length : Int) e_0 e_1 e_2) (ok_115, 0)).bind (un fun (ok_116 : Bool) => un fun (i_117 : Int) (t_118 : Bool) =>
            some [.bool ok_116]))
      else
       bif (e_0 : Int) == 8 then
        s_semigroupref04_shaped_1 C letters (e_2.length : Int) (((e_2.length : Int) : Int) == 1) ((e_0 : Int) == 3) e_0 e_1 e_2 (fun (ok_119 : Bool) =>
          (Loop (s_semigroupref04_shaped_2L C letters (e_2.length : Int) e_0 e_1 e_2) (ok_119, 0)).bind (un fun (ok_120 : Bool) => un fun (i_121 : Int) (t_122 : Bool) =>
            some [.bool ok_120]))
       else
        s_semigroupref04_shaped_1 C letters (e_2.length : Int) false ((e_0 : Int) == 3) e_0 e_1 e_2 (fun (ok_123 : Bool) =>
          (Loop (s_semigroupref04_shaped_2L C letters (e_2.length : Int) e_0 e_1 e_2) (ok_123, 0)).bind (un fun (ok_124 : Bool) => un fun (i_125 : Int) (t_126 : Bool) =>
            some [.bool ok_124]))
    else
     bif (e_0 : Int) == 3 then
      s_semigroupref04_shaped_1 C letters (e_2.length : Int) (((e_2.length : Int) : Int) == 0) ((e_0 : Int) == 3) e_0 e_1 e_2 (fun (ok_127 : Bool) =>
        (Loop (s_semigroupref04_shaped_2L C letters (e_2.length : Int) e_0 e_1 e_2) (ok_127, 0)).bind (un fun (ok_128 : Bool) => un fun (i_129 : Int) (t_130 : Bool) =>
          some [.bool ok_128]))
     else
      bif (e_0 : Int) == 7 then
       bif (e_0 : Int) == 7 then
        s_semigroupref04_shaped_1 C letters (e_2.length : Int) (((e_2.length : Int) : Int) == 1) ((e_0 : Int) == 3) e_0 e_1 e_2 (fun (ok_131 : Bool) =>
          (Loop (s_semigroupref04_shaped_2L C letters (e_2.length : Int) e_0 e_1 e_2) (ok_131, 0)).bind (un fun (ok_132 : Bool) => un fun (i_133 : Int) (t_134 : Bool) =>
            some [.bool ok_132]))
       else
        s_semigroupref04_shaped_1 C letters (e_2.length : Int) false ((e_0 : Int) == 3) e_0 e_1 e_2 (fun (ok_135 : Bool) =>
          (Loop (s_semigroupref04_shaped_2L C letters (e_2.length : Int) e_0 e_1 e_2) (ok_135, 0)).bind (un fun (ok_136 : Bool) => un fun (i_137 : Int) (t_138 : Bool) =>
            some [.bool ok_136]))
      else
       bif (e_0 : Int) == 8 then
        s_semigroupref04_shaped_1 C letters (e_2.length : Int) (((e_2.length : Int) : Int) == 1) ((e_0 : Int) == 3) e_0 e_1 e_2 (fun (ok_139 : Bool) =>
          (Loop (s_semigroupref04_shaped_2L C letters (e_2.length : Int) e_0 e_1 e_2) (ok_139, 0)).bind (un fun (ok_140 : Bool) => un fun (i_141 : Int) (t_142 : Bool) =>
            some [.bool ok_140]))
       else
        s_semigroupref04_shaped_1 C letters (e_2.length : Int) false ((e_0 : Int) == 3) e_0 e_1 e_2 (fun (ok_143 : Bool) =>
          (Loop (s_semigroupref04_shaped_2L C letters (e_2.length : Int) e_0 e_1 e_2) (ok_143, 0)).bind (un fun (ok_144 : Bool) => un fun (i_145 : Int) (t_146 : Bool) =>
            some [.bool ok_144]))
theorem f_semigroupref04_shaped_of {e_0 e_1 : Int} {e_2 : List V} {letters : Int} {r : Option (List V)} (h : f_semigroupref04_shaped CC e_0 e_1 e_2 letters = r) : CC F_semigroupref04_shaped [.int .i64 e_0, .int .i64 e_1, .list T_api_Expr e_2, .int .i64 letters] = r :=
  func_of (key := 85) (L := LT_semigroupref04_shaped CC) (bs := [.cond 39 (codeAt [1, 1, 1, 1, 0, 1, 0] B_semigroupref04_shaped) (codeAt [1, 1, 1, 1, 0, 1, 1] B_semigroupref04_shaped), .loop (codeAt [1, 1, 1, 1, 1, 0, 1, 0, 0] B_semigroupref04_shaped)]) (by kernel_rfl) (tells_cons (t_semigroupref04_shaped_1 CC) (tells_cons (t_semigroupref04_shaped_2 CC) tells_nil)) (Eq.trans (by kernel_rfl) h)
end Go.AM
set_option maxRecDepth 100000
namespace Go.AM
open Go.Proofs
noncomputable def f_semigroupref01_MayLetters (C : CallF) (letters : Int) : Option (List V) :=
  bif decide ((letters : Int) ≥ 1) then
   some [.bool (decide ((letters : Int) ≤ 6))]
  else
   some [.bool false]
theorem f_semigroupref01_MayLetters_of {letters : Int} {r : Option (List V)} (h : f_semigroupref01_MayLetters CC letters = r) : CC F_semigroupref01_MayLetters [.int .i64 letters] = r :=
  func_of (key := 37) (L := LT0) (bs := []) (by kernel_rfl) tells_nil (Eq.trans (by kernel_rfl) h)
end Go.AM
set_option maxRecDepth 100000
set_option linter.unusedSimpArgs false
namespace Go.AM
open Go.Proofs Ex
theorem idx_kid (pre suf : List Ex) (k : Ex) : idx ((pre ++ k :: suf).map enc) (pre.length : Int) = some k.enc := by
  rw [idx_nat]; simp
theorem enc_0 (k : Ex) : (k.enc.cell 0).toInt = k.op := by rw [enc_eq]; simp
theorem enc_1 (k : Ex) : (k.enc.cell 1).toInt = k.letter := by rw [enc_eq]; simp
theorem enc_2 (k : Ex) : (k.enc.cell 2).toList = k.kids.map enc := by rw [enc_eq]; simp
theorem fits_loop {ks : List Ex} (hlen : ks.length ≤ maxLen) {d : Int} (hd : 0 ≤ d ∧ d ≤ 1000) (ih : ∀ k ∈ ks, ∀ d l : Int, 0 ≤ d → d ≤ 1000 → 0 ≤ l → l ≤ 1000 → ∃ l', CC F_expr_fits (exA k [.int .i64 d, .int .i64 l]) = some [.bool (decide ((k.depth : Int) ≤ d ∧ (k.size : Int) ≤ l)), .int .i64 l'] ∧ 0 ≤ l' ∧ l' ≤ l ∧ (((k.depth : Int) ≤ d ∧ (k.size : Int) ≤ l) → l' = l - k.size)) :
    ∀ (suf pre : List Ex) (l : Int), ks = pre ++ suf → 0 ≤ l → l ≤ 1000 → 1 ≤ d →
    (∃ l' : Int, Loop (s_expr_fits_1L CC d (ks.map enc) ((ks.map enc).length : Int)) (((pre.length : Nat) : Int), l) = some (.inl (false, l')) ∧ ¬ ((depths suf : Int) ≤ d - 1 ∧ (sizes suf : Int) ≤ l) ∧ 0 ≤ l' ∧ l' ≤ l) ∨
    (∃ i b, Loop (s_expr_fits_1L CC d (ks.map enc) ((ks.map enc).length : Int)) (((pre.length : Nat) : Int), l) = some (.inr (i, b, l - sizes suf)) ∧ ((depths suf : Int) ≤ d - 1 ∧ (sizes suf : Int) ≤ l)) := by
  intro suf
  induction suf with
  | nil =>
    intro pre l hks h0 h1 hd1
    subst hks
    refine .inr ⟨((pre.length : Nat) : Int), false, ?_, ?_⟩
    · have hz : l - ((sizes ([] : List Ex) : Nat) : Int) = l := by simp only [sizes]; omega
      rw [hz]
      refine Loop_end ?_
      simp only [s_expr_fits_1L, s_expr_fits_1, un, List.append_nil, List.length_map, bif_decide]
      rw [if_neg (by omega)]
      simp
    · simp only [depths, sizes]; omega
  | cons k suf ihs =>
    intro pre l hks h0 h1 hd1
    obtain ⟨l', e1, e2, e3, e4⟩ := ih k (by rw [hks]; simp) (d - 1) l (by omega) (by omega) h0 h1
    have hpl : pre.length < ks.length := by rw [hks]; simp
    have := maxLen_le
    have hix : idx (ks.map enc) (pre.length : Int) = some k.enc := by rw [hks]; exact idx_kid _ _ _
    by_cases hk : (k.depth : Int) ≤ d - 1 ∧ (k.size : Int) ≤ l
    · have hstep : s_expr_fits_1L CC d (ks.map enc) ((ks.map enc).length : Int) (((pre.length : Nat) : Int), l) = some (.inl ((((pre ++ [k]).length : Nat) : Int), l')) := by
        simp only [s_expr_fits_1L, s_expr_fits_1, un, List.length_map, bif_decide]
        rw [if_pos (by omega), hix]
        simp only [Option.bind_some, enc_0, enc_1, enc_2]
        rw [wrap64 (by omega) (by omega), e1]
        simp only [Option.bind_some, V.nth_zero, V.toBool_bool, decide_eq_true hk, Bool.not_true, cond_false, List.drop_succ_cons, List.drop_zero, V.toInt_int]
        rw [wrap64 (by omega) (by omega)]
        simp
      rw [Loop_norm hstep]
      have e5 := e4 hk
      rcases ihs (pre ++ [k]) l' (by rw [hks]; simp) e2 (by omega) hd1 with ⟨l2, q1, q2, q3, q4⟩ | ⟨i, b, q1, q2⟩
      · refine .inl ⟨l2, q1, ?_, q3, by omega⟩
        simp only [depths, sizes]; omega
      · refine .inr ⟨i, b, q1.trans ?_, ?_⟩
        · simp only [sizes]
          congr 4
          omega
        · simp only [depths, sizes]; omega
    · refine .inl ⟨l', Loop_end ?_, ?_, e2, e3⟩
      · simp only [s_expr_fits_1L, s_expr_fits_1, un, List.length_map, bif_decide]
        rw [if_pos (by omega), hix]
        simp only [Option.bind_some, enc_0, enc_1, enc_2]
        rw [wrap64 (by omega) (by omega), e1]
        simp only [Option.bind_some, V.nth_zero, V.toBool_bool, decide_eq_false hk, Bool.not_false, cond_true, List.drop_succ_cons, List.drop_zero, V.toInt_int]
      · simp only [depths, sizes]; omega
theorem fits_spec : ∀ e : Ex, e.Ok → ∀ d l : Int, 0 ≤ d → d ≤ 1000 → 0 ≤ l → l ≤ 1000 →
    ∃ l', CC F_expr_fits (exA e [.int .i64 d, .int .i64 l]) = some [.bool (decide ((e.depth : Int) ≤ d ∧ (e.size : Int) ≤ l)), .int .i64 l'] ∧ 0 ≤ l' ∧ l' ≤ l ∧ (((e.depth : Int) ≤ d ∧ (e.size : Int) ≤ l) → l' = l - e.size) :=
  ind fun o lt ks ih hok d l h1 h2 h3 h4 => by
    have ih' : ∀ k ∈ ks, _ := fun k hk => ih k hk (hok.kid k hk)
    have hs : ∀ e : Ex, e = .node o lt ks → e.size = 1 + sizes ks ∧ e.depth = 1 + depths ks := by rintro e rfl; constructor <;> simp only [size, depth]
    obtain ⟨s1, s2⟩ := hs _ rfl
    by_cases hd : d = 0
    · have hn : ¬ (((Ex.node o lt ks).depth : Int) ≤ d ∧ ((Ex.node o lt ks).size : Int) ≤ l) := by omega
      refine ⟨l, f_expr_fits_of ?_, h3, Int.le_refl _, fun h => absurd h hn⟩
      simp only [f_expr_fits, bif_beq, if_pos hd, decide_eq_false hn]
    · by_cases hl : l = 0
      · have hn : ¬ (((Ex.node o lt ks).depth : Int) ≤ d ∧ ((Ex.node o lt ks).size : Int) ≤ l) := by omega
        refine ⟨l, f_expr_fits_of ?_, h3, Int.le_refl _, fun h => absurd h hn⟩
        simp only [f_expr_fits, bif_beq, if_neg hd, if_pos hl, decide_eq_false hn]
      · rcases fits_loop hok.len ⟨h1, h2⟩ ih' ks [] (l - 1) rfl (by omega) (by omega) (by omega) with ⟨l', q1, q2, q3, q4⟩ | ⟨i, b, q1, q2⟩
        · have hn : ¬ (((Ex.node o lt ks).depth : Int) ≤ d ∧ ((Ex.node o lt ks).size : Int) ≤ l) := by omega
          refine ⟨l', f_expr_fits_of ?_, q3, by omega, fun h => absurd h hn⟩
          simp only [f_expr_fits, bif_beq, if_neg hd, if_neg hl, decide_eq_false hn, Ex.kids]
          rw [wrap64 (by omega) (by omega)]
          simp only [List.length_nil, Int.ofNat_zero, Int.natCast_zero] at q1
          erw [q1]
          rfl
        · have hn : (((Ex.node o lt ks).depth : Int) ≤ d ∧ ((Ex.node o lt ks).size : Int) ≤ l) := by omega
          refine ⟨l - 1 - sizes ks, f_expr_fits_of ?_, by omega, by omega, fun _ => by omega⟩
          simp only [f_expr_fits, bif_beq, if_neg hd, if_neg hl, decide_eq_true hn, Ex.kids]
          rw [wrap64 (by omega) (by omega)]
          simp only [List.length_nil, Int.ofNat_zero, Int.natCast_zero] at q1
          erw [q1]
          rfl
theorem withinLimits_spec (e : Ex) (h : e.Ok) : CC F_expr_withinLimits (exA e []) = some [.bool (decide (e.depth ≤ 40 ∧ e.size ≤ 400))] := by
  obtain ⟨l', e1, _⟩ := fits_spec e h 40 400 (by omega) (by omega) (by omega) (by omega)
  refine f_expr_withinLimits_of ?_
  simp only [f_expr_withinLimits]
  rw [e1]
  simp only [Option.bind_some, V.nth_zero, V.toBool_bool]
  congr 3
  rw [decide_eq_decide]
  omega
theorem measure_loop {ks : List Ex} (hlen : ks.length ≤ maxLen) {a b most : Int} (hm : 1 ≤ most ∧ most ≤ 1000) (ih : ∀ k ∈ ks, ∃ d, CC F_semigroupref04_measure (exA k [.int .i64 most]) = some [.int .i64 (min (k.size : Int) (most + 1)), .int .i64 d] ∧ ((k.size : Int) ≤ most → d = k.depth)) :
    ∀ (suf pre : List Ex) (n deep : Int), ks = pre ++ suf → 1 ≤ n → n ≤ most + 1 → 0 ≤ deep →
    ∃ deep' i b', Loop (s_semigroupref04_measure_1L CC most a b (ks.map enc)) (n, deep, ((pre.length : Nat) : Int)) = some (min (n + (sizes suf : Int)) (most + 1), deep', i, b') ∧ (n + (sizes suf : Int) ≤ most → deep' = max deep (depths suf)) := by
  intro suf
  induction suf with
  | nil =>
    intro pre n deep hks h0 h1 hdp
    subst hks
    refine ⟨deep, ((pre.length : Nat) : Int), false, ?_, fun _ => ?_⟩
    · have hz : min (n + ((sizes ([] : List Ex) : Nat) : Int)) (most + 1) = n := by simp only [sizes]; omega
      rw [hz]
      refine Loop_end ?_
      simp only [s_semigroupref04_measure_1L, s_semigroupref04_measure_1, un, List.append_nil, List.length_map, bif_decide]
      rw [if_neg (by omega)]
    · simp only [depths]; omega
  | cons k suf ihs =>
    intro pre n deep hks h0 h1 hdp
    have hpl : pre.length < ks.length := by rw [hks]; simp
    have := maxLen_le
    have hix : idx (ks.map enc) (pre.length : Int) = some k.enc := by rw [hks]; exact idx_kid _ _ _
    have hkp := size_pos k
    by_cases hn : n ≤ most
    · obtain ⟨d, e1, e2⟩ := ih k (by rw [hks]; simp)
      have hstep : ∃ dd, s_semigroupref04_measure_1L CC most a b (ks.map enc) (n, deep, ((pre.length : Nat) : Int)) = some (.inl (min (n + (k.size : Int)) (most + 1), dd, (((pre ++ [k]).length : Nat) : Int))) ∧ dd = max deep d := by
        refine ⟨max deep d, ?_, rfl⟩
        simp only [s_semigroupref04_measure_1L, s_semigroupref04_measure_1, un, List.length_map, bif_decide]
        rw [if_pos (by omega), if_pos hn, hix]
        simp only [Option.bind_some, enc_0, enc_1, enc_2]
        rw [e1]
        simp only [Option.bind_some, V.nth_zero, List.drop_succ_cons, List.drop_zero, V.toInt_int]
        rw [wrap64 (by omega) (by omega), wrap64 (by omega) (by omega), wrap64 (by omega) (by omega)]
        have r1 : (if most + 1 < n + min (k.size : Int) (most + 1) then most + 1 else n + min (k.size : Int) (most + 1)) = min (n + (k.size : Int)) (most + 1) := by split <;> omega
        have r2 : (if d > deep then d else deep) = max deep d := by split <;> omega
        rw [r1, r2]
        simp
      obtain ⟨dd, hs1, rfl⟩ := hstep
      rw [Loop_norm hs1]
      obtain ⟨deep', i, b', q1, q2⟩ := ihs (pre ++ [k]) (min (n + (k.size : Int)) (most + 1)) (max deep d) (by rw [hks]; simp) (by omega) (by omega) (by omega)
      refine ⟨deep', i, b', q1.trans ?_, fun h => ?_⟩
      · simp only [sizes]
        congr 2
        omega
      · simp only [sizes] at h
        rw [q2 (by omega), e2 (by omega)]
        simp only [depths]
        omega
    · refine ⟨deep, ((pre.length : Nat) : Int), false, ?_, fun h => ?_⟩
      · have hz : min (n + ((sizes (k :: suf) : Nat) : Int)) (most + 1) = n := by simp only [sizes]; omega
        rw [hz]
        refine Loop_end ?_
        simp only [s_semigroupref04_measure_1L, s_semigroupref04_measure_1, un, List.length_map, bif_decide]
        rw [if_pos (by omega), if_neg hn]
        simp [hn]
      · omega
theorem measure_spec : ∀ e : Ex, e.Ok → ∀ most : Int, 1 ≤ most → most ≤ 1000 → ∃ d, CC F_semigroupref04_measure (exA e [.int .i64 most]) = some [.int .i64 (min (e.size : Int) (most + 1)), .int .i64 d] ∧ ((e.size : Int) ≤ most → d = e.depth) :=
  ind fun o lt ks ih hok most h1 h2 => by
    obtain ⟨deep', i, b', q1, q2⟩ := measure_loop (a := o) (b := lt) hok.len ⟨h1, h2⟩ (fun k hk => ih k hk (hok.kid k hk) most h1 h2) ks [] 1 0 rfl (by omega) (by omega) (by omega)
    have s1 : (Ex.node o lt ks).size = 1 + sizes ks := by simp only [size]
    have s2 : (Ex.node o lt ks).depth = 1 + depths ks := by simp only [depth]
    have s3 := depth_le_size (.node o lt ks)
    refine ⟨IntKind.wrap .i64 (deep' + 1), f_semigroupref04_measure_of ?_, fun h => ?_⟩
    · simp only [f_semigroupref04_measure, Ex.kids, Ex.op, Ex.letter]
      simp only [List.length_nil, Int.ofNat_zero, Int.natCast_zero] at q1
      erw [q1]
      simp only [Option.bind_some, un]
      rw [show (1 : Int) + (sizes ks : Int) = ((Ex.node o lt ks).size : Int) by omega]
    · rw [q2 (by omega), wrap64 (by omega) (by omega)]
      omega
def shapeOk (o l len letters : Int) : Bool :=
  if o = 3 then decide (len = 0 ∧ 0 ≤ l ∧ l < letters)
  else decide (l = 0) && (if o = 1 ∨ o = 2 then decide (len = 0) else if o = 7 ∨ o = 8 then decide (len = 1) else decide (4 ≤ o ∧ o ≤ 6 ∧ 2 ≤ len))
mutual
def Ex.wf (letters : Int) : Ex → Bool
  | .node o l ks => shapeOk o l ks.length letters && wfs letters ks
def Ex.wfs (letters : Int) : List Ex → Bool
  | [] => true
  | k :: ks => Ex.wf letters k && wfs letters ks
end
theorem wf_loop {ks : List Ex} (hlen : ks.length ≤ maxLen) {letters : Int} (ih : ∀ k ∈ ks, CC F_expr_wellFormed (exA k [.int .i64 letters]) = some [.bool (k.wf letters)]) :
    ∀ (suf pre : List Ex), ks = pre ++ suf →
    (Loop (s_expr_wellFormed_1L CC letters (ks.map enc) ((ks.map enc).length : Int)) ((pre.length : Nat) : Int) = some (.inl false) ∧ wfs letters suf = false) ∨
    (∃ i b, Loop (s_expr_wellFormed_1L CC letters (ks.map enc) ((ks.map enc).length : Int)) ((pre.length : Nat) : Int) = some (.inr (i, b)) ∧ wfs letters suf = true) := by
  intro suf
  induction suf with
  | nil =>
    intro pre hks
    subst hks
    refine .inr ⟨((pre.length : Nat) : Int), false, Loop_end ?_, by simp only [wfs]⟩
    simp only [s_expr_wellFormed_1L, s_expr_wellFormed_1, List.append_nil, List.length_map, bif_decide]
    rw [if_neg (by omega)]
    simp
  | cons k suf ihs =>
    intro pre hks
    have hpl : pre.length < ks.length := by rw [hks]; simp
    have := maxLen_le
    have hix : idx (ks.map enc) (pre.length : Int) = some k.enc := by rw [hks]; exact idx_kid _ _ _
    have e1 := ih k (by rw [hks]; simp)
    cases hw : k.wf letters with
    | true =>
      have hstep : s_expr_wellFormed_1L CC letters (ks.map enc) ((ks.map enc).length : Int) ((pre.length : Nat) : Int) = some (.inl (((pre ++ [k]).length : Nat) : Int)) := by
        simp only [s_expr_wellFormed_1L, s_expr_wellFormed_1, List.length_map, bif_decide]
        rw [if_pos (by omega), hix]
        simp only [Option.bind_some, enc_0, enc_1, enc_2]
        rw [e1, hw]
        simp only [Option.bind_some, V.nth_zero, V.toBool_bool, Bool.not_true, cond_false]
        rw [wrap64 (by omega) (by omega)]
        simp
      rw [Loop_norm hstep]
      simp only [wfs, hw, Bool.true_and]
      exact ihs (pre ++ [k]) (by rw [hks]; simp)
    | false =>
      refine .inl ⟨Loop_end ?_, by simp only [wfs, hw, Bool.false_and]⟩
      simp only [s_expr_wellFormed_1L, s_expr_wellFormed_1, List.length_map, bif_decide]
      rw [if_pos (by omega), hix]
      simp only [Option.bind_some, enc_0, enc_1, enc_2]
      rw [e1, hw]
      simp only [Option.bind_some, V.nth_zero, V.toBool_bool, Bool.not_false, cond_true]
theorem op_cases (o : Int) : o = 1 ∨ o = 2 ∨ o = 3 ∨ o = 4 ∨ o = 5 ∨ o = 6 ∨ o = 7 ∨ o = 8 ∨ (o < 1 ∨ 8 < o) := by omega
theorem wellFormed_spec {letters : Int} : ∀ e : Ex, e.Ok → CC F_expr_wellFormed (exA e [.int .i64 letters]) = some [.bool (e.wf letters)] :=
  ind fun o lt ks ih hok => by
    refine f_expr_wellFormed_of ?_
    have hlen : ((ks.map enc).length : Int) = (ks.length : Int) := by simp
    have hl := wf_loop hok.len (fun k hk => ih k hk (hok.kid k hk)) ks [] rfl
    simp only [List.length_nil, Int.natCast_zero, Int.ofNat_zero] at hl
    have hall : (Loop (s_expr_wellFormed_1L CC letters (ks.map enc) ((ks.map enc).length : Int)) 0).bind (way2 (fun (t : Bool) => some [V.bool t]) (un fun (_ : Int) (_ : Bool) => some [V.bool true])) = some [.bool (wfs letters ks)] := by
      rcases hl with ⟨h1, h2⟩ | ⟨i, b, h1, h2⟩
      · erw [h1]; rw [h2]; rfl
      · erw [h1]; rw [h2]; rfl
    simp only [Ex.op, Ex.letter, Ex.kids]
    unfold f_expr_wellFormed
    rw [hall, hlen]
    simp only [Ex.wf, shapeOk]
    have hk0 : ks.length = 0 → wfs letters ks = true := fun h => by rw [List.eq_nil_of_length_eq_zero h]; simp only [wfs]
    rcases op_cases o with rfl | rfl | rfl | rfl | rfl | rfl | rfl | rfl | ho
    case inr.inr.inr.inr.inr.inr.inr.inr =>
      have n1 : o ≠ 1 := by omega
      have n2 : o ≠ 2 := by omega
      have n3 : o ≠ 3 := by omega
      have n4 : o ≠ 4 := by omega
      have n5 : o ≠ 5 := by omega
      have n6 : o ≠ 6 := by omega
      have n7 : o ≠ 7 := by omega
      have n8 : o ≠ 8 := by omega
      have n9 : ¬ (4 ≤ o ∧ o ≤ 6 ∧ 2 ≤ (ks.length : Int)) := by omega
      by_cases hlt : lt = 0 <;> simp [n1, n2, n3, n4, n5, n6, n7, n8, n9, hlt]
    all_goals by_cases hlt : lt = 0 <;> by_cases h0 : ks.length = 0 <;> by_cases h1 : ks.length = 1 <;> simp [hlt, h0, h1, hk0]
    all_goals (try omega)
    all_goals (try (split <;> simp_all <;> omega))
theorem shaped1 {C : CallF} {letters k o lt : Int} {ok t : Bool} {es : List V} {β : Type} (kr : Bool → Option β) : s_semigroupref04_shaped_1 C letters k ok t o lt es kr = kr (ok && (bif t then decide (0 ≤ lt ∧ lt < letters) else decide (lt = 0))) := by
  unfold s_semigroupref04_shaped_1
  have hb : (lt == 0) = decide (lt = 0) := by rw [Bool.eq_iff_iff]; simp
  rw [hb]
  cases t <;> cases ok <;> first | rfl | skip
  by_cases h : 0 ≤ lt <;> simp [h]
theorem shaped_loop {ks : List Ex} (hlen : ks.length ≤ maxLen) {letters o lt : Int} (ih : ∀ k ∈ ks, CC F_semigroupref04_shaped (exA k [.int .i64 letters]) = some [.bool (k.wf letters)]) :
    ∀ (suf pre : List Ex) (ok : Bool), ks = pre ++ suf →
    ∃ i b, Loop (s_semigroupref04_shaped_2L CC letters (ks.length : Int) o lt (ks.map enc)) (ok, ((pre.length : Nat) : Int)) = some (ok && wfs letters suf, i, b) := by
  intro suf
  induction suf with
  | nil =>
    intro pre ok hks
    subst hks
    refine ⟨((pre.length : Nat) : Int), false, Loop_end ?_⟩
    simp only [s_semigroupref04_shaped_2L, s_semigroupref04_shaped_2, un, List.append_nil, bif_decide]
    rw [if_neg (by omega)]
    simp [wfs]
  | cons k suf ihs =>
    intro pre ok hks
    have hpl : pre.length < ks.length := by rw [hks]; simp
    have := maxLen_le
    have hix : idx (ks.map enc) (pre.length : Int) = some k.enc := by rw [hks]; exact idx_kid _ _ _
    have e1 := ih k (by rw [hks]; simp)
    cases ok with
    | true =>
      have hstep : s_semigroupref04_shaped_2L CC letters (ks.length : Int) o lt (ks.map enc) (true, ((pre.length : Nat) : Int)) = some (.inl (k.wf letters, (((pre ++ [k]).length : Nat) : Int))) := by
        simp only [s_semigroupref04_shaped_2L, s_semigroupref04_shaped_2, un, bif_decide, cond_true]
        rw [if_pos (by omega), hix]
        simp only [Option.bind_some, enc_0, enc_1, enc_2]
        rw [e1]
        simp only [Option.bind_some, V.nth_zero, V.toBool_bool]
        rw [wrap64 (by omega) (by omega)]
        simp
      rw [Loop_norm hstep]
      simp only [wfs, Bool.true_and]
      exact ihs (pre ++ [k]) _ (by rw [hks]; simp)
    | false =>
      refine ⟨((pre.length : Nat) : Int), false, Loop_end ?_⟩
      simp only [s_semigroupref04_shaped_2L, s_semigroupref04_shaped_2, un, bif_decide, cond_false]
      rw [if_pos (by omega)]
      simp
theorem shaped_spec {letters : Int} : ∀ e : Ex, e.Ok → CC F_semigroupref04_shaped (exA e [.int .i64 letters]) = some [.bool (e.wf letters)] :=
  ind fun o lt ks ih hok => by
    refine f_semigroupref04_shaped_of ?_
    have hlen : ((ks.map enc).length : Int) = (ks.length : Int) := by simp
    have hall : ∀ ok : Bool, (Loop (s_semigroupref04_shaped_2L CC letters (ks.length : Int) o lt (ks.map enc)) (ok, 0)).bind (un fun (ok : Bool) => un fun (_ : Int) (_ : Bool) => some [V.bool ok]) = some [.bool (ok && wfs letters ks)] := by
      intro ok
      obtain ⟨i, b, h⟩ := shaped_loop hok.len (o := o) (lt := lt) (fun k hk => ih k hk (hok.kid k hk)) ks [] ok rfl
      simp only [List.length_nil, Int.natCast_zero, Int.ofNat_zero] at h
      erw [h]; rfl
    simp only [Ex.op, Ex.letter, Ex.kids]
    unfold f_semigroupref04_shaped
    simp only [shaped1, hlen, hall]
    simp only [Ex.wf, shapeOk]
    have hk0 : ks.length = 0 → wfs letters ks = true := fun h => by rw [List.eq_nil_of_length_eq_zero h]; simp only [wfs]
    rcases op_cases o with rfl | rfl | rfl | rfl | rfl | rfl | rfl | rfl | ho
    case inr.inr.inr.inr.inr.inr.inr.inr =>
      have n1 : o ≠ 1 := by omega
      have n2 : o ≠ 2 := by omega
      have n3 : o ≠ 3 := by omega
      have n4 : o ≠ 4 := by omega
      have n5 : o ≠ 5 := by omega
      have n6 : o ≠ 6 := by omega
      have n7 : o ≠ 7 := by omega
      have n8 : o ≠ 8 := by omega
      have n9 : ¬ (4 ≤ o ∧ o ≤ 6 ∧ 2 ≤ (ks.length : Int)) := by omega
      by_cases h1 : 1 ≤ o
      · have h2 : ¬ o ≤ 8 := by omega
        simp [n1, n2, n3, n4, n5, n6, n7, n8, n9, h1, h2]
      · simp [n1, n2, n3, n4, n5, n6, n7, n8, n9, h1]
    all_goals by_cases hlt : lt = 0 <;> by_cases h0 : ks.length = 0 <;> by_cases h1 : ks.length = 1 <;> simp [hlt, h0, h1, hk0]
    all_goals (try omega)
    all_goals (try (split <;> simp_all <;> omega))
    all_goals (try (by_cases h5 : 2 ≤ ks.length <;> simp [h5]))
    all_goals (rw [show ((ks.length : Int) == 1) = decide ((ks.length : Int) = 1) from by rw [Bool.eq_iff_iff]; simp])
theorem mayLetters_spec (letters : Int) : CC F_semigroupref01_MayLetters [.int .i64 letters] = some [.bool (decide (1 ≤ letters ∧ letters ≤ 6))] := by
  refine f_semigroupref01_MayLetters_of ?_
  unfold f_semigroupref01_MayLetters
  by_cases h1 : 1 ≤ letters <;> by_cases h2 : letters ≤ 6 <;> simp [h1, h2]
theorem within_spec (e : Ex) (h : e.Ok) : CC F_semigroupref04_Within (exA e []) = some [.bool (decide (e.depth ≤ 40 ∧ e.size ≤ 400))] := by
  obtain ⟨d, e1, e2⟩ := measure_spec e h 400 (by omega) (by omega)
  refine f_semigroupref04_Within_of ?_
  unfold f_semigroupref04_Within
  rw [e1]
  simp only [Option.bind_some, V.nth_zero, V.toInt_int, bif_decide, List.drop_succ_cons, List.drop_zero]
  by_cases hs : e.size ≤ 400
  · rw [if_pos (by omega), e2 (by omega)]
    congr 3
    rw [decide_eq_decide]
    omega
  · rw [if_neg (by omega)]
    congr 3
    simp [hs]
def Ex.val (e : Ex) (letters : Int) : Int :=
  if 1 ≤ letters ∧ letters ≤ 6 then (if e.depth ≤ 40 ∧ e.size ≤ 400 then (if e.wf letters = true then 0 else 4) else 3) else 1
theorem exVal_spec (e : Ex) (h : e.Ok) (letters : Int) : CC F_expr_Validate (exA e [.int .i64 letters]) = some [.int .i64 (e.val letters)] := by
  refine f_expr_Validate_of ?_
  unfold f_expr_Validate Ex.val
  rw [withinLimits_spec e h, wellFormed_spec e h]
  by_cases h1 : 1 ≤ letters
  · by_cases h2 : letters ≤ 6
    · by_cases h3 : e.depth ≤ 40 ∧ e.size ≤ 400
      · cases h4 : e.wf letters <;> simp [h1, h2, h3, show ¬ letters < 1 by omega, show ¬ 6 < letters by omega]
      · simp [h1, h2, h3, show ¬ letters < 1 by omega, show ¬ 6 < letters by omega]
    · simp [h1, h2, show ¬ letters < 1 by omega, show 6 < letters by omega]
  · simp [h1, show letters < 1 by omega]
theorem exRefVal_spec (e : Ex) (h : e.Ok) (letters : Int) : CC F_semigroupref04_Validate (exA e [.int .i64 letters]) = some [.int .i64 (e.val letters)] := by
  refine f_semigroupref04_Validate_of ?_
  unfold f_semigroupref04_Validate Ex.val
  rw [within_spec e h, shaped_spec e h, mayLetters_spec]
  by_cases h1 : 1 ≤ letters ∧ letters ≤ 6
  · by_cases h3 : e.depth ≤ 40 ∧ e.size ≤ 400
    · cases h4 : e.wf letters <;> simp [h1, h3]
    · simp [h1, h3]
  · simp [h1]
end Go.AM
set_option maxRecDepth 100000
set_option linter.unusedSimpArgs false
namespace Go.AM
open Go.Proofs Ex
theorem find_loop {X R : Type} {step : X → Option (X ⊕ R)} {ks : List Ex} (st : Nat → X) (p : Ex → Bool) (r1 : Nat → R) (r2 : R)
    (h : ∀ pre k suf, ks = pre ++ k :: suf → step (st pre.length) = if p k = true then some (.inr (r1 pre.length)) else some (.inl (st (pre.length + 1)))) (he : step (st ks.length) = some (.inr r2)) :
    ∀ suf pre, ks = pre ++ suf → (suf.any p = true ∧ ∃ i, Loop step (st pre.length) = some (r1 i)) ∨ (suf.any p = false ∧ Loop step (st pre.length) = some r2) := by
  intro suf
  induction suf with
  | nil =>
    intro pre hks
    have : pre.length = ks.length := by rw [hks]; simp
    rw [this]
    exact .inr ⟨rfl, Loop_end he⟩
  | cons k suf ih =>
    intro pre hks
    have h1 := h pre k suf hks
    cases hp : p k with
    | true =>
      rw [if_pos hp] at h1
      exact .inl ⟨by simp [hp], _, Loop_end h1⟩
    | false =>
      rw [if_neg (by simp [hp])] at h1
      rw [Loop_norm h1]
      have := ih (pre ++ [k]) (by rw [hks]; simp)
      simpa [hp] using this
end Go.AM
set_option maxRecDepth 100000
namespace Go.AM
open Go.Proofs
noncomputable abbrev B_semigroupref04_Uses : Code := bodyOf Tryd.prog (ann.fid 66)
noncomputable def s_semigroupref04_Uses_1 (C : CallF) (op : Int) (t12 : List V) (t13 t14 : Int) {β : Type} (kn : Int → Option β) (kr : ((Bool) ⊕ (Int × Bool)) → Option β) : Option β :=
  bif decide ((t14 : Int) < t13) then
   (idx t12 t14).bind fun x1 =>
   (C F_semigroupref04_Uses [.int .i64 ((x1.cell 0).toInt), .int .i64 ((x1.cell 1).toInt), .list T_api_Expr ((x1.cell 2).toList), .int .i64 op]).bind fun r2 =>
   bif (V.nth r2 0).toBool then
    kr (.inl true)
   else
    kn (IntKind.wrap .i64 (t14 + 1))
  else
   kr (.inr (t14, decide ((t14 : Int) < t13)))
noncomputable def s_semigroupref04_Uses_1L (C : CallF) (op : Int) (t12 : List V) (t13 : Int) : (Int) → Option ((Int) ⊕ ((Bool) ⊕ (Int × Bool))) := fun t14 => s_semigroupref04_Uses_1 C op t12 t13 t14 (fun y => some (.inl y)) (fun r => some (.inr r))
noncomputable def LT_semigroupref04_Uses (C : CallF) : LTab := fun β n ds k =>
  bif Nat.beq n 65 then loopS S66_65 [false, false, false, true] [[0], [1, 2, 3, 0, 0]] (@s_semigroupref04_Uses_1 C) ds k else
  none
abbrev TS_semigroupref04_Uses (C : CallF) (b : Bar) : Prop := Tells Tryd.prog ann C (LT_semigroupref04_Uses C) 66 (ntmpsOf Tryd.prog (ann.fid 66)) (ann.sin 66).blks.length b
theorem t_semigroupref04_Uses_1 (C : CallF) : TS_semigroupref04_Uses C (.loop (codeAt [1, 1, 0, 1, 0, 0] B_semigroupref04_Uses)) :=
  tl3 S66_65 [false, false, false, true] [[0], [1, 2, 3, 0, 0]] (@s_semigroupref04_Uses_1 C) (by kernel_rfl) (ltok_of (bs := []) (by kernel_rfl) tells_nil) (fun ds => by kernel_rfl) (fun i x => by kernel_rfl) (fun i x β k => by kernel_rfl) (fun β ds k => by kernel_rfl)
noncomputable def f_semigroupref04_Uses (C : CallF) (e_0 e_1 : Int) (e_2 : List V) (op : Int) : Option (List V) :=
  bif (e_0 : Int) == op then
   some [.bool true]
  else
   (Loop (s_semigroupref04_Uses_1L C op e_2 (e_2.length : Int)) 0).bind (way2 (fun (t_3 : Bool) =>
     some [.bool t_3]) (un fun (t_4 : Int) (t_5 : Bool) =>
     some [.bool false]))
theorem f_semigroupref04_Uses_of {e_0 e_1 : Int} {e_2 : List V} {op : Int} {r : Option (List V)} (h : f_semigroupref04_Uses CC e_0 e_1 e_2 op = r) : CC F_semigroupref04_Uses [.int .i64 e_0, .int .i64 e_1, .list T_api_Expr e_2, .int .i64 op] = r :=
  func_of (key := 66) (L := LT_semigroupref04_Uses CC) (bs := [.loop (codeAt [1, 1, 0, 1, 0, 0] B_semigroupref04_Uses)]) (by kernel_rfl) (tells_cons (t_semigroupref04_Uses_1 CC) tells_nil) (Eq.trans (by kernel_rfl) h)
end Go.AM
set_option maxRecDepth 100000
set_option linter.unusedSimpArgs false
namespace Go.AM
open Go.Proofs Ex
mutual
def Ex.uses (op : Int) : Ex → Bool
  | .node o _ ks => decide (o = op) || usess op ks
def Ex.usess (op : Int) : List Ex → Bool
  | [] => false
  | k :: ks => uses op k || usess op ks
end
theorem usess_any (op : Int) : ∀ ks, usess op ks = ks.any (uses op)
  | [] => by simp [usess]
  | k :: ks => by simp [usess, usess_any op ks]
theorem uses_spec {op : Int} : ∀ e : Ex, e.Ok → CC F_semigroupref04_Uses (exA e [.int .i64 op]) = some [.bool (e.uses op)] :=
  ind fun o l ks ih hok => by
    have := maxLen_le
    have hlen := hok.len
    refine f_semigroupref04_Uses_of ?_
    unfold f_semigroupref04_Uses
    simp only [Ex.op, Ex.letter, Ex.kids, bif_beq, uses, usess_any]
    by_cases ho : o = op
    · simp [ho]
    · rw [if_neg ho]
      have hl := find_loop (step := s_semigroupref04_Uses_1L CC op (ks.map enc) ((ks.map enc).length : Int)) (ks := ks) (fun i => (i : Int)) (Ex.uses op) (fun _ => .inl true) (.inr (((ks.length : Nat) : Int), false))
        (fun pre k suf hks => by
          have hpl : pre.length < ks.length := by rw [hks]; simp
          have hm : k ∈ ks := by rw [hks]; simp
          simp only [s_semigroupref04_Uses_1L, s_semigroupref04_Uses_1, List.length_map, bif_decide]
          rw [if_pos (by omega), show idx (ks.map enc) (pre.length : Int) = some k.enc by rw [hks]; exact idx_kid _ _ _]
          simp only [Option.bind_some, enc_0, enc_1, enc_2]
          rw [ih k hm (hok.kid k hm)]
          simp only [Option.bind_some, V.nth_zero, V.toBool_bool]
          rw [wrap64 (by omega) (by omega)]
          cases k.uses op <;> simp)
        (by
          simp only [s_semigroupref04_Uses_1L, s_semigroupref04_Uses_1, List.length_map, bif_decide]
          rw [if_neg (by omega)]
          simp) ks [] rfl
      simp only [List.length_nil, Int.ofNat_zero, Int.natCast_zero] at hl
      rcases hl with ⟨h1, i, h2⟩ | ⟨h1, h2⟩
      · erw [h2]; simp [h1, way2]
      · erw [h2]; simp [h1, way2, un, ho]
end Go.AM
namespace Go.AM
theorem low_form : ∀ (x : Nat), x ≠ 0 → ∃ k m, x = 2 ^ k * (2 * m + 1) := by
  intro x
  induction x using Nat.strongRecOn with
  | ind x ih =>
    intro hx
    by_cases h : x % 2 = 1
    · exact ⟨0, x / 2, by simp; omega⟩
    · obtain ⟨k, m, hm⟩ := ih (x / 2) (by omega) (by omega)
      refine ⟨k + 1, m, ?_⟩
      rw [Nat.pow_succ, Nat.mul_assoc, Nat.mul_comm 2 (2 * m + 1), ← Nat.mul_assoc, ← hm]
      omega
theorem bit_low {k m j : Nat} : (2 ^ k * (2 * m + 1)).testBit j = (decide (j = k) || (decide (k < j) && m.testBit (j - k - 1))) := by
  rw [Nat.testBit_two_pow_mul]
  by_cases h : j < k
  · have h1 : ¬ k ≤ j := by omega
    have h2 : ¬ j = k := by omega
    have h3 : ¬ k < j := by omega
    simp [h1, h2, h3]
  · by_cases h2 : j = k
    · subst h2; simp
    · have h3 : k < j := by omega
      obtain ⟨d, hd⟩ : ∃ d, j - k = d + 1 := ⟨j - k - 1, by omega⟩
      have h4 : k ≤ j := by omega
      rw [hd, Nat.testBit_succ]
      have h5 : (2 * m + 1) / 2 = m := by omega
      have h6 : j - k - 1 = d := by omega
      rw [h5]
      simp [h2, h3, h4]
theorem bit_high {k m j : Nat} : (2 ^ k * (2 * m)).testBit j = (decide (k < j) && m.testBit (j - k - 1)) := by
  rw [Nat.testBit_two_pow_mul]
  by_cases h : j < k
  · have h1 : ¬ k ≤ j := by omega
    have h3 : ¬ k < j := by omega
    simp [h1, h3]
  · by_cases h2 : j = k
    · subst h2; simp
    · have h3 : k < j := by omega
      obtain ⟨d, hd⟩ : ∃ d, j - k = d + 1 := ⟨j - k - 1, by omega⟩
      have h4 : k ≤ j := by omega
      rw [hd, Nat.testBit_succ]
      have h5 : 2 * m / 2 = m := by omega
      have h6 : j - k - 1 = d := by omega
      rw [h5]
      simp [h3, h4]
theorem low_lt {k m : Nat} (h : 2 ^ k * (2 * m + 1) < 2 ^ 64) : k < 64 ∧ m < 2 ^ (63 - k) := by
  have h1 : 2 ^ k ≤ 2 ^ k * (2 * m + 1) := Nat.le_mul_of_pos_right _ (by omega)
  have hk : k < 64 := (Nat.pow_lt_pow_iff_right (by omega : 1 < 2)).1 (Nat.lt_of_le_of_lt h1 h)
  refine ⟨hk, ?_⟩
  have h2 : 2 ^ 64 = 2 ^ k * (2 * 2 ^ (63 - k)) := by
    have h4 : 2 * 2 ^ (63 - k) = 2 ^ (63 - k + 1) := by rw [Nat.pow_succ, Nat.mul_comm]
    rw [h4, ← Nat.pow_add]; congr 1; omega
  rw [h2] at h
  have := Nat.lt_of_mul_lt_mul_left h
  omega
theorem neg_low {k m : Nat} (h : 2 ^ k * (2 * m + 1) < 2 ^ 64) : 2 ^ 64 - 2 ^ k * (2 * m + 1) = 2 ^ k * (2 * (2 ^ (63 - k) - (m + 1)) + 1) := by
  obtain ⟨hk, hm⟩ := low_lt h
  have h2 : 2 ^ 64 = 2 ^ k * (2 * 2 ^ (63 - k)) := by
    have h4 : 2 * 2 ^ (63 - k) = 2 ^ (63 - k + 1) := by rw [Nat.pow_succ, Nat.mul_comm]
    rw [h4, ← Nat.pow_add]; congr 1; omega
  rw [h2, ← Nat.mul_sub]
  congr 1
  omega
theorem and_neg {k m : Nat} (h : 2 ^ k * (2 * m + 1) < 2 ^ 64) : (2 ^ k * (2 * m + 1)) &&& (2 ^ 64 - 2 ^ k * (2 * m + 1)) = 2 ^ k := by
  obtain ⟨hk, hm⟩ := low_lt h
  rw [neg_low h]
  apply Nat.eq_of_testBit_eq
  intro j
  rw [Nat.testBit_and, bit_low, bit_low, Nat.testBit_two_pow, Nat.testBit_two_pow_sub_succ hm]
  by_cases h1 : j = k
  · simp [h1]
  · have h2 : ¬ k = j := fun h => h1 h.symm
    cases m.testBit (j - k - 1) <;> simp [h1, h2]
theorem and_pred {k m : Nat} : (2 ^ k * (2 * m + 1)) &&& (2 ^ k * (2 * m + 1) - 1) = 2 ^ k * (2 * m) := by
  have e : 2 ^ k * (2 * m + 1) - 1 = 2 ^ k * (2 * m) + (2 ^ k - 1) := by
    have : 0 < 2 ^ k := Nat.pos_of_ne_zero (by simp)
    rw [Nat.mul_add]; omega
  rw [e]
  apply Nat.eq_of_testBit_eq
  intro j
  have hlt : 2 ^ k - 1 < 2 ^ k := by have : 0 < 2 ^ k := Nat.pos_of_ne_zero (by simp); omega
  rw [Nat.testBit_and, bit_low, bit_high, Nat.testBit_two_pow_mul_add _ hlt, Nat.testBit_two_pow_sub_one]
  by_cases h1 : j < k
  · have h2 : ¬ j = k := by omega
    have h3 : ¬ k < j := by omega
    simp [h1, h2, h3]
  · by_cases h2 : j = k
    · subst h2
      simp
    · have h3 : k < j := by omega
      obtain ⟨d, hd⟩ : ∃ d, j - k = d + 1 := ⟨j - k - 1, by omega⟩
      have h5 : 2 * m / 2 = m := by omega
      have h6 : j - k - 1 = d := by omega
      rw [hd, Nat.testBit_succ, h5]
      simp [h1, h2, h3]
def mem (s : Nat) : List Nat := (List.range 64).filter s.testBit
theorem filter_low {p q : Nat → Bool} {k : Nat} (hp : p k = true) (hq : ∀ j, j ≤ k → q j = false) (hlow : ∀ j, j < k → p j = false) (heq : ∀ j, k < j → p j = q j) :
    ∀ n, k < n → (List.range n).filter p = k :: (List.range n).filter q := by
  have hz : ∀ n, n ≤ k → (List.range n).filter p = [] ∧ (List.range n).filter q = [] := by
    intro n hn
    constructor <;> rw [List.filter_eq_nil_iff] <;> intro j hj <;> rw [List.mem_range] at hj
    · simp [hlow j (by omega)]
    · simp [hq j (by omega)]
  intro n
  induction n with
  | zero => intro h; omega
  | succ n ih =>
    intro hk
    rw [List.range_succ, List.filter_append, List.filter_append]
    by_cases h : k < n
    · rw [ih h]
      simp [List.filter_cons, heq n h]
    · have : k = n := by omega
      subst this
      obtain ⟨h1, h2⟩ := hz k (Nat.le_refl _)
      rw [h1, h2]
      simp [List.filter_cons, hp, hq k (Nat.le_refl _)]
theorem mem_zero : mem 0 = [] := by
  unfold mem
  rw [List.filter_eq_nil_iff]
  intro j _
  simp
theorem mem_low {k m : Nat} (hk : k < 64) : mem (2 ^ k * (2 * m + 1)) = k :: mem (2 ^ k * (2 * m)) := by
  unfold mem
  refine filter_low ?_ ?_ ?_ ?_ 64 hk
  · rw [bit_low]; simp
  · intro j hj
    rw [bit_high]
    have : ¬ k < j := by omega
    simp [this]
  · intro j hj
    rw [bit_low]
    have h1 : ¬ k < j := by omega
    have h2 : ¬ j = k := by omega
    simp [h1, h2]
  · intro j hj
    rw [bit_low, bit_high]
    have h2 : ¬ j = k := by omega
    simp [h2]
theorem mem_iff {s j : Nat} (hs : s < 2 ^ 64) : j ∈ mem s ↔ s.testBit j = true := by
  unfold mem
  rw [List.mem_filter, List.mem_range]
  refine ⟨fun h => h.2, fun h => ⟨?_, h⟩⟩
  by_cases hj : j < 64
  · exact hj
  · have : s.testBit j = false := Nat.testBit_lt_two_pow (Nat.lt_of_lt_of_le hs (Nat.pow_le_pow_right (by omega) (by omega)))
    rw [this] at h; cases h
theorem mem_length (s : Nat) : (mem s).length ≤ 64 := by
  unfold mem
  exact Nat.le_trans (List.length_filter_le _ _) (by simp)
end Go.AM
set_option maxRecDepth 100000
set_option linter.unusedSimpArgs false
namespace Go.AM
open Go.Proofs Ex
structure Gl where
  a : Nat
  z : Nat
  n : Bool
  ps : Nat
  fo : Nat → Nat
def joinG (x y : Nat) (fo : Nat → Nat) : Nat → Nat := fun i => if x.testBit i = true then fo i ||| y else fo i
def altG (g k : Gl) : Gl := ⟨g.a ||| k.a, g.z ||| k.z, g.n || k.n, k.ps, k.fo⟩
def catG (g k : Gl) : Gl := ⟨if g.n then g.a ||| k.a else g.a, (if k.n then g.z else 0) ||| k.z, g.n && k.n, k.ps, joinG g.z k.a k.fo⟩
mutual
def glu : Ex → Nat → (Nat → Nat) → Gl
  | .node o _ ks, ps, fo =>
    if o = 2 then ⟨0, 0, true, ps, fo⟩
    else if o = 3 then ⟨2 ^ (ps + 1), 2 ^ (ps + 1), false, ps + 1, fo⟩
    else if o = 4 then gluAlt ks ⟨0, 0, false, ps, fo⟩
    else if o = 5 then gluCat ks ⟨0, 0, true, ps, fo⟩
    else if o = 7 then gluStar ks ps fo
    else ⟨0, 0, false, ps, fo⟩
def gluAlt : List Ex → Gl → Gl
  | [], g => g
  | k :: ks, g => gluAlt ks (altG g (glu k g.ps g.fo))
def gluCat : List Ex → Gl → Gl
  | [], g => g
  | k :: ks, g => gluCat ks (catG g (glu k g.ps g.fo))
def gluStar : List Ex → Nat → (Nat → Nat) → Gl
  | [], ps, fo => ⟨0, 0, false, ps, fo⟩
  | k :: _, ps, fo => let g := glu k ps fo; ⟨g.a, g.z, true, g.ps, joinG g.z g.a g.fo⟩
end
mutual
def ltrs : Ex → List Int
  | .node o l ks => if o = 3 then [l] else ltrss ks
def ltrss : List Ex → List Int
  | [] => []
  | k :: ks => ltrs k ++ ltrss ks
end
def Btw (lo hi x : Nat) : Prop := ∀ j, x.testBit j = true → lo < j ∧ j ≤ hi
theorem Btw.zero {lo hi : Nat} : Btw lo hi 0 := fun j h => by simp at h
theorem Btw.or {lo hi x y : Nat} (h : Btw lo hi x) (h2 : Btw lo hi y) : Btw lo hi (x ||| y) := fun j hj => by
  rw [Nat.testBit_or, Bool.or_eq_true] at hj
  rcases hj with hj | hj
  · exact h j hj
  · exact h2 j hj
theorem Btw.mono {lo hi lo' hi' x : Nat} (h : Btw lo hi x) (h1 : lo' ≤ lo) (h2 : hi ≤ hi') : Btw lo' hi' x := fun j hj => by have := h j hj; omega
theorem Btw.lt {lo hi x : Nat} (h : Btw lo hi x) (h1 : hi < 64) : x < 2 ^ 64 := by
  refine Nat.lt_of_not_le fun hx => ?_
  obtain ⟨i, hi, hb⟩ := Nat.exists_ge_and_testBit_of_ge_two_pow hx
  have := h i hb
  omega
structure FoOk (N : Nat) (fo : Nat → Nat) : Prop where
  b : ∀ i, Btw 0 N (fo i)
  s : ∀ i, N < i → fo i = 0
theorem joinG_ok {N x y : Nat} {fo : Nat → Nat} (h : FoOk N fo) (hx : Btw 0 N x) (hy : Btw 0 N y) : FoOk N (joinG x y fo) where
  b := fun i => by
    unfold joinG; split
    · exact (h.b i).or hy
    · exact h.b i
  s := fun i hi => by
    unfold joinG
    rw [if_neg (fun hb => by have := hx i hb; omega)]
    exact h.s i hi
theorem FoOk.mono {N M : Nat} {fo : Nat → Nat} (h : FoOk N fo) (hm : N ≤ M) : FoOk M fo := ⟨fun i => (h.b i).mono (Nat.le_refl _) hm, fun i hi => h.s i (by omega)⟩
structure GSt (lo f0 : Nat) (g : Gl) : Prop where
  le : lo ≤ g.ps
  a : Btw lo g.ps g.a
  z : Btw lo g.ps g.z
  fo : FoOk g.ps g.fo
  f0 : g.fo 0 = f0
theorem join0 {lo hi x y : Nat} {fo : Nat → Nat} (h : Btw lo hi x) : joinG x y fo 0 = fo 0 := by
  unfold joinG
  rw [if_neg]
  intro hb
  have := h 0 hb
  omega
theorem GSt.alt {lo f0 : Nat} {g k : Gl} (h : GSt lo f0 g) (h2 : GSt g.ps (g.fo 0) k) : GSt lo f0 (altG g k) where
  le := Nat.le_trans h.le h2.le
  a := (h.a.mono (Nat.le_refl _) h2.le).or (h2.a.mono h.le (Nat.le_refl _))
  z := (h.z.mono (Nat.le_refl _) h2.le).or (h2.z.mono h.le (Nat.le_refl _))
  fo := h2.fo
  f0 := h2.f0.trans h.f0
theorem GSt.cat {lo f0 : Nat} {g k : Gl} (h : GSt lo f0 g) (h2 : GSt g.ps (g.fo 0) k) : GSt lo f0 (catG g k) where
  le := Nat.le_trans h.le h2.le
  a := by
    show Btw lo k.ps (if g.n then g.a ||| k.a else g.a)
    split
    · exact (h.a.mono (Nat.le_refl _) h2.le).or (h2.a.mono h.le (Nat.le_refl _))
    · exact h.a.mono (Nat.le_refl _) h2.le
  z := by
    show Btw lo k.ps ((if k.n then g.z else 0) ||| k.z)
    refine Btw.or ?_ (h2.z.mono h.le (Nat.le_refl _))
    split
    · exact h.z.mono (Nat.le_refl _) h2.le
    · exact .zero
  fo := joinG_ok h2.fo (h.z.mono (Nat.zero_le _) h2.le) (h2.a.mono (Nat.zero_le _) (Nat.le_refl _))
  f0 := (join0 h.z).trans (h2.f0.trans h.f0)
theorem GSt.star {lo f0 : Nat} {g : Gl} (h : GSt lo f0 g) : GSt lo f0 ⟨g.a, g.z, true, g.ps, joinG g.z g.a g.fo⟩ where
  le := h.le
  a := h.a
  z := h.z
  fo := joinG_ok h.fo (h.z.mono (Nat.zero_le _) (Nat.le_refl _)) (h.a.mono (Nat.zero_le _) (Nat.le_refl _))
  f0 := (join0 h.z).trans h.f0
mutual
def boolB : Ex → Bool
  | .node o _ ks => (decide (o = 6) || decide (o = 8)) || boolBs ks
def boolBs : List Ex → Bool
  | [] => false
  | k :: ks => boolB k || boolBs ks
end
theorem boolBs_any : ∀ ks, boolBs ks = ks.any boolB
  | [] => by simp [boolBs]
  | k :: ks => by simp [boolBs, boolBs_any ks]
theorem boolB_uses : ∀ e : Ex, boolB e = (e.uses 6 || e.uses 8) := ind fun o l ks ih => by
  simp only [boolB, uses, boolBs_any, usess_any]
  have : ks.any boolB = (ks.any (uses 6) || ks.any (uses 8)) := by
    rw [Bool.eq_iff_iff, Bool.or_eq_true, List.any_eq_true, List.any_eq_true, List.any_eq_true]
    constructor
    · rintro ⟨k, h1, h2⟩
      rw [ih k h1, Bool.or_eq_true] at h2
      rcases h2 with h2 | h2
      · exact .inl ⟨k, h1, h2⟩
      · exact .inr ⟨k, h1, h2⟩
    · rintro (⟨k, h1, h2⟩ | ⟨k, h1, h2⟩)
      · exact ⟨k, h1, by rw [ih k h1, h2]; rfl⟩
      · exact ⟨k, h1, by rw [ih k h1, h2]; simp⟩
  rw [this]
  cases decide (o = 6) <;> cases decide (o = 8) <;> cases ks.any (uses 6) <;> cases ks.any (uses 8) <;> rfl
theorem wfs_mem {letters : Int} : ∀ {ks : List Ex}, wfs letters ks = true → ∀ k ∈ ks, k.wf letters = true
  | [], _, k, h => by simp at h
  | a :: ks, h, k, hk => by
    simp only [wfs, Bool.and_eq_true] at h
    rcases List.mem_cons.1 hk with rfl | hk
    · exact h.1
    · exact wfs_mem h.2 k hk
def Pl (letters : Int) (e : Ex) : Prop := e.wf letters = true ∧ boolB e = false
theorem Pl.kid {letters o l : Int} {ks : List Ex} (h : Pl letters (.node o l ks)) : ∀ k ∈ ks, Pl letters k := fun k hk => by
  obtain ⟨h1, h2⟩ := h
  simp only [wf, Bool.and_eq_true] at h1
  simp only [boolB, boolBs_any, Bool.or_eq_false_iff] at h2
  exact ⟨wfs_mem h1.2 k hk, by
    have := h2.2
    rw [List.any_eq_false] at this
    simpa using this k hk⟩
theorem Pl.shape {letters o l : Int} {ks : List Ex} (h : Pl letters (.node o l ks)) : ((o = 1 ∨ o = 2) ∧ ks = []) ∨ (o = 3 ∧ ks = [] ∧ 0 ≤ l ∧ l < letters) ∨ (o = 7 ∧ ∃ k, ks = [k]) ∨ (o = 4 ∨ o = 5) := by
  obtain ⟨h1, h2⟩ := h
  simp only [wf, Bool.and_eq_true] at h1
  simp only [boolB, Bool.or_eq_false_iff, decide_eq_false_iff_not] at h2
  have hs := h1.1
  unfold shapeOk at hs
  by_cases h3 : o = 3
  · rw [if_pos h3] at hs
    obtain ⟨a, b, c⟩ := of_decide_eq_true hs
    exact .inr (.inl ⟨h3, List.length_eq_zero_iff.1 (by omega), b, c⟩)
  rw [if_neg h3] at hs
  simp only [Bool.and_eq_true] at hs
  obtain ⟨_, hs⟩ := hs
  by_cases h12 : o = 1 ∨ o = 2
  · rw [if_pos h12] at hs
    have := of_decide_eq_true hs
    exact .inl ⟨h12, List.length_eq_zero_iff.1 (by omega)⟩
  rw [if_neg h12] at hs
  by_cases h78 : o = 7 ∨ o = 8
  · rw [if_pos h78] at hs
    have hs := of_decide_eq_true hs
    refine .inr (.inr (.inl ⟨by omega, ?_⟩))
    match ks, hs with
    | [k], _ => exact ⟨k, rfl⟩
    | [], h => simp at h
    | _ :: _ :: _, h => simp at h; omega
  · rw [if_neg h78] at hs
    obtain ⟨h4, h6, hn⟩ := of_decide_eq_true hs
    exact .inr (.inr (.inr (by omega)))
theorem gluAlt_ok {ks : List Ex} (ih : ∀ k ∈ ks, ∀ ps fo, FoOk ps fo → GSt ps (fo 0) (glu k ps fo) ∧ (glu k ps fo).ps = ps + (ltrs k).length) :
    ∀ {lo f0 : Nat} {g : Gl}, GSt lo f0 g → GSt lo f0 (gluAlt ks g) ∧ (gluAlt ks g).ps = g.ps + (ltrss ks).length := by
  induction ks with
  | nil => intro lo f0 g h; simp only [gluAlt, ltrss]; exact ⟨h, rfl⟩
  | cons k ks ih2 =>
    intro lo f0 g h
    obtain ⟨h1, h2⟩ := ih k (by simp) g.ps g.fo h.fo
    obtain ⟨h3, h4⟩ := ih2 (fun k hk => ih k (by simp [hk])) (h.alt h1)
    simp only [gluAlt, ltrss, List.length_append]
    refine ⟨h3, h4.trans ?_⟩
    show (glu k g.ps g.fo).ps + _ = _
    omega
theorem gluCat_ok {ks : List Ex} (ih : ∀ k ∈ ks, ∀ ps fo, FoOk ps fo → GSt ps (fo 0) (glu k ps fo) ∧ (glu k ps fo).ps = ps + (ltrs k).length) :
    ∀ {lo f0 : Nat} {g : Gl}, GSt lo f0 g → GSt lo f0 (gluCat ks g) ∧ (gluCat ks g).ps = g.ps + (ltrss ks).length := by
  induction ks with
  | nil => intro lo f0 g h; simp only [gluCat, ltrss]; exact ⟨h, rfl⟩
  | cons k ks ih2 =>
    intro lo f0 g h
    obtain ⟨h1, h2⟩ := ih k (by simp) g.ps g.fo h.fo
    obtain ⟨h3, h4⟩ := ih2 (fun k hk => ih k (by simp [hk])) (h.cat h1)
    simp only [gluCat, ltrss, List.length_append]
    refine ⟨h3, h4.trans ?_⟩
    show (glu k g.ps g.fo).ps + _ = _
    omega
theorem glu_ok {letters : Int} : ∀ e : Ex, Pl letters e → ∀ ps fo, FoOk ps fo → GSt ps (fo 0) (glu e ps fo) ∧ (glu e ps fo).ps = ps + (ltrs e).length :=
  ind fun o l ks ih hp ps fo hfo => by
    have ih' : ∀ k ∈ ks, ∀ ps fo, FoOk ps fo → GSt ps (fo 0) (glu k ps fo) ∧ (glu k ps fo).ps = ps + (ltrs k).length := fun k hk => ih k hk (hp.kid k hk)
    have z0 : ∀ b, GSt ps (fo 0) ⟨0, 0, b, ps, fo⟩ := fun b => ⟨Nat.le_refl _, .zero, .zero, hfo, rfl⟩
    rcases hp.shape with ⟨h, rfl⟩ | ⟨rfl, rfl, _⟩ | ⟨rfl, k, rfl⟩ | h
    · rcases h with rfl | rfl
      · simp only [glu, ltrs, ltrss]; exact ⟨z0 _, rfl⟩
      · simp only [glu, ltrs, ltrss]; exact ⟨z0 _, rfl⟩
    · simp only [glu, ltrs]
      have hb : Btw ps (ps + 1) (2 ^ (ps + 1)) := fun j hj => by
        rw [Nat.testBit_two_pow] at hj
        have := of_decide_eq_true hj
        omega
      exact ⟨⟨by show ps ≤ ps + 1; omega, hb, hb, hfo.mono (by show ps ≤ ps + 1; omega), rfl⟩, rfl⟩
    · obtain ⟨h1, h2⟩ := ih' k (by simp) ps fo hfo
      simp only [glu, gluStar, ltrs, ltrss]
      exact ⟨h1.star, by simpa using h2⟩
    · rcases h with rfl | rfl
      · simp only [glu, ltrs]
        exact gluAlt_ok ih' (z0 _)
      · simp only [glu, ltrs]
        exact gluCat_ok ih' (z0 _)
end Go.AM
set_option maxRecDepth 100000
namespace Go.AM
open Go.Proofs
noncomputable def f_bits_TrailingZeros64 (C : CallF) (x : Int) : Option (List V) :=
  bif (x : Int) == 0 then
   some [.int .i64 64]
  else
   bif (decide (0 ≤ (Int.fdiv (IntKind.wrap .u64 (285870213051353865 * (IntKind.wrap .u64 ((BitVec.ofInt (IntKind.bits .u64) x &&& BitVec.ofInt (IntKind.bits .u64) (IntKind.wrap .u64 (0 - x))).toNat)))) (2 ^ (min (58 : Int).toNat (IntKind.bits .u64)))))) && (decide ((Int.fdiv (IntKind.wrap .u64 (285870213051353865 * (IntKind.wrap .u64 ((BitVec.ofInt (IntKind.bits .u64) x &&& BitVec.ofInt (IntKind.bits .u64) (IntKind.wrap .u64 (0 - x))).toNat)))) (2 ^ (min (58 : Int).toNat (IntKind.bits .u64)))) < 64)) then
    (((tab_0).drop ((Int.fdiv (IntKind.wrap .u64 (285870213051353865 * (IntKind.wrap .u64 ((BitVec.ofInt (IntKind.bits .u64) x &&& BitVec.ofInt (IntKind.bits .u64) (IntKind.wrap .u64 (0 - x))).toNat)))) (2 ^ (min (58 : Int).toNat (IntKind.bits .u64))) : Int).toNat * 1))[0]?).bind fun x1 =>
    bif typed1 Tryd.prog 5 x1 then
     some [.int .i64 (IntKind.wrap .i64 x1.toInt)]
    else none
   else none
theorem f_bits_TrailingZeros64_of {x : Int} {r : Option (List V)} (h : f_bits_TrailingZeros64 CC x = r) : CC F_bits_TrailingZeros64 [.int .u64 x] = r :=
  func_of (key := 62) (L := LT0) (bs := []) (by kernel_rfl) tells_nil (Eq.trans (by kernel_rfl) h)
end Go.AM
set_option maxRecDepth 100000
set_option linter.unusedSimpArgs false
namespace Go.AM
open Go.Proofs
def bruijn (k : Nat) : Nat := 285870213051353865 * 2 ^ k % 18446744073709551616 / 288230376151711744
theorem bruijn_tab : (List.range 64).map (fun k => (tab_0.drop (bruijn k * 1))[0]?) = (List.range 64).map (fun k : Nat => some (V.int .u8 (k : Int))) := by kernel_rfl
theorem bruijn_lt : (List.range 64).all (fun k => Nat.blt (bruijn k) 64) = true := by kernel_rfl
theorem bruijn_at {k : Nat} (hk : k < 64) : (tab_0.drop (bruijn k * 1))[0]? = some (V.int .u8 (k : Int)) := by
  have h := congrArg (·[k]?) bruijn_tab
  simpa [hk] using h
theorem bruijn_lt' {k : Nat} (hk : k < 64) : bruijn k < 64 := by
  have h := List.all_eq_true.1 bruijn_lt k (List.mem_range.2 hk)
  simpa [Nat.blt_eq] using h
theorem typed_u8 (z : Int) : typed1 Tryd.prog 5 (.int .u8 z) = true := by kernel_rfl
theorem Trailing_spec {k m : Nat} (h : 2 ^ k * (2 * m + 1) < 2 ^ 64) : CC F_bits_TrailingZeros64 [.int .u64 ((2 ^ k * (2 * m + 1) : Nat) : Int)] = some [.int .i64 (k : Int)] := by
  obtain ⟨hk, hm⟩ := low_lt h
  have hpos : 0 < 2 ^ k * (2 * m + 1) := Nat.mul_pos (Nat.pos_of_ne_zero (by simp)) (by omega)
  refine f_bits_TrailingZeros64_of ?_
  unfold f_bits_TrailingZeros64
  generalize hx : 2 ^ k * (2 * m + 1) = x at *
  have e1 : IntKind.wrap .u64 (0 - (x : Int)) = ((2 ^ 64 - x : Nat) : Int) := by rw [wrap_u64]; omega
  have e2 : x &&& (2 ^ 64 - x) = 2 ^ k := by rw [← hx]; exact and_neg (by rw [hx]; exact h)
  have hk2 : 2 ^ k < 2 ^ 64 := Nat.pow_lt_pow_right (by omega) hk
  have e3 : IntKind.wrap .u64 (285870213051353865 * ((2 ^ k : Nat) : Int)) = ((285870213051353865 * 2 ^ k % 18446744073709551616 : Nat) : Int) := by rw [wrap_u64]; omega
  have e4 : Int.fdiv ((285870213051353865 * 2 ^ k % 18446744073709551616 : Nat) : Int) (2 ^ (min (58 : Int).toNat (IntKind.bits .u64))) = ((bruijn k : Nat) : Int) := by
    have := u64_shr (A := 285870213051353865 * 2 ^ k % 18446744073709551616) (m := 58) (by omega)
    exact this
  rw [bif_beq, if_neg (by omega), e1, u64_and h (by omega), e2, e3, e4, Int.toNat_natCast, bruijn_at hk]
  have hb := bruijn_lt' hk
  rw [bif_and, bif_decide, if_pos (by omega), bif_decide, if_pos (by omega)]
  simp only [Option.bind_some, typed_u8, cond_true, V.toInt_int]
  rw [wrap64 (by omega) (by omega)]
end Go.AM
set_option maxRecDepth 100000
set_option linter.unusedSimpArgs false
namespace Go.AM
open Go.Proofs
structure Ed where
  f : Int
  l : Int
  t : Int
deriving DecidableEq, Inhabited
namespace Ed
def enc (e : Ed) : V := .agg [.int .i64 e.f, .int .i64 e.l, .int .i64 e.t]
@[simp] theorem enc_0 (e : Ed) : (e.enc.cell 0).toInt = e.f := by simp [enc]
@[simp] theorem enc_1 (e : Ed) : (e.enc.cell 1).toInt = e.l := by simp [enc]
@[simp] theorem enc_2 (e : Ed) : (e.enc.cell 2).toInt = e.t := by simp [enc]
def lt (a b : Ed) : Prop := a.f < b.f ∨ a.f = b.f ∧ (a.l < b.l ∨ a.l = b.l ∧ a.t < b.t)
instance (a b : Ed) : Decidable (lt a b) := by unfold lt; infer_instance
def Ok (e : Ed) : Prop := -9223372036854775808 ≤ e.f ∧ e.f ≤ 9223372036854775807 ∧ -9223372036854775808 ≤ e.l ∧ e.l ≤ 9223372036854775807 ∧ -9223372036854775808 ≤ e.t ∧ e.t ≤ 9223372036854775807
def In (L S : Int) (e : Ed) : Prop := 0 ≤ e.f ∧ e.f < S ∧ 0 ≤ e.t ∧ e.t < S ∧ 0 ≤ e.l ∧ e.l < L
instance (L S : Int) (e : Ed) : Decidable (e.In L S) := by unfold In; infer_instance
end Ed
structure Nf where
  L : Int
  S : Int
  st : Nat
  fin : Nat
  E : List Ed
def nfA (n : Nf) (rest : List V) : List V := .int .i64 n.L :: .int .i64 n.S :: .int .u64 (n.st : Int) :: .int .u64 (n.fin : Int) :: .list T_api_Edge (n.E.map Ed.enc) :: rest
namespace Nf
structure Ok (n : Nf) : Prop where
  L1 : -9223372036854775808 ≤ n.L
  L2 : n.L ≤ 9223372036854775807
  S1 : -9223372036854775808 ≤ n.S
  S2 : n.S ≤ 9223372036854775807
  st : n.st < 2 ^ 64
  fin : n.fin < 2 ^ 64
  len : n.E.length ≤ maxLen
  E : ∀ e ∈ n.E, e.Ok
def edgeAt (n : Nf) (i : Nat) : Prop := (n.E.getD i default).In n.L n.S ∧ (0 < i → (n.E.getD (i - 1) default).lt (n.E.getD i default))
instance (n : Nf) : DecidablePred n.edgeAt := fun i => by unfold edgeAt; infer_instance
def code (n : Nf) : Int :=
  if n.L < 1 ∨ n.L > 6 ∨ n.S < 0 ∨ n.S > 64 then 1
  else if ¬ (n.st < 2 ^ n.S.toNat ∧ n.fin < 2 ^ n.S.toNat) then 4
  else if ∀ i, i < n.E.length → n.edgeAt i then 0 else 4
structure Good (n : Nf) : Prop where
  L1 : 1 ≤ n.L
  L6 : n.L ≤ 6
  S0 : 0 ≤ n.S
  S64 : n.S ≤ 64
  st : n.st < 2 ^ n.S.toNat
  fin : n.fin < 2 ^ n.S.toNat
  E : ∀ e ∈ n.E, e.In n.L n.S
theorem good_of {n : Nf} (h : n.code = 0) : n.Good := by
  unfold code at h
  split at h
  · omega
  rename_i h1
  split at h
  · omega
  rename_i h2
  split at h
  · rename_i h3
    have h2' := Classical.not_not.1 h2
    refine ⟨by omega, by omega, by omega, by omega, h2'.1, h2'.2, fun e he => ?_⟩
    obtain ⟨i, hi, rfl⟩ := List.getElem_of_mem he
    have := (h3 i hi).1
    rwa [List.getD_eq_getElem?_getD, List.getElem?_eq_getElem hi] at this
  · omega
end Nf
end Go.AM
set_option maxRecDepth 100000
namespace Go.AM
open Go.Proofs
noncomputable abbrev B_relation_Members : Code := bodyOf Tryd.prog (ann.fid 43)
noncomputable def s_relation_Members_1 (C : CallF) (set' : Int) (memberss : List V) {β : Type} (kn : (Int × (List V)) → Option β) (kr : (Int × Bool × (List V)) → Option β) : Option β :=
  bif (set' : Int) != 0 then
   (C F_bits_TrailingZeros64 [.int .u64 set']).bind fun r1 =>
   bif Nat.ble ((memberss.length + ([.int .i64 ((V.nth r1 0).toInt)] : List V).length) * 8) maxBytes then
    kn (IntKind.wrap .u64 ((BitVec.ofInt (IntKind.bits .u64) set' &&& BitVec.ofInt (IntKind.bits .u64) (IntKind.wrap .u64 (set' - 1))).toNat), memberss ++ ([.int .i64 ((V.nth r1 0).toInt)] : List V))
   else none
  else
   kr (set', (set' : Int) != 0, memberss)
noncomputable def s_relation_Members_1L (C : CallF) : (Int × (List V)) → Option ((Int × (List V)) ⊕ (Int × Bool × (List V))) := un fun set' memberss => s_relation_Members_1 C set' memberss (fun y => some (.inl y)) (fun r => some (.inr r))
noncomputable def LT_relation_Members (C : CallF) : LTab := fun β n ds k =>
  bif Nat.beq n 33 then loopS S43_33 [true, true] [[0, 0, 0]] (@s_relation_Members_1 C) ds k else
  none
abbrev TS_relation_Members (C : CallF) (b : Bar) : Prop := Tells Tryd.prog ann C (LT_relation_Members C) 43 (ntmpsOf Tryd.prog (ann.fid 43)) (ann.sin 43).blks.length b
theorem t_relation_Members_1 (C : CallF) : TS_relation_Members C (.loop (codeAt [1, 1, 0, 0, 0] B_relation_Members)) :=
  tl3 S43_33 [true, true] [[0, 0, 0]] (@s_relation_Members_1 C) (by kernel_rfl) (ltok_of (bs := []) (by kernel_rfl) tells_nil) (fun ds => by kernel_rfl) (fun i x => by kernel_rfl) (fun i x β k => by kernel_rfl) (fun β ds k => by kernel_rfl)
noncomputable def f_relation_Members (C : CallF) (set' : Int) : Option (List V) :=
  (Loop (s_relation_Members_1L C) (set', ([] : List V))).bind (un fun (set_2 : Int) => un fun (t_3 : Bool) (memberss_4 : List V) =>
    some [.list T_int memberss_4])
theorem f_relation_Members_of {set' : Int} {r : Option (List V)} (h : f_relation_Members CC set' = r) : CC F_relation_Members [.int .u64 set'] = r :=
  func_of (key := 43) (L := LT_relation_Members CC) (bs := [.loop (codeAt [1, 1, 0, 0, 0] B_relation_Members)]) (by kernel_rfl) (tells_cons (t_relation_Members_1 CC) tells_nil) (Eq.trans (by kernel_rfl) h)
end Go.AM
set_option maxRecDepth 100000
set_option linter.unusedSimpArgs false
namespace Go.AM
open Go.Proofs
def encI (l : List Nat) : List V := l.map fun (k : Nat) => V.int .i64 (k : Int)
theorem Members_loop : ∀ (s : Nat), s < 2 ^ 64 → ∀ acc : List V, acc.length + (mem s).length ≤ 64 → Loop (s_relation_Members_1L CC) ((s : Int), acc) = some (0, false, acc ++ encI (mem s)) := by
  intro s
  induction s using Nat.strongRecOn with
  | ind s ih =>
    intro hs acc hl
    by_cases h0 : s = 0
    · subst h0
      refine Loop_end ?_
      simp [s_relation_Members_1L, s_relation_Members_1, un, mem_zero, encI]
    · obtain ⟨k, m, rfl⟩ := low_form s h0
      obtain ⟨hk, hm⟩ := low_lt hs
      have hpos : 0 < 2 ^ k := Nat.pos_of_ne_zero (by simp)
      have hlt : 2 ^ k * (2 * m) < 2 ^ k * (2 * m + 1) := Nat.mul_lt_mul_of_pos_left (by omega) hpos
      have hmem := mem_low (m := m) hk
      rw [hmem, List.length_cons] at hl
      have hp : ((2 ^ k * (2 * m + 1) : Nat) : Int) - 1 = ((2 ^ k * (2 * m + 1) - 1 : Nat) : Int) := by omega
      have hst : s_relation_Members_1L CC (((2 ^ k * (2 * m + 1) : Nat) : Int), acc) = some (.inl (((2 ^ k * (2 * m) : Nat) : Int), acc ++ [V.int .i64 (k : Int)])) := by
        simp only [s_relation_Members_1L, s_relation_Members_1, un]
        rw [bif_bne, if_neg (by omega), Trailing_spec hs]
        simp only [Option.bind_some, V.nth_zero, V.toInt_int]
        rw [hp, wrapu64 (A := 2 ^ k * (2 * m + 1) - 1) (by omega), u64_and hs (by omega), and_pred, bif_ble, if_pos (by rw [maxB]; simp only [List.length_cons, List.length_nil]; omega)]
      rw [Loop_norm hst, ih _ hlt (by omega) _ (by simp only [List.length_append, List.length_cons, List.length_nil]; omega), hmem]
      simp [encI]
theorem Members_spec {s : Nat} (hs : s < 2 ^ 64) : CC F_relation_Members [.int .u64 (s : Int)] = some [.list T_int (encI (mem s))] := by
  refine f_relation_Members_of ?_
  unfold f_relation_Members
  have := Members_loop s hs [] (by simpa using mem_length s)
  rw [this]
  simp [un]
end Go.AM
set_option maxRecDepth 100000
namespace Go.AM
open Go.Proofs
noncomputable def f_nfa_compareEdges (C : CallF) (e_0 e_1 e_2 f_0 f_1 f_2 : Int) : Option (List V) :=
  (C F_cmp_Compare_int_ [.int .i64 e_0, .int .i64 f_0]).bind fun r1 =>
  (C F_cmp_Compare_int_ [.int .i64 e_1, .int .i64 f_1]).bind fun r2 =>
  (C F_cmp_Compare_int_ [.int .i64 e_2, .int .i64 f_2]).bind fun r3 =>
  (C F_cmp_Or_int_ [.list T_int ([.int .i64 ((V.nth r1 0).toInt), .int .i64 ((V.nth r2 0).toInt), .int .i64 ((V.nth r3 0).toInt)] : List V)]).bind fun r4 =>
  some [.int .i64 ((V.nth r4 0).toInt)]
theorem f_nfa_compareEdges_of {e_0 e_1 e_2 f_0 f_1 f_2 : Int} {r : Option (List V)} (h : f_nfa_compareEdges CC e_0 e_1 e_2 f_0 f_1 f_2 = r) : CC F_nfa_compareEdges [.int .i64 e_0, .int .i64 e_1, .int .i64 e_2, .int .i64 f_0, .int .i64 f_1, .int .i64 f_2] = r :=
  func_of (key := 36) (L := LT0) (bs := []) (by kernel_rfl) tells_nil (Eq.trans (by kernel_rfl) h)
end Go.AM
set_option maxRecDepth 100000
namespace Go.AM
open Go.Proofs
noncomputable def f_cmp_Compare_int_ (C : CallF) (x y : Int) : Option (List V) :=
  (C F_cmp_isNaN_int_ [.int .i64 x]).bind fun r1 =>
  (C F_cmp_isNaN_int_ [.int .i64 y]).bind fun r2 =>
  bif (V.nth r1 0).toBool then
   bif (V.nth r2 0).toBool then
    some [.int .i64 0]
   else
    some [.int .i64 (-1)]
  else
   bif (V.nth r2 0).toBool then
    some [.int .i64 1]
   else
    bif decide ((x : Int) < y) then
     some [.int .i64 (-1)]
    else
     bif decide ((x : Int) > y) then
      some [.int .i64 1]
     else
      some [.int .i64 0]
theorem f_cmp_Compare_int__of {x y : Int} {r : Option (List V)} (h : f_cmp_Compare_int_ CC x y = r) : CC F_cmp_Compare_int_ [.int .i64 x, .int .i64 y] = r :=
  func_of (key := 58) (L := LT0) (bs := []) (by kernel_rfl) tells_nil (Eq.trans (by kernel_rfl) h)
end Go.AM
set_option maxRecDepth 100000
namespace Go.AM
open Go.Proofs
noncomputable def f_cmp_isNaN_int_ (C : CallF) (x : Int) : Option (List V) :=
  some [.bool ((x : Int) != x)]
theorem f_cmp_isNaN_int__of {x : Int} {r : Option (List V)} (h : f_cmp_isNaN_int_ CC x = r) : CC F_cmp_isNaN_int_ [.int .i64 x] = r :=
  func_of (key := 70) (L := LT0) (bs := []) (by kernel_rfl) tells_nil (Eq.trans (by kernel_rfl) h)
end Go.AM
set_option maxRecDepth 100000
namespace Go.AM
open Go.Proofs
noncomputable abbrev B_cmp_Or_int_ : Code := bodyOf Tryd.prog (ann.fid 57)
noncomputable def s_cmp_Or_int__1 (C : CallF) (zero : Int) (t6 : List V) (t7 t8 : Int) {β : Type} (kn : Int → Option β) (kr : ((Int) ⊕ (Int × Bool)) → Option β) : Option β :=
  bif decide ((t8 : Int) < t7) then
   (idx t6 t8).bind fun x1 =>
   bif (x1.toInt : Int) != zero then
    kr (.inl x1.toInt)
   else
    kn (IntKind.wrap .i64 (t8 + 1))
  else
   kr (.inr (t8, decide ((t8 : Int) < t7)))
noncomputable def s_cmp_Or_int__1L (C : CallF) (zero : Int) (t6 : List V) (t7 : Int) : (Int) → Option ((Int) ⊕ ((Int) ⊕ (Int × Bool))) := fun t8 => s_cmp_Or_int__1 C zero t6 t7 t8 (fun y => some (.inl y)) (fun r => some (.inr r))
noncomputable def LT_cmp_Or_int_ (C : CallF) : LTab := fun β n ds k =>
  bif Nat.beq n 49 then loopS S57_49 [false, false, false, true] [[0], [1, 2, 3, 0, 0]] (@s_cmp_Or_int__1 C) ds k else
  none
abbrev TS_cmp_Or_int_ (C : CallF) (b : Bar) : Prop := Tells Tryd.prog ann C (LT_cmp_Or_int_ C) 57 (ntmpsOf Tryd.prog (ann.fid 57)) (ann.sin 57).blks.length b
theorem t_cmp_Or_int__1 (C : CallF) : TS_cmp_Or_int_ C (.loop (codeAt [1, 1, 0, 1, 0, 0] B_cmp_Or_int_)) :=
  tl3 S57_49 [false, false, false, true] [[0], [1, 2, 3, 0, 0]] (@s_cmp_Or_int__1 C) (by kernel_rfl) (ltok_of (bs := []) (by kernel_rfl) tells_nil) (fun ds => by kernel_rfl) (fun i x => by kernel_rfl) (fun i x β k => by kernel_rfl) (fun β ds k => by kernel_rfl)
noncomputable def f_cmp_Or_int_ (C : CallF) (vals : List V) : Option (List V) :=
  (Loop (s_cmp_Or_int__1L C 0 vals (vals.length : Int)) 0).bind (way2 (fun (t_2 : Int) =>
    some [.int .i64 t_2]) (un fun (t_3 : Int) (t_4 : Bool) =>
    some [.int .i64 0]))
theorem f_cmp_Or_int__of {vals : List V} {r : Option (List V)} (h : f_cmp_Or_int_ CC vals = r) : CC F_cmp_Or_int_ [.list T_int vals] = r :=
  func_of (key := 57) (L := LT_cmp_Or_int_ CC) (bs := [.loop (codeAt [1, 1, 0, 1, 0, 0] B_cmp_Or_int_)]) (by kernel_rfl) (tells_cons (t_cmp_Or_int__1 CC) tells_nil) (Eq.trans (by kernel_rfl) h)
end Go.AM
set_option maxRecDepth 100000
namespace Go.AM
open Go.Proofs
noncomputable def f_semigroupref06_before (C : CallF) (a_0 a_1 a_2 b'_0 b'_1 b'_2 : Int) : Option (List V) :=
  bif (a_0 : Int) != b'_0 then
   some [.bool (decide ((a_0 : Int) < b'_0))]
  else
   bif (a_1 : Int) != b'_1 then
    some [.bool (decide ((a_1 : Int) < b'_1))]
   else
    some [.bool (decide ((a_2 : Int) < b'_2))]
theorem f_semigroupref06_before_of {a_0 a_1 a_2 b'_0 b'_1 b'_2 : Int} {r : Option (List V)} (h : f_semigroupref06_before CC a_0 a_1 a_2 b'_0 b'_1 b'_2 = r) : CC F_semigroupref06_before [.int .i64 a_0, .int .i64 a_1, .int .i64 a_2, .int .i64 b'_0, .int .i64 b'_1, .int .i64 b'_2] = r :=
  func_of (key := 38) (L := LT0) (bs := []) (by kernel_rfl) tells_nil (Eq.trans (by kernel_rfl) h)
end Go.AM
set_option maxRecDepth 100000
set_option linter.unusedSimpArgs false
namespace Go.AM
open Go.Proofs
def cmpI (a b : Int) : Int := if a < b then -1 else if b < a then 1 else 0
def orI (a b : Int) : Int := if a = 0 then b else a
def cmpE (a b : Ed) : Int := orI (cmpI a.f b.f) (orI (cmpI a.l b.l) (cmpI a.t b.t))
theorem cmpE_neg (a b : Ed) : cmpE a b < 0 ↔ a.lt b := by
  simp only [cmpE, orI, cmpI, Ed.lt]
  split <;> split <;> (try split) <;> (try split) <;> (try split) <;> (try split) <;> (try split) <;> omega
theorem isNaN_spec (x : Int) : CC F_cmp_isNaN_int_ [.int .i64 x] = some [.bool false] := by
  refine f_cmp_isNaN_int__of ?_
  unfold f_cmp_isNaN_int_
  simp
theorem Compare_spec (x y : Int) : CC F_cmp_Compare_int_ [.int .i64 x, .int .i64 y] = some [.int .i64 (cmpI x y)] := by
  refine f_cmp_Compare_int__of ?_
  unfold f_cmp_Compare_int_
  rw [isNaN_spec, isNaN_spec]
  simp only [Option.bind_some, V.nth_zero, V.toBool_bool, cond_false, bif_decide, cmpI]
  split
  · rfl
  · split
    · rfl
    · rfl
theorem Or_spec (a b c : Int) : CC F_cmp_Or_int_ [.list T_int [.int .i64 a, .int .i64 b, .int .i64 c]] = some [.int .i64 (orI a (orI b c))] := by
  refine f_cmp_Or_int__of ?_
  unfold f_cmp_Or_int_
  have st : ∀ (i : Nat) (x : Int), i < 3 → ([V.int .i64 a, .int .i64 b, .int .i64 c])[i]? = some (.int .i64 x) →
      s_cmp_Or_int__1L CC 0 [.int .i64 a, .int .i64 b, .int .i64 c] 3 (i : Int) = some (if x = 0 then .inl ((i + 1 : Nat) : Int) else .inr (.inl x)) := by
    intro i x hi hx
    simp only [s_cmp_Or_int__1L, s_cmp_Or_int__1, un, bif_decide, idx_nat]
    rw [if_pos (by omega), hx]
    simp only [Option.bind_some, V.toInt_int, bif_bne]
    split
    · rw [wrap64 (by omega) (by omega)]
      simp
    · rfl
  have h0 := st 0 a (by omega) rfl
  have h1 := st 1 b (by omega) rfl
  have h2 := st 2 c (by omega) rfl
  have e : Loop (s_cmp_Or_int__1L CC 0 [.int .i64 a, .int .i64 b, .int .i64 c] 3) 0 = some (if a ≠ 0 then .inl a else if b ≠ 0 then .inl b else if c ≠ 0 then .inl c else .inr (3, false)) := by
    by_cases ha : a = 0
    · rw [if_pos ha] at h0
      rw [Loop_norm (show s_cmp_Or_int__1L CC 0 [.int .i64 a, .int .i64 b, .int .i64 c] 3 0 = _ from h0), if_neg (by simpa using ha)]
      by_cases hb : b = 0
      · rw [if_pos hb] at h1
        rw [Loop_norm h1, if_neg (by simpa using hb)]
        by_cases hc : c = 0
        · rw [if_pos hc] at h2
          rw [Loop_norm h2, if_neg (by simpa using hc)]
          refine Loop_end ?_
          simp [s_cmp_Or_int__1L, s_cmp_Or_int__1, un]
        · rw [if_neg hc] at h2
          rw [Loop_end h2, if_pos hc]
      · rw [if_neg hb] at h1
        rw [Loop_end h1, if_pos hb]
    · rw [if_neg ha] at h0
      rw [Loop_end (show s_cmp_Or_int__1L CC 0 [.int .i64 a, .int .i64 b, .int .i64 c] 3 0 = _ from h0), if_pos ha]
  have e' : Loop (s_cmp_Or_int__1L CC 0 [.int .i64 a, .int .i64 b, .int .i64 c] (([.int .i64 a, .int .i64 b, .int .i64 c] : List V).length : Int)) 0 = _ := e
  rw [e']
  simp only [orI]
  by_cases ha : a = 0
  · by_cases hb : b = 0
    · by_cases hc : c = 0
      · simp [ha, hb, hc, way2, un]
      · simp [ha, hb, hc, way2, un]
    · simp [ha, hb, way2, un]
  · simp [ha, way2, un]
theorem compareEdges_spec (a b : Ed) : CC F_nfa_compareEdges [.int .i64 a.f, .int .i64 a.l, .int .i64 a.t, .int .i64 b.f, .int .i64 b.l, .int .i64 b.t] = some [.int .i64 (cmpE a b)] := by
  refine f_nfa_compareEdges_of ?_
  unfold f_nfa_compareEdges
  rw [Compare_spec, Compare_spec, Compare_spec]
  simp only [Option.bind_some, V.nth_zero, V.toInt_int]
  rw [Or_spec]
  simp [cmpE]
theorem before_spec (a b : Ed) : CC F_semigroupref06_before [.int .i64 a.f, .int .i64 a.l, .int .i64 a.t, .int .i64 b.f, .int .i64 b.l, .int .i64 b.t] = some [.bool (decide (a.lt b))] := by
  refine f_semigroupref06_before_of ?_
  unfold f_semigroupref06_before
  simp only [bif_bne]
  split
  · split
    · refine congrArg (fun b => some [V.bool b]) ?_; rw [decide_eq_decide]; unfold Ed.lt; omega
    · refine congrArg (fun b => some [V.bool b]) ?_; rw [decide_eq_decide]; unfold Ed.lt; omega
  · refine congrArg (fun b => some [V.bool b]) ?_; rw [decide_eq_decide]; unfold Ed.lt; omega
theorem idx_ed {E : List Ed} {i : Nat} (h : i < E.length) : idx (E.map Ed.enc) (i : Int) = some (E.getD i default).enc := by
  rw [idx_nat]; simp [h]
end Go.AM
set_option maxRecDepth 100000
namespace Go.AM
open Go.Proofs
noncomputable def f_nfa_hasBoolean (C : CallF) (e_0 e_1 : Int) (e_2 : List V) : Option (List V) :=
  bif (e_0 : Int) == 6 then
   some [.bool true]
  else
   bif (e_0 : Int) == 8 then
    some [.bool true]
   else
    (C F_slices_ContainsFunc___api_Expr_api_Expr_ [.list T_api_Expr e_2]).bind fun r1 =>
    some [.bool ((V.nth r1 0).toBool)]
theorem f_nfa_hasBoolean_of {e_0 e_1 : Int} {e_2 : List V} {r : Option (List V)} (h : f_nfa_hasBoolean CC e_0 e_1 e_2 = r) : CC F_nfa_hasBoolean [.int .i64 e_0, .int .i64 e_1, .list T_api_Expr e_2] = r :=
  func_of (key := 60) (L := LT0) (bs := []) (by kernel_rfl) tells_nil (Eq.trans (by kernel_rfl) h)
end Go.AM
set_option maxRecDepth 100000
namespace Go.AM
open Go.Proofs
noncomputable def f_nfa_plain (C : CallF) (e_0 e_1 : Int) (e_2 : List V) (letters : Int) : Option (List V) :=
  (C F_expr_Validate [.int .i64 e_0, .int .i64 e_1, .list T_api_Expr e_2, .int .i64 letters]).bind fun r1 =>
  bif (((V.nth r1 0).toInt) : Int) != 0 then
   some [.int .i64 ((V.nth r1 0).toInt)]
  else
   (C F_nfa_hasBoolean [.int .i64 e_0, .int .i64 e_1, .list T_api_Expr e_2]).bind fun r2 =>
   bif (V.nth r2 0).toBool then
    some [.int .i64 4]
   else
    some [.int .i64 0]
theorem f_nfa_plain_of {e_0 e_1 : Int} {e_2 : List V} {letters : Int} {r : Option (List V)} (h : f_nfa_plain CC e_0 e_1 e_2 letters = r) : CC F_nfa_plain [.int .i64 e_0, .int .i64 e_1, .list T_api_Expr e_2, .int .i64 letters] = r :=
  func_of (key := 40) (L := LT0) (bs := []) (by kernel_rfl) tells_nil (Eq.trans (by kernel_rfl) h)
end Go.AM
set_option maxRecDepth 100000
namespace Go.AM
open Go.Proofs
noncomputable abbrev B_nfa_letterNodes : Code := bodyOf Tryd.prog (ann.fid 41)
noncomputable def s_nfa_letterNodes_1 (C : CallF) (t13 : List V) (t14 t15 : Int) (letterss : List V) {β : Type} (kn : (Int × (List V)) → Option β) (kr : (Int × Bool × (List V)) → Option β) : Option β :=
  bif decide ((t15 : Int) < t14) then
   (idx t13 t15).bind fun x1 =>
   (C F_nfa_letterNodes [.int .i64 ((x1.cell 0).toInt), .int .i64 ((x1.cell 1).toInt), .list T_api_Expr ((x1.cell 2).toList)]).bind fun r2 =>
   bif Nat.ble ((letterss.length + ((V.nth r2 0).toList).length) * 8) maxBytes then
    kn (IntKind.wrap .i64 (t15 + 1), letterss ++ ((V.nth r2 0).toList))
   else none
  else
   kr (t15, decide ((t15 : Int) < t14), letterss)
noncomputable def s_nfa_letterNodes_1L (C : CallF) (t13 : List V) (t14 : Int) : (Int × (List V)) → Option ((Int × (List V)) ⊕ (Int × Bool × (List V))) := un fun t15 letterss => s_nfa_letterNodes_1 C t13 t14 t15 letterss (fun y => some (.inl y)) (fun r => some (.inr r))
noncomputable def LT_nfa_letterNodes (C : CallF) : LTab := fun β n ds k =>
  bif Nat.beq n 81 then loopS S41_81 [false, false, true, true] [[1, 2, 0, 0, 0]] (@s_nfa_letterNodes_1 C) ds k else
  none
abbrev TS_nfa_letterNodes (C : CallF) (b : Bar) : Prop := Tells Tryd.prog ann C (LT_nfa_letterNodes C) 41 (ntmpsOf Tryd.prog (ann.fid 41)) (ann.sin 41).blks.length b
theorem t_nfa_letterNodes_1 (C : CallF) : TS_nfa_letterNodes C (.loop (codeAt [1, 1, 1, 0, 1, 0, 0] B_nfa_letterNodes)) :=
  tl3 S41_81 [false, false, true, true] [[1, 2, 0, 0, 0]] (@s_nfa_letterNodes_1 C) (by kernel_rfl) (ltok_of (bs := []) (by kernel_rfl) tells_nil) (fun ds => by kernel_rfl) (fun i x => by kernel_rfl) (fun i x β k => by kernel_rfl) (fun β ds k => by kernel_rfl)
noncomputable def f_nfa_letterNodes (C : CallF) (e_0 e_1 : Int) (e_2 : List V) : Option (List V) :=
  bif (e_0 : Int) == 3 then
   some [.list T_int ([.int .i64 e_1] : List V)]
  else
   (Loop (s_nfa_letterNodes_1L C e_2 (e_2.length : Int)) (0, ([] : List V))).bind (un fun (t_3 : Int) => un fun (t_4 : Bool) (letterss_5 : List V) =>
     some [.list T_int letterss_5])
theorem f_nfa_letterNodes_of {e_0 e_1 : Int} {e_2 : List V} {r : Option (List V)} (h : f_nfa_letterNodes CC e_0 e_1 e_2 = r) : CC F_nfa_letterNodes [.int .i64 e_0, .int .i64 e_1, .list T_api_Expr e_2] = r :=
  func_of (key := 41) (L := LT_nfa_letterNodes CC) (bs := [.loop (codeAt [1, 1, 1, 0, 1, 0, 0] B_nfa_letterNodes)]) (by kernel_rfl) (tells_cons (t_nfa_letterNodes_1 CC) tells_nil) (Eq.trans (by kernel_rfl) h)
end Go.AM
set_option maxRecDepth 100000
namespace Go.AM
open Go.Proofs
noncomputable abbrev B_nfa_positions_join : Code := bodyOf Tryd.prog (ann.fid 61)
noncomputable def s_nfa_positions_join_1 (C : CallF) (next' t10 ps : Int) (t9s : List V) (t11 : Int) (b3_ : List V) {β : Type} (kn : (Int × (List V)) → Option β) (kr : (Int × Bool × (List V)) → Option β) : Option β :=
  bif decide ((t11 : Int) < t10) then
   bif (decide (0 ≤ t11)) && (decide (t11 < (t9s.length : Int))) then
    (t9s[(t11 : Int).toNat]?).bind fun x2 =>
    bif (decide (0 ≤ x2.toInt)) && (decide (x2.toInt < (b3_.length : Int))) then
     (b3_[(x2.toInt : Int).toNat]?).bind fun x3 =>
     bif (decide (0 ≤ x2.toInt)) && (decide (x2.toInt < (b3_.length : Int))) then
      (b3_[(x2.toInt : Int).toNat]?).bind fun x4 =>
      kn (IntKind.wrap .i64 (t11 + 1), b3_.set ((x2.toInt : Int).toNat) (.int .u64 (IntKind.wrap .u64 ((BitVec.ofInt (IntKind.bits .u64) x3.toInt ||| BitVec.ofInt (IntKind.bits .u64) next').toNat))))
     else none
    else none
   else none
  else
   kr (t11, decide ((t11 : Int) < t10), b3_)
noncomputable def s_nfa_positions_join_1L (C : CallF) (next' t10 ps : Int) (t9s : List V) : (Int × (List V)) → Option ((Int × (List V)) ⊕ (Int × Bool × (List V))) := un fun t11 b3_ => s_nfa_positions_join_1 C next' t10 ps t9s t11 b3_ (fun y => some (.inl y)) (fun r => some (.inr r))
noncomputable def LT_nfa_positions_join (C : CallF) : LTab := fun β n ds k =>
  bif Nat.beq n 17 then loopS S61_17 [false, false, true, false, false, true] [[1, 2, 0, 0, 4, 5, 0]] (@s_nfa_positions_join_1 C) ds k else
  none
abbrev TS_nfa_positions_join (C : CallF) (b : Bar) : Prop := Tells Tryd.prog ann C (LT_nfa_positions_join C) 61 (ntmpsOf Tryd.prog (ann.fid 61)) (ann.sin 61).blks.length b
theorem t_nfa_positions_join_1 (C : CallF) : TS_nfa_positions_join C (.loop (codeAt [1, 0, 0] B_nfa_positions_join)) :=
  tl3 S61_17 [false, false, true, false, false, true] [[1, 2, 0, 0, 4, 5, 0]] (@s_nfa_positions_join_1 C) (by kernel_rfl) (ltok_of (bs := []) (by kernel_rfl) tells_nil) (fun ds => by kernel_rfl) (fun i x => by kernel_rfl) (fun i x β k => by kernel_rfl) (fun β ds k => by kernel_rfl)
noncomputable def f_nfa_positions_join (C : CallF) (nodes next' ps : Int) (b1_ : List V) : Option (List V) :=
  (C F_relation_Members [.int .u64 nodes]).bind fun r1 =>
  (Loop (s_nfa_positions_join_1L C next' (((V.nth r1 0).toList).length : Int) ps ((V.nth r1 0).toList)) (0, b1_)).bind (un fun (t_5 : Int) => un fun (t_6 : Bool) (b_7 : List V) =>
    some [.int .i64 ps, .list T_uint64 b_7])
theorem f_nfa_positions_join_of {nodes next' ps : Int} {b1_ : List V} {r : Option (List V)} (h : f_nfa_positions_join CC nodes next' ps b1_ = r) : CC F_nfa_positions_join [.int .u64 nodes, .int .u64 next', .int .i64 ps, .list T_uint64 b1_] = r :=
  func_of (key := 61) (L := LT_nfa_positions_join CC) (bs := [.loop (codeAt [1, 0, 0] B_nfa_positions_join)]) (by kernel_rfl) (tells_cons (t_nfa_positions_join_1 CC) tells_nil) (Eq.trans (by kernel_rfl) h)
end Go.AM
set_option maxRecDepth 100000
namespace Go.AM
open Go.Proofs
noncomputable abbrev B_nfa_positions_visit : Code := bodyOf Tryd.prog (ann.fid 42)
noncomputable def s_nfa_positions_visit_1 (C : CallF) (t42 : List V) (t43 t4s_0 t4s_1 : Int) (t4s_2 : Bool) (t44 ps alls_0 alls_1 : Int) (alls_2 : Bool) (b4_ : List V) {β : Type} (kn : (Int × Int × Int × Int × Bool × (List V)) → Option β) (kr : (Int × Bool × Int × Int × Int × Bool × (List V)) → Option β) : Option β :=
  bif decide ((t44 : Int) < t43) then
   (idx t42 t44).bind fun x1 =>
   (C F_nfa_positions_visit [.int .i64 ((x1.cell 0).toInt), .int .i64 ((x1.cell 1).toInt), .list T_api_Expr ((x1.cell 2).toList), .int .i64 ps, .list T_uint64 b4_]).bind fun r2 =>
   bif alls_2 then
    kn (IntKind.wrap .i64 (t44 + 1), (V.nth (r2.drop 3) 0).toInt, IntKind.wrap .u64 ((BitVec.ofInt (IntKind.bits .u64) alls_0 ||| BitVec.ofInt (IntKind.bits .u64) ((V.nth r2 0).toInt)).toNat), IntKind.wrap .u64 ((BitVec.ofInt (IntKind.bits .u64) alls_1 ||| BitVec.ofInt (IntKind.bits .u64) ((V.nth (r2.drop 1) 0).toInt)).toNat), true, (V.nth ((r2.drop 3).drop 1) 0).toList)
   else
    kn (IntKind.wrap .i64 (t44 + 1), (V.nth (r2.drop 3) 0).toInt, IntKind.wrap .u64 ((BitVec.ofInt (IntKind.bits .u64) alls_0 ||| BitVec.ofInt (IntKind.bits .u64) ((V.nth r2 0).toInt)).toNat), IntKind.wrap .u64 ((BitVec.ofInt (IntKind.bits .u64) alls_1 ||| BitVec.ofInt (IntKind.bits .u64) ((V.nth (r2.drop 1) 0).toInt)).toNat), (V.nth ((r2.drop 1).drop 1) 0).toBool, (V.nth ((r2.drop 3).drop 1) 0).toList)
  else
   kr (t44, decide ((t44 : Int) < t43), ps, alls_0, alls_1, alls_2, b4_)
noncomputable def s_nfa_positions_visit_1L (C : CallF) (t42 : List V) (t43 t4s_0 t4s_1 : Int) (t4s_2 : Bool) : (Int × Int × Int × Int × Bool × (List V)) → Option ((Int × Int × Int × Int × Bool × (List V)) ⊕ (Int × Bool × Int × Int × Int × Bool × (List V))) := un fun t44 => un fun ps => un fun alls_0 => un fun alls_1 => un fun alls_2 b4_ => s_nfa_positions_visit_1 C t42 t43 t4s_0 t4s_1 t4s_2 t44 ps alls_0 alls_1 alls_2 b4_ (fun y => some (.inl y)) (fun r => some (.inr r))
noncomputable def s_nfa_positions_visit_2 (C : CallF) (t74 : List V) (t75 t76 : Int) (t90 : Bool) (ps t4s_0 t4s_1 : Int) (t4s_2 : Bool) (alls_0 alls_1 : Int) (alls_2 : Bool) (k's_0 k's_1 : Int) (k's_2 : Bool) (b5_ : List V) {β : Type} (kr : (Int) → Option β) : Option β :=
  bif t90 then
   kr (IntKind.wrap .u64 ((BitVec.ofInt (IntKind.bits .u64) alls_0 ||| BitVec.ofInt (IntKind.bits .u64) k's_0).toNat))
  else
   kr alls_0
noncomputable def s_nfa_positions_visit_3 (C : CallF) (t74 : List V) (t75 t76 : Int) (t99 : Bool) (ps t4s_0 t4s_1 : Int) (t4s_2 : Bool) (alls_0 alls_1 : Int) (alls_2 : Bool) (k's_0 k's_1 : Int) (k's_2 : Bool) (b5_ : List V) {β : Type} (kr : (Int) → Option β) : Option β :=
  bif t99 then
   kr 0
  else
   kr alls_1
noncomputable def s_nfa_positions_visit_4 (C : CallF) (t74 : List V) (t75 t4s_0 t4s_1 : Int) (t4s_2 : Bool) (t76 ps alls_0 alls_1 : Int) (alls_2 : Bool) (b4_ : List V) {β : Type} (kn : (Int × Int × Int × Int × Bool × (List V)) → Option β) (kr : (Int × Bool × Int × Int × Int × Bool × (List V)) → Option β) : Option β :=
  bif decide ((t76 : Int) < t75) then
   (idx t74 t76).bind fun x10 =>
   (C F_nfa_positions_visit [.int .i64 ((x10.cell 0).toInt), .int .i64 ((x10.cell 1).toInt), .list T_api_Expr ((x10.cell 2).toList), .int .i64 ps, .list T_uint64 b4_]).bind fun r11 =>
   (C F_nfa_positions_join [.int .u64 alls_1, .int .u64 ((V.nth r11 0).toInt), .int .i64 ((V.nth (r11.drop 3) 0).toInt), .list T_uint64 ((V.nth ((r11.drop 3).drop 1) 0).toList)]).bind fun r12 =>
   s_nfa_positions_visit_2 C t74 t75 t76 alls_2 ((V.nth r12 0).toInt) t4s_0 t4s_1 t4s_2 alls_0 alls_1 alls_2 ((V.nth r11 0).toInt) ((V.nth (r11.drop 1) 0).toInt) ((V.nth ((r11.drop 1).drop 1) 0).toBool) ((V.nth (r12.drop 1) 0).toList) (fun (alls_13 : Int) =>
     s_nfa_positions_visit_3 C t74 t75 t76 (!((V.nth ((r11.drop 1).drop 1) 0).toBool)) ((V.nth r12 0).toInt) t4s_0 t4s_1 t4s_2 alls_13 alls_1 alls_2 ((V.nth r11 0).toInt) ((V.nth (r11.drop 1) 0).toInt) ((V.nth ((r11.drop 1).drop 1) 0).toBool) ((V.nth (r12.drop 1) 0).toList) (fun (alls_14 : Int) =>
       bif alls_2 then
        kn (IntKind.wrap .i64 (t76 + 1), (V.nth r12 0).toInt, alls_13, IntKind.wrap .u64 ((BitVec.ofInt (IntKind.bits .u64) alls_14 ||| BitVec.ofInt (IntKind.bits .u64) ((V.nth (r11.drop 1) 0).toInt)).toNat), (V.nth ((r11.drop 1).drop 1) 0).toBool, (V.nth (r12.drop 1) 0).toList)
       else
        kn (IntKind.wrap .i64 (t76 + 1), (V.nth r12 0).toInt, alls_13, IntKind.wrap .u64 ((BitVec.ofInt (IntKind.bits .u64) alls_14 ||| BitVec.ofInt (IntKind.bits .u64) ((V.nth (r11.drop 1) 0).toInt)).toNat), false, (V.nth (r12.drop 1) 0).toList)))
  else
   kr (t76, decide ((t76 : Int) < t75), ps, alls_0, alls_1, alls_2, b4_)
noncomputable def s_nfa_positions_visit_4L (C : CallF) (t74 : List V) (t75 t4s_0 t4s_1 : Int) (t4s_2 : Bool) : (Int × Int × Int × Int × Bool × (List V)) → Option ((Int × Int × Int × Int × Bool × (List V)) ⊕ (Int × Bool × Int × Int × Int × Bool × (List V))) := un fun t76 => un fun ps => un fun alls_0 => un fun alls_1 => un fun alls_2 b4_ => s_nfa_positions_visit_4 C t74 t75 t4s_0 t4s_1 t4s_2 t76 ps alls_0 alls_1 alls_2 b4_ (fun y => some (.inl y)) (fun r => some (.inr r))
noncomputable def LT_nfa_positions_visit (C : CallF) : LTab := fun β n ds k =>
  bif Nat.beq n 161 then loopS S42_161 [false, false, true, true, false, false, false, true, true, true, true] [[1, 2, 0, 0, 0, 5, 6, 7, 0, 0, 0, 0]] (@s_nfa_positions_visit_1 C) ds k else
  bif Nat.beq n 1455 then condS S42_1455 [[1, 2, 3, 5, 6, 7, 8, 0, 10, 11, 12, 13, 14, 15]] (@s_nfa_positions_visit_2 C) ds k else
  bif Nat.beq n 1599 then condS S42_1599 [[1, 2, 3, 5, 6, 7, 8, 9, 0, 11, 12, 13, 14, 15]] (@s_nfa_positions_visit_3 C) ds k else
  bif Nat.beq n 305 then loopS S42_305 [false, false, true, true, false, false, false, true, true, true, true] [[1, 2, 0, 0, 0, 5, 6, 7, 0, 0, 0, 0]] (@s_nfa_positions_visit_4 C) ds k else
  none
abbrev TS_nfa_positions_visit (C : CallF) (b : Bar) : Prop := Tells Tryd.prog ann C (LT_nfa_positions_visit C) 42 (ntmpsOf Tryd.prog (ann.fid 42)) (ann.sin 42).blks.length b
theorem t_nfa_positions_visit_1 (C : CallF) : TS_nfa_positions_visit C (.loop (codeAt [1, 0, 1, 0, 1, 1, 1, 1, 1, 0, 1, 0, 1, 0, 0] B_nfa_positions_visit)) :=
  tl3 S42_161 [false, false, true, true, false, false, false, true, true, true, true] [[1, 2, 0, 0, 0, 5, 6, 7, 0, 0, 0, 0]] (@s_nfa_positions_visit_1 C) (by kernel_rfl) (ltok_of (bs := []) (by kernel_rfl) tells_nil) (fun ds => by kernel_rfl) (fun i x => by kernel_rfl) (fun i x β k => by kernel_rfl) (fun β ds k => by kernel_rfl)
theorem t_nfa_positions_visit_2 (C : CallF) : TS_nfa_positions_visit C (.cond 90 (codeAt [1, 0, 1, 0, 1, 1, 1, 1, 1, 1, 1, 0, 1, 0, 1, 0, 0, 1, 1, 0, 0, 1, 1, 1, 0, 1, 0] B_nfa_positions_visit) (codeAt [1, 0, 1, 0, 1, 1, 1, 1, 1, 1, 1, 0, 1, 0, 1, 0, 0, 1, 1, 0, 0, 1, 1, 1, 0, 1, 1] B_nfa_positions_visit)) :=
  tc3 S42_1455 [[1, 2, 3, 5, 6, 7, 8, 0, 10, 11, 12, 13, 14, 15]] (@s_nfa_positions_visit_2 C) (by kernel_rfl) (ltok_of (bs := []) (by kernel_rfl) tells_nil) (ltok_of (bs := []) (by kernel_rfl) tells_nil) (fun ds => by kernel_rfl) (fun i β k => by kernel_rfl) (fun β ds k => by kernel_rfl)
theorem t_nfa_positions_visit_3 (C : CallF) : TS_nfa_positions_visit C (.cond 99 (codeAt [1, 0, 1, 0, 1, 1, 1, 1, 1, 1, 1, 0, 1, 0, 1, 0, 0, 1, 1, 0, 0, 1, 1, 1, 1, 0, 1, 0] B_nfa_positions_visit) (codeAt [1, 0, 1, 0, 1, 1, 1, 1, 1, 1, 1, 0, 1, 0, 1, 0, 0, 1, 1, 0, 0, 1, 1, 1, 1, 0, 1, 1] B_nfa_positions_visit)) :=
  tc3 S42_1599 [[1, 2, 3, 5, 6, 7, 8, 9, 0, 11, 12, 13, 14, 15]] (@s_nfa_positions_visit_3 C) (by kernel_rfl) (ltok_of (bs := []) (by kernel_rfl) tells_nil) (ltok_of (bs := []) (by kernel_rfl) tells_nil) (fun ds => by kernel_rfl) (fun i β k => by kernel_rfl) (fun β ds k => by kernel_rfl)
theorem t_nfa_positions_visit_4 (C : CallF) : TS_nfa_positions_visit C (.loop (codeAt [1, 0, 1, 0, 1, 1, 1, 1, 1, 1, 1, 0, 1, 0, 1, 0, 0] B_nfa_positions_visit)) :=
  tl3 S42_305 [false, false, true, true, false, false, false, true, true, true, true] [[1, 2, 0, 0, 0, 5, 6, 7, 0, 0, 0, 0]] (@s_nfa_positions_visit_4 C) (by kernel_rfl) (ltok_of (bs := [.cond 90 (codeAt [1, 0, 1, 0, 1, 1, 1, 1, 1, 1, 1, 0, 1, 0, 1, 0, 0, 1, 1, 0, 0, 1, 1, 1, 0, 1, 0] B_nfa_positions_visit) (codeAt [1, 0, 1, 0, 1, 1, 1, 1, 1, 1, 1, 0, 1, 0, 1, 0, 0, 1, 1, 0, 0, 1, 1, 1, 0, 1, 1] B_nfa_positions_visit), .cond 99 (codeAt [1, 0, 1, 0, 1, 1, 1, 1, 1, 1, 1, 0, 1, 0, 1, 0, 0, 1, 1, 0, 0, 1, 1, 1, 1, 0, 1, 0] B_nfa_positions_visit) (codeAt [1, 0, 1, 0, 1, 1, 1, 1, 1, 1, 1, 0, 1, 0, 1, 0, 0, 1, 1, 0, 0, 1, 1, 1, 1, 0, 1, 1] B_nfa_positions_visit)]) (by kernel_rfl) (tells_cons (t_nfa_positions_visit_2 C) (tells_cons (t_nfa_positions_visit_3 C) tells_nil))) (fun ds => by kernel_rfl) (fun i x => by kernel_rfl) (fun i x β k => by kernel_rfl) (fun β ds k => by kernel_rfl)
noncomputable def f_nfa_positions_visit (C : CallF) (e_0 e_1 : Int) (e_2 : List V) (ps : Int) (b1_ : List V) : Option (List V) :=
  bif (e_0 : Int) == 2 then
   some [.int .u64 0, .int .u64 0, .bool true, .int .i64 ps, .list T_uint64 b1_]
  else
   bif (e_0 : Int) == 3 then
    bif decide (0 ≤ (IntKind.wrap .i64 (ps + 1))) then
     bif decide (0 ≤ (IntKind.wrap .i64 (ps + 1))) then
      some [.int .u64 (IntKind.wrap .u64 (1 * 2 ^ (min (IntKind.wrap .i64 (ps + 1)).toNat (IntKind.bits .u64)))), .int .u64 (IntKind.wrap .u64 (1 * 2 ^ (min (IntKind.wrap .i64 (ps + 1)).toNat (IntKind.bits .u64)))), .bool false, .int .i64 (IntKind.wrap .i64 (ps + 1)), .list T_uint64 b1_]
     else none
    else none
   else
    bif (e_0 : Int) == 4 then
     (Loop (s_nfa_positions_visit_1L C e_2 (e_2.length : Int) 0 0 false) (0, ps, 0, 0, false, b1_)).bind (un fun (t_3 : Int) => un fun (t_4 : Bool) => un fun (ps_5 : Int) => un fun (alls_6 : Int) => un fun (alls_7 : Int) => un fun (alls_8 : Bool) (b_9 : List V) =>
       some [.int .u64 alls_6, .int .u64 alls_7, .bool alls_8, .int .i64 ps_5, .list T_uint64 b_9])
    else
     bif (e_0 : Int) == 5 then
      (Loop (s_nfa_positions_visit_4L C e_2 (e_2.length : Int) 0 0 false) (0, ps, 0, 0, true, b1_)).bind (un fun (t_15 : Int) => un fun (t_16 : Bool) => un fun (ps_17 : Int) => un fun (alls_18 : Int) => un fun (alls_19 : Int) => un fun (alls_20 : Bool) (b_21 : List V) =>
        some [.int .u64 alls_18, .int .u64 alls_19, .bool alls_20, .int .i64 ps_17, .list T_uint64 b_21])
     else
      bif (e_0 : Int) == 7 then
       (e_2[0]?).bind fun x22 =>
       (C F_nfa_positions_visit [.int .i64 ((x22.cell 0).toInt), .int .i64 ((x22.cell 1).toInt), .list T_api_Expr ((x22.cell 2).toList), .int .i64 ps, .list T_uint64 b1_]).bind fun r23 =>
       (C F_nfa_positions_join [.int .u64 ((V.nth (r23.drop 1) 0).toInt), .int .u64 ((V.nth r23 0).toInt), .int .i64 ((V.nth (r23.drop 3) 0).toInt), .list T_uint64 ((V.nth ((r23.drop 3).drop 1) 0).toList)]).bind fun r24 =>
       some [.int .u64 ((V.nth r23 0).toInt), .int .u64 ((V.nth (r23.drop 1) 0).toInt), .bool true, .int .i64 ((V.nth r24 0).toInt), .list T_uint64 ((V.nth (r24.drop 1) 0).toList)]
      else
       some [.int .u64 0, .int .u64 0, .bool false, .int .i64 ps, .list T_uint64 b1_]
theorem f_nfa_positions_visit_of {e_0 e_1 : Int} {e_2 : List V} {ps : Int} {b1_ : List V} {r : Option (List V)} (h : f_nfa_positions_visit CC e_0 e_1 e_2 ps b1_ = r) : CC F_nfa_positions_visit [.int .i64 e_0, .int .i64 e_1, .list T_api_Expr e_2, .int .i64 ps, .list T_uint64 b1_] = r :=
  func_of (key := 42) (L := LT_nfa_positions_visit CC) (bs := [.loop (codeAt [1, 0, 1, 0, 1, 1, 1, 1, 1, 0, 1, 0, 1, 0, 0] B_nfa_positions_visit), .loop (codeAt [1, 0, 1, 0, 1, 1, 1, 1, 1, 1, 1, 0, 1, 0, 1, 0, 0] B_nfa_positions_visit)]) (by kernel_rfl) (tells_cons (t_nfa_positions_visit_1 CC) (tells_cons (t_nfa_positions_visit_4 CC) tells_nil)) (Eq.trans (by kernel_rfl) h)
end Go.AM
set_option maxRecDepth 100000
namespace Go.AM
open Go.Proofs
noncomputable def f_slices_ContainsFunc___api_Expr_api_Expr_ (C : CallF) (s : List V) : Option (List V) :=
  (C F_slices_IndexFunc___api_Expr_api_Expr_ [.list T_api_Expr s]).bind fun r1 =>
  some [.bool (decide ((((V.nth r1 0).toInt) : Int) ≥ 0))]
theorem f_slices_ContainsFunc___api_Expr_api_Expr__of {s : List V} {r : Option (List V)} (h : f_slices_ContainsFunc___api_Expr_api_Expr_ CC s = r) : CC F_slices_ContainsFunc___api_Expr_api_Expr_ [.list T_api_Expr s] = r :=
  func_of (key := 73) (L := LT0) (bs := []) (by kernel_rfl) tells_nil (Eq.trans (by kernel_rfl) h)
end Go.AM
set_option maxRecDepth 100000
namespace Go.AM
open Go.Proofs
noncomputable abbrev B_slices_IndexFunc___api_Expr_api_Expr_ : Code := bodyOf Tryd.prog (ann.fid 87)
noncomputable def s_slices_IndexFunc___api_Expr_api_Expr__1 (C : CallF) (s : List V) (t7 t8 : Int) {β : Type} (kn : Int → Option β) (kr : ((Int) ⊕ (Int × Bool)) → Option β) : Option β :=
  bif decide ((t8 : Int) < t7) then
   (idx s t8).bind fun x1 =>
   (C F_nfa_hasBoolean [.int .i64 ((x1.cell 0).toInt), .int .i64 ((x1.cell 1).toInt), .list T_api_Expr ((x1.cell 2).toList)]).bind fun r2 =>
   bif (V.nth r2 0).toBool then
    kr (.inl t8)
   else
    kn (IntKind.wrap .i64 (t8 + 1))
  else
   kr (.inr (t8, decide ((t8 : Int) < t7)))
noncomputable def s_slices_IndexFunc___api_Expr_api_Expr__1L (C : CallF) (s : List V) (t7 : Int) : (Int) → Option ((Int) ⊕ ((Int) ⊕ (Int × Bool))) := fun t8 => s_slices_IndexFunc___api_Expr_api_Expr__1 C s t7 t8 (fun y => some (.inl y)) (fun r => some (.inr r))
noncomputable def LT_slices_IndexFunc___api_Expr_api_Expr_ (C : CallF) : LTab := fun β n ds k =>
  bif Nat.beq n 33 then loopS S87_33 [false, false, true] [[0], [1, 2, 0, 0]] (@s_slices_IndexFunc___api_Expr_api_Expr__1 C) ds k else
  none
abbrev TS_slices_IndexFunc___api_Expr_api_Expr_ (C : CallF) (b : Bar) : Prop := Tells Tryd.prog ann C (LT_slices_IndexFunc___api_Expr_api_Expr_ C) 87 (ntmpsOf Tryd.prog (ann.fid 87)) (ann.sin 87).blks.length b
theorem t_slices_IndexFunc___api_Expr_api_Expr__1 (C : CallF) : TS_slices_IndexFunc___api_Expr_api_Expr_ C (.loop (codeAt [1, 0, 1, 0, 0] B_slices_IndexFunc___api_Expr_api_Expr_)) :=
  tl3 S87_33 [false, false, true] [[0], [1, 2, 0, 0]] (@s_slices_IndexFunc___api_Expr_api_Expr__1 C) (by kernel_rfl) (ltok_of (bs := []) (by kernel_rfl) tells_nil) (fun ds => by kernel_rfl) (fun i x => by kernel_rfl) (fun i x β k => by kernel_rfl) (fun β ds k => by kernel_rfl)
noncomputable def f_slices_IndexFunc___api_Expr_api_Expr_ (C : CallF) (s : List V) : Option (List V) :=
  (Loop (s_slices_IndexFunc___api_Expr_api_Expr__1L C s (s.length : Int)) 0).bind (way2 (fun (t_3 : Int) =>
    some [.int .i64 t_3]) (un fun (t_4 : Int) (t_5 : Bool) =>
    some [.int .i64 (-1)]))
theorem f_slices_IndexFunc___api_Expr_api_Expr__of {s : List V} {r : Option (List V)} (h : f_slices_IndexFunc___api_Expr_api_Expr_ CC s = r) : CC F_slices_IndexFunc___api_Expr_api_Expr_ [.list T_api_Expr s] = r :=
  func_of (key := 87) (L := LT_slices_IndexFunc___api_Expr_api_Expr_ CC) (bs := [.loop (codeAt [1, 0, 1, 0, 0] B_slices_IndexFunc___api_Expr_api_Expr_)]) (by kernel_rfl) (tells_cons (t_slices_IndexFunc___api_Expr_api_Expr__1 CC) tells_nil) (Eq.trans (by kernel_rfl) h)
end Go.AM
set_option maxRecDepth 100000
set_option linter.unusedSimpArgs false
namespace Go.AM
open Go.Proofs Ex
def iV (l : List Int) : List V := l.map fun x => V.int .i64 x
theorem iV_append (a b : List Int) : iV (a ++ b) = iV a ++ iV b := by simp [iV]
theorem ltrs_size : ∀ e : Ex, (ltrs e).length ≤ e.size := ind fun o l ks ih => by
  have : ∀ ks : List Ex, (∀ k ∈ ks, (ltrs k).length ≤ k.size) → (ltrss ks).length ≤ sizes ks := by
    intro ks
    induction ks with
    | nil => intro _; simp [ltrss, sizes]
    | cons k ks ih =>
      intro h
      have h1 := h k (by simp)
      have h2 := ih fun k hk => h k (by simp [hk])
      simp only [ltrss, sizes, List.length_append]; omega
  have := this ks ih
  simp only [ltrs, size]
  split
  · simp
  · omega
theorem sizes_append (a b : List Ex) : sizes (a ++ b) = sizes a + sizes b := by
  induction a with
  | nil => simp [sizes]
  | cons k a ih => simp only [List.cons_append, sizes, ih]; omega
theorem letterNodes_spec : ∀ e : Ex, e.Ok → e.size ≤ 400 → CC F_nfa_letterNodes (exA e []) = some [.list T_int (iV (ltrs e))] :=
  ind fun o l ks ih hok hsz => by
    have hm := maxLen_le
    have hlen := hok.len
    simp only [size] at hsz
    refine f_nfa_letterNodes_of ?_
    unfold f_nfa_letterNodes
    simp only [Ex.op, Ex.letter, Ex.kids, bif_beq, ltrs]
    by_cases h3 : o = 3
    · rw [if_pos h3, if_pos h3]; rfl
    rw [if_neg h3, if_neg h3]
    have go : ∀ (suf pre : List Ex) (acc : List Int), ks = pre ++ suf → acc.length ≤ sizes pre →
        Loop (s_nfa_letterNodes_1L CC (ks.map enc) ((ks.map enc).length : Int)) (((pre.length : Nat) : Int), iV acc) = some (((ks.map enc).length : Int), false, iV (acc ++ ltrss suf)) := by
      intro suf
      induction suf with
      | nil =>
        intro pre acc e _
        rw [List.append_nil] at e
        subst e
        refine Loop_end ?_
        simp only [s_nfa_letterNodes_1L, s_nfa_letterNodes_1, un, List.length_map, ltrss, List.append_nil]
        rw [bif_decide, if_neg (by omega), decide_eq_false (by omega)]
      | cons k suf ih2 =>
        intro pre acc e ha
        have hk1 : k ∈ ks := by rw [e]; simp
        have hlt : pre.length < ks.length := by rw [e]; simp
        have hi : idx (ks.map enc) ((pre.length : Nat) : Int) = some k.enc := by rw [e]; exact idx_kid pre suf k
        have hss : sizes ks = sizes pre + (k.size + sizes suf) := by rw [e, sizes_append]; simp only [sizes]
        have hl := ltrs_size k
        have c := ih k hk1 (hok.kid k hk1) (by omega)
        have hst : s_nfa_letterNodes_1L CC (ks.map enc) ((ks.map enc).length : Int) (((pre.length : Nat) : Int), iV acc) = some (.inl (((pre.length + 1 : Nat) : Int), iV (acc ++ ltrs k))) := by
          simp only [s_nfa_letterNodes_1L, s_nfa_letterNodes_1, un, List.length_map]
          rw [bif_decide, if_pos (by omega), hi]
          simp only [Option.bind_some, enc_0, enc_1, enc_2]
          refine (congrArg (fun o => Option.bind o _) c).trans ?_
          simp only [Option.bind_some, V.nth_zero, V.toList_list, bif_ble]
          rw [if_pos (by rw [maxB]; simp only [iV, List.length_map]; omega), wrap64 (by omega) (by omega), iV_append]
          rfl
        rw [Loop_norm hst]
        have := ih2 (pre ++ [k]) (acc ++ ltrs k) (by simp [e]) (by rw [sizes_append, List.length_append]; simp only [sizes]; omega)
        simpa [ltrss] using this
    have := go ks [] [] rfl (by simp)
    refine (congrArg (fun o => Option.bind o _) this).trans ?_
    rfl
theorem containsB_spec {ks : List Ex} (hlen : ks.length ≤ maxLen) (ih : ∀ k ∈ ks, CC F_nfa_hasBoolean (exA k []) = some [.bool (boolB k)]) : CC F_slices_ContainsFunc___api_Expr_api_Expr_ [.list T_api_Expr (ks.map enc)] = some [.bool (boolBs ks)] := by
  have := maxLen_le
  refine f_slices_ContainsFunc___api_Expr_api_Expr__of ?_
  unfold f_slices_ContainsFunc___api_Expr_api_Expr_
  have hl := find_loop (step := s_slices_IndexFunc___api_Expr_api_Expr__1L CC (ks.map enc) ((ks.map enc).length : Int)) (ks := ks) (fun i => (i : Int)) boolB (fun i => .inl (i : Int)) (.inr (((ks.length : Nat) : Int), false))
    (fun pre k suf hks => by
      have hpl : pre.length < ks.length := by rw [hks]; simp
      have hm : k ∈ ks := by rw [hks]; simp
      simp only [s_slices_IndexFunc___api_Expr_api_Expr__1L, s_slices_IndexFunc___api_Expr_api_Expr__1, List.length_map, bif_decide]
      rw [if_pos (by omega), show idx (ks.map enc) (pre.length : Int) = some k.enc by rw [hks]; exact idx_kid _ _ _]
      simp only [Option.bind_some, enc_0, enc_1, enc_2]
      rw [ih k hm]
      simp only [Option.bind_some, V.nth_zero, V.toBool_bool]
      rw [wrap64 (by omega) (by omega)]
      cases boolB k <;> simp)
    (by
      simp only [s_slices_IndexFunc___api_Expr_api_Expr__1L, s_slices_IndexFunc___api_Expr_api_Expr__1, List.length_map, bif_decide]
      rw [if_neg (by omega)]
      simp) ks [] rfl
  simp only [List.length_nil, Int.ofNat_zero, Int.natCast_zero] at hl
  rcases hl with ⟨h1, i, h2⟩ | ⟨h1, h2⟩
  · have hi : CC F_slices_IndexFunc___api_Expr_api_Expr_ [.list T_api_Expr (ks.map enc)] = some [.int .i64 (i : Int)] := by
      refine f_slices_IndexFunc___api_Expr_api_Expr__of ?_
      unfold f_slices_IndexFunc___api_Expr_api_Expr_
      erw [h2]; rfl
    rw [hi, boolBs_any, h1]
    simp
  · have hi : CC F_slices_IndexFunc___api_Expr_api_Expr_ [.list T_api_Expr (ks.map enc)] = some [.int .i64 (-1)] := by
      refine f_slices_IndexFunc___api_Expr_api_Expr__of ?_
      unfold f_slices_IndexFunc___api_Expr_api_Expr_
      erw [h2]; rfl
    rw [hi, boolBs_any, h1]
    simp
theorem hasBoolean_spec : ∀ e : Ex, e.Ok → CC F_nfa_hasBoolean (exA e []) = some [.bool (boolB e)] :=
  ind fun o l ks ih hok => by
    refine f_nfa_hasBoolean_of ?_
    unfold f_nfa_hasBoolean
    simp only [Ex.op, Ex.letter, Ex.kids, bif_beq, boolB]
    by_cases h6 : o = 6
    · rw [if_pos h6]; simp [h6]
    rw [if_neg h6]
    by_cases h8 : o = 8
    · rw [if_pos h8]; simp [h8]
    rw [if_neg h8, containsB_spec hok.len fun k hk => ih k hk (hok.kid k hk)]
    simp [h6, h8]
def plainCode (e : Ex) (letters : Int) : Int := if e.val letters ≠ 0 then e.val letters else if boolB e = true then 4 else 0
theorem plain_spec (e : Ex) (h : e.Ok) (letters : Int) : CC F_nfa_plain (exA e [.int .i64 letters]) = some [.int .i64 (plainCode e letters)] := by
  refine f_nfa_plain_of ?_
  unfold f_nfa_plain plainCode
  refine (congrArg (fun o => Option.bind o _) (exVal_spec e h letters)).trans ?_
  simp only [Option.bind_some, V.nth_zero, V.toInt_int, bif_bne]
  by_cases h1 : e.val letters = 0
  · rw [if_pos h1, if_neg (fun h => h h1)]
    refine (congrArg (fun o => Option.bind o _) (hasBoolean_spec e h)).trans ?_
    simp only [Option.bind_some, V.nth_zero, V.toBool_bool]
    cases boolB e <;> simp
  · rw [if_neg h1, if_pos h1]
def foV (N : Nat) (fo : Nat → Nat) : List V := (List.range (N + 1)).map fun i => V.int .u64 ((fo i : Nat) : Int)
def upd1 (fo : Nat → Nat) (i x : Nat) : Nat → Nat := fun j => if j = i then x else fo j
theorem foV_len {N : Nat} {fo : Nat → Nat} : (foV N fo).length = N + 1 := by simp [foV]
theorem foV_get {N i : Nat} {fo : Nat → Nat} (h : i ≤ N) : (foV N fo)[i]? = some (.int .u64 ((fo i : Nat) : Int)) := by simp [foV, show i < N + 1 by omega]
theorem foV_set {N i x : Nat} {fo : Nat → Nat} : (foV N fo).set i (.int .u64 ((x : Nat) : Int)) = foV N (upd1 fo i x) := by
  unfold foV upd1
  apply List.ext_getElem?
  intro j
  rw [List.getElem?_set]
  by_cases h : i = j
  · subst h
    by_cases hk : i < N + 1
    · simp [hk]
    · simp [hk]
  · have h' : ¬ j = i := fun e => h e.symm
    by_cases hi : j < N + 1
    · simp [h, h', hi]
    · simp [h, hi]
def joinL (l : List Nat) (y : Nat) (fo : Nat → Nat) : Nat → Nat := l.foldl (fun f i => upd1 f i (f i ||| y)) fo
theorem joinL_eq : ∀ (l : List Nat) (y : Nat) (fo : Nat → Nat) (i : Nat), joinL l y fo i = if i ∈ l then fo i ||| y else fo i
  | [], y, fo, i => by simp [joinL]
  | a :: l, y, fo, i => by
    have := joinL_eq l y (upd1 fo a (fo a ||| y)) i
    unfold joinL at this ⊢
    rw [List.foldl_cons, this]
    unfold upd1
    by_cases h : i = a
    · subst h
      simp [Nat.or_assoc]
    · simp [h]
theorem join_loop {N y : Nat} {p : Int} {l : List Nat} (hl : ∀ i ∈ l, i ≤ N) (hy : y < 2 ^ 64) (hn : l.length ≤ 64) : ∀ (suf pre : List Nat) (fo : Nat → Nat), l = pre ++ suf → (∀ i, fo i < 2 ^ 64) →
    Loop (s_nfa_positions_join_1L CC (y : Int) ((encI l).length : Int) p (encI l)) (((pre.length : Nat) : Int), foV N fo) = some (((encI l).length : Int), false, foV N (joinL suf y fo)) := by
  intro suf
  have hel : (encI l).length = l.length := by simp [encI]
  induction suf with
  | nil =>
    intro pre fo e _
    rw [List.append_nil] at e
    subst e
    refine Loop_end ?_
    simp only [s_nfa_positions_join_1L, s_nfa_positions_join_1, un, hel]
    rw [bif_decide, if_neg (by omega), decide_eq_false (by omega)]
    rfl
  | cons a suf ih =>
    intro pre fo e hf
    have hlt : pre.length < l.length := by rw [e]; simp
    have ha : a ≤ N := hl a (by rw [e]; simp)
    have hg : (encI l)[pre.length]? = some (.int .i64 (a : Int)) := by rw [e]; simp [encI]
    have hst : s_nfa_positions_join_1L CC (y : Int) ((encI l).length : Int) p (encI l) (((pre.length : Nat) : Int), foV N fo) = some (.inl (((pre.length + 1 : Nat) : Int), foV N (upd1 fo a (fo a ||| y)))) := by
      simp only [s_nfa_positions_join_1L, s_nfa_positions_join_1, un, hel]
      have t1 : ((pre.length : Nat) : Int) < (l.length : Int) := by omega
      have t2 : (0 : Int) ≤ ((pre.length : Nat) : Int) := by omega
      have t3 : (0 : Int) ≤ (a : Int) := by omega
      have t4 : (a : Int) < ((N + 1 : Nat) : Int) := by omega
      simp only [bif_and, bif_decide, Int.toNat_natCast, hg, Option.bind_some, V.toInt_int, foV_len, foV_get ha, t1, t2, t3, t4, if_true]
      rw [u64_or (hf a) hy, foV_set, wrap64 (by omega) (by omega)]
      rfl
    rw [Loop_norm hst]
    have := ih (pre ++ [a]) (upd1 fo a (fo a ||| y)) (by simp [e]) (fun i => by
      unfold upd1; split
      · exact Nat.or_lt_two_pow (hf a) hy
      · exact hf i)
    simpa [joinL] using this
theorem join_spec {N x y : Nat} {p : Int} {fo : Nat → Nat} (hN : N < 64) (hx : Btw 0 N x) (hy : Btw 0 N y) (hf : FoOk N fo) :
    CC F_nfa_positions_join [.int .u64 (x : Int), .int .u64 (y : Int), .int .i64 p, .list T_uint64 (foV N fo)] = some [.int .i64 p, .list T_uint64 (foV N (joinG x y fo))] := by
  refine f_nfa_positions_join_of ?_
  unfold f_nfa_positions_join
  have hx64 := hx.lt hN
  rw [Members_spec hx64]
  simp only [Option.bind_some, V.nth_zero, V.toList_list]
  have := join_loop (N := N) (y := y) (p := p) (l := mem x) (fun i hi => (hx i ((mem_iff hx64).1 hi)).2) (hy.lt hN) (mem_length x) (mem x) [] fo rfl (fun i => (hf.b i).lt hN)
  refine (congrArg (fun o => Option.bind o _) this).trans ?_
  have e : joinL (mem x) y fo = joinG x y fo := by
    funext i
    rw [joinL_eq]
    unfold joinG
    simp only [mem_iff hx64]
  rw [e]
  rfl
def gV (N : Nat) (g : Gl) : List V := [.int .u64 (g.a : Int), .int .u64 (g.z : Int), .bool g.n, .int .i64 (g.ps : Int), .list T_uint64 (foV N g.fo)]
def VisitOk (N : Nat) (k : Ex) : Prop := ∀ ps fo, FoOk ps fo → ps + (ltrs k).length ≤ N → CC F_nfa_positions_visit (exA k [.int .i64 (ps : Int), .list T_uint64 (foV N fo)]) = some (gV N (glu k ps fo))
section
variable {N : Nat} {ks : List Ex} {letters : Int}
theorem alt_loop (hN : N < 64) (hlen : ks.length ≤ maxLen) (ih : ∀ k ∈ ks, VisitOk N k) (hp : ∀ k ∈ ks, Pl letters k) :
    ∀ (suf pre : List Ex) (g : Gl) {lo f0 : Nat}, ks = pre ++ suf → GSt lo f0 g → g.ps + (ltrss suf).length ≤ N →
    Loop (s_nfa_positions_visit_1L CC (ks.map enc) ((ks.map enc).length : Int) 0 0 false) (((pre.length : Nat) : Int), (g.ps : Int), (g.a : Int), (g.z : Int), g.n, foV N g.fo) =
      some (((ks.map enc).length : Int), false, ((gluAlt suf g).ps : Int), ((gluAlt suf g).a : Int), ((gluAlt suf g).z : Int), (gluAlt suf g).n, foV N (gluAlt suf g).fo) := by
  have hm := maxLen_le
  intro suf
  induction suf with
  | nil =>
    intro pre g lo f0 e hg _
    rw [List.append_nil] at e
    subst e
    refine Loop_end ?_
    simp only [s_nfa_positions_visit_1L, s_nfa_positions_visit_1, un, List.length_map, gluAlt]
    rw [bif_decide, if_neg (by omega), decide_eq_false (by omega)]
  | cons k suf ih2 =>
    intro pre g lo f0 e hg hps
    have hk1 : k ∈ ks := by rw [e]; simp
    have hlt : pre.length < ks.length := by rw [e]; simp
    have hi : idx (ks.map enc) ((pre.length : Nat) : Int) = some k.enc := by rw [e]; exact idx_kid pre suf k
    simp only [ltrss, List.length_append] at hps
    obtain ⟨g1, g2⟩ := glu_ok k (hp k hk1) g.ps g.fo hg.fo
    have c := ih k hk1 g.ps g.fo hg.fo (by omega)
    generalize hk : glu k g.ps g.fo = q at c g1 g2
    have hst : s_nfa_positions_visit_1L CC (ks.map enc) ((ks.map enc).length : Int) 0 0 false (((pre.length : Nat) : Int), (g.ps : Int), (g.a : Int), (g.z : Int), g.n, foV N g.fo) =
        some (.inl (((pre.length + 1 : Nat) : Int), ((altG g q).ps : Int), ((altG g q).a : Int), ((altG g q).z : Int), (altG g q).n, foV N (altG g q).fo)) := by
      simp only [s_nfa_positions_visit_1L, s_nfa_positions_visit_1, un, List.length_map]
      rw [bif_decide, if_pos (by omega), hi]
      simp only [Option.bind_some, enc_0, enc_1, enc_2]
      refine (congrArg (fun o => Option.bind o _) c).trans ?_
      unfold gV
      simp only [Option.bind_some, List.drop_succ_cons, List.drop_zero, V.nth_zero, V.toInt_int, V.toBool_bool, V.toList_list]
      rw [u64_or ((hg.a.mono (Nat.le_refl _) (show g.ps ≤ N by omega)).lt hN) ((g1.a.mono (Nat.le_refl _) (show q.ps ≤ N by omega)).lt hN), u64_or ((hg.z.mono (Nat.le_refl _) (show g.ps ≤ N by omega)).lt hN) ((g1.z.mono (Nat.le_refl _) (show q.ps ≤ N by omega)).lt hN), wrap64 (by omega) (by omega)]
      cases h : g.n <;> simp [altG, h]
    rw [Loop_norm hst]
    have := ih2 (pre ++ [k]) (altG g q) (lo := lo) (f0 := f0) (by simp [e]) (hg.alt g1) (by show q.ps + _ ≤ N; omega)
    simp only [gluAlt, hk]
    simpa using this
theorem cat_loop (hN : N < 64) (hlen : ks.length ≤ maxLen) (ih : ∀ k ∈ ks, VisitOk N k) (hp : ∀ k ∈ ks, Pl letters k) :
    ∀ (suf pre : List Ex) (g : Gl) {lo f0 : Nat}, ks = pre ++ suf → GSt lo f0 g → g.ps + (ltrss suf).length ≤ N →
    Loop (s_nfa_positions_visit_4L CC (ks.map enc) ((ks.map enc).length : Int) 0 0 false) (((pre.length : Nat) : Int), (g.ps : Int), (g.a : Int), (g.z : Int), g.n, foV N g.fo) =
      some (((ks.map enc).length : Int), false, ((gluCat suf g).ps : Int), ((gluCat suf g).a : Int), ((gluCat suf g).z : Int), (gluCat suf g).n, foV N (gluCat suf g).fo) := by
  have hm := maxLen_le
  intro suf
  induction suf with
  | nil =>
    intro pre g lo f0 e hg _
    rw [List.append_nil] at e
    subst e
    refine Loop_end ?_
    simp only [s_nfa_positions_visit_4L, s_nfa_positions_visit_4, un, List.length_map, gluCat]
    rw [bif_decide, if_neg (by omega), decide_eq_false (by omega)]
  | cons k suf ih2 =>
    intro pre g lo f0 e hg hps
    have hk1 : k ∈ ks := by rw [e]; simp
    have hlt : pre.length < ks.length := by rw [e]; simp
    have hi : idx (ks.map enc) ((pre.length : Nat) : Int) = some k.enc := by rw [e]; exact idx_kid pre suf k
    simp only [ltrss, List.length_append] at hps
    obtain ⟨g1, g2⟩ := glu_ok k (hp k hk1) g.ps g.fo hg.fo
    have c := ih k hk1 g.ps g.fo hg.fo (by omega)
    generalize hk : glu k g.ps g.fo = q at c g1 g2
    have hqN : q.ps ≤ N := by omega
    have b1 := (hg.a.mono (Nat.zero_le _) (show g.ps ≤ N by omega))
    have b2 := (hg.z.mono (Nat.zero_le _) (show g.ps ≤ N by omega))
    have b3 := (g1.a.mono (Nat.zero_le _) hqN)
    have b4 := (g1.z.mono (Nat.zero_le _) hqN)
    have cj := join_spec (p := (q.ps : Int)) hN b2 b3 (g1.fo.mono hqN)
    have z0 : ((0 : Nat) : Int) = 0 := rfl
    have hst : s_nfa_positions_visit_4L CC (ks.map enc) ((ks.map enc).length : Int) 0 0 false (((pre.length : Nat) : Int), (g.ps : Int), (g.a : Int), (g.z : Int), g.n, foV N g.fo) =
        some (.inl (((pre.length + 1 : Nat) : Int), ((catG g q).ps : Int), ((catG g q).a : Int), ((catG g q).z : Int), (catG g q).n, foV N (catG g q).fo)) := by
      simp only [s_nfa_positions_visit_4L, s_nfa_positions_visit_4, s_nfa_positions_visit_2, s_nfa_positions_visit_3, un, List.length_map]
      rw [bif_decide, if_pos (by omega), hi]
      simp only [Option.bind_some, enc_0, enc_1, enc_2]
      refine (congrArg (fun o => Option.bind o _) c).trans ?_
      unfold gV
      simp only [Option.bind_some, List.drop_succ_cons, List.drop_zero, V.nth_zero, V.toInt_int, V.toBool_bool, V.toList_list]
      refine (congrArg (fun o => Option.bind o _) cj).trans ?_
      simp only [Option.bind_some, List.drop_succ_cons, List.drop_zero, V.nth_zero, V.toInt_int, V.toBool_bool, V.toList_list]
      have w0 := u64_or (A := 0) (B := q.z) (by omega) (b4.lt hN)
      rw [z0] at w0
      rw [u64_or (b1.lt hN) (b3.lt hN), u64_or (b2.lt hN) (b4.lt hN), w0, wrap64 (by omega) (by omega)]
      cases h : g.n <;> cases h2 : q.n <;> simp [catG, h, h2]
    rw [Loop_norm hst]
    have := ih2 (pre ++ [k]) (catG g q) (lo := lo) (f0 := f0) (by simp [e]) (hg.cat g1) (by show q.ps + _ ≤ N; omega)
    simp only [gluCat, hk]
    simpa using this
end
theorem visit_spec {N : Nat} {letters : Int} (hN : N < 64) : ∀ e : Ex, e.Ok → Pl letters e → VisitOk N e :=
  ind fun o l ks ih hok hp ps fo hfo hps => by
    have ih' : ∀ k ∈ ks, VisitOk N k := fun k hk => ih k hk (hok.kid k hk) (hp.kid k hk)
    have z0 : ∀ b, GSt ps (fo 0) ⟨0, 0, b, ps, fo⟩ := fun b => ⟨Nat.le_refl _, .zero, .zero, hfo, rfl⟩
    show CC F_nfa_positions_visit [.int .i64 o, .int .i64 l, .list T_api_Expr (ks.map enc), .int .i64 (ps : Int), .list T_uint64 (foV N fo)] = _
    refine f_nfa_positions_visit_of ?_
    unfold f_nfa_positions_visit
    simp only [bif_beq]
    rcases hp.shape with ⟨h, rfl⟩ | ⟨rfl, rfl, _⟩ | ⟨rfl, k, rfl⟩ | h
    · rcases h with rfl | rfl
      · simp [glu, gV]
      · simp [glu, gV]
    · have hps : ps + 1 ≤ N := by simpa [ltrs] using hps
      rw [if_neg (by omega), if_pos rfl, wrap64 (by omega) (by omega)]
      have e1 : ((ps : Int) + 1).toNat = ps + 1 := by omega
      rw [bif_decide, if_pos (by omega), bif_decide, if_pos (by omega), e1, u64_bit (by omega)]
      simp [gV, glu]
    · obtain ⟨g1, g2⟩ := glu_ok k (hp.kid k (by simp)) ps fo hfo
      simp only [ltrs, ltrss, List.append_nil] at hps
      have hps : ps + (ltrs k).length ≤ N := by simpa using hps
      have c := ih' k (by simp) ps fo hfo hps
      rw [if_neg (by omega), if_neg (by omega), if_neg (by omega), if_neg (by omega), if_pos rfl]
      simp only [List.map_cons, List.map_nil, List.getElem?_cons_zero, Option.bind_some, enc_0, enc_1, enc_2]
      refine (congrArg (fun o => Option.bind o _) c).trans ?_
      simp only [glu, gluStar]
      generalize glu k ps fo = q at c g1 g2 ⊢
      have hqN : q.ps ≤ N := by omega
      have cj := join_spec (p := (q.ps : Int)) hN (g1.z.mono (Nat.zero_le _) hqN) (g1.a.mono (Nat.zero_le _) hqN) (g1.fo.mono hqN)
      unfold gV
      simp only [Option.bind_some, List.drop_succ_cons, List.drop_zero, V.nth_zero, V.toInt_int, V.toBool_bool, V.toList_list]
      refine (congrArg (fun o => Option.bind o _) cj).trans ?_
      simp
    · rcases h with rfl | rfl
      · simp only [ltrs] at hps
        have hps : ps + (ltrss ks).length ≤ N := by simpa using hps
        have := alt_loop hN hok.len ih' hp.kid ks [] _ rfl (z0 false) hps
        simp only [glu]
        rw [if_neg (by omega), if_neg (by omega), if_pos trivial]
        refine (congrArg (fun o => Option.bind o _) this).trans ?_
        rfl
      · simp only [ltrs] at hps
        have hps : ps + (ltrss ks).length ≤ N := by simpa using hps
        have := cat_loop hN hok.len ih' hp.kid ks [] _ rfl (z0 true) hps
        simp only [glu]
        rw [if_neg (by omega), if_neg (by omega), if_neg (by omega), if_pos trivial]
        refine (congrArg (fun o => Option.bind o _) this).trans ?_
        rfl
end Go.AM
set_option maxRecDepth 100000
set_option linter.unusedSimpArgs false
namespace Go.AM
open Go.Proofs Go.Sort
section
variable {α : Type} {enc : α → V}
def encA (enc : α → V) (d : Array α) : List V := d.toList.map enc
theorem encA_length (d : Array α) : (encA enc d).length = d.size := by simp [encA]
theorem encA_set (d : Array α) (i : Nat) (x : α) : (encA enc d).set i (enc x) = encA enc (d.setIfInBounds i x) := by
  unfold encA; rw [Array.toList_setIfInBounds, List.map_set]
variable [Inhabited α]
theorem encA_get {d : Array α} {i : Nat} (h : i < d.size) : (encA enc d)[i]? = some (enc d[i]!) := by
  unfold encA; rw [List.getElem?_map, Array.getElem?_toList, Array.getElem?_eq_getElem h, getElem!_pos d i h]; rfl
theorem encA_get2 {d : Array α} {i j : Nat} {x : α} (h : i < d.size) : (encA enc (d.setIfInBounds j x))[i]? = some (enc (d.setIfInBounds j x)[i]!) := encA_get (by rw [Array.size_setIfInBounds]; exact h)
theorem addC (a b : Nat) : (a : Int) + (b : Int) = ((a + b : Nat) : Int) := (Int.natCast_add a b).symm
theorem succC (a : Nat) : (a : Int) + 1 = ((a + 1 : Nat) : Int) := rfl
theorem predC (a : Nat) : ((a + 1 : Nat) : Int) - 1 = (a : Int) := by omega
theorem mul2C (a : Nat) : (a : Int) * 2 = ((a * 2 : Nat) : Int) := by omega
theorem subC {a b : Nat} (h : b ≤ a) : (a : Int) - (b : Int) = ((a - b : Nat) : Int) := by omega
theorem sub1C {a : Nat} (h : 1 ≤ a) : (a : Int) - 1 = ((a - 1 : Nat) : Int) := by omega
theorem divC (a b : Nat) : Int.tdiv (a : Int) (b : Int) = ((a / b : Nat) : Int) := by rw [Int.tdiv_eq_ediv_of_nonneg (by omega)]; rfl
theorem dec_true {p : Prop} [Decidable p] (h : p) : decide p = true := decide_eq_true h
theorem dec_false {p : Prop} [Decidable p] (h : ¬ p) : decide p = false := decide_eq_false h
variable {lt : α → α → Bool}
theorem insInner_succ (a j : Nat) (d : Array α) : insInner lt a (j + 1) d = if j + 1 > a && lt d[j + 1]! d[j]! then insInner lt a j (swp d (j + 1) j) else d := rfl
theorem insInner_size {a : Nat} : ∀ (j : Nat) (d : Array α), (insInner lt a j d).size = d.size
  | 0, d => rfl
  | j + 1, d => by
    rw [insInner_succ]
    split
    · rw [insInner_size j, size_swp]
    · rfl
theorem siftDown_size (hi first : Nat) : ∀ (n root : Nat) (d : Array α), hi - root ≤ n → (siftDown lt hi first root d).size = d.size := by
  intro n
  induction n with
  | zero => intro root d h; rw [siftDown, dif_pos (by omega)]
  | succ n ih =>
    intro root d h
    rw [siftDown]
    split
    · rfl
    · split
      · split
        · rfl
        · split
          · rw [ih _ _ (by omega), size_swp]
          · rfl
      · split
        · rfl
        · rw [ih _ _ (by omega), size_swp]
theorem heapBuild_size (hi first : Nat) : ∀ (k : Nat) (d : Array α), (heapBuild lt hi first k d).size = d.size
  | 0, d => rfl
  | k + 1, d => by rw [heapBuild, heapBuild_size, siftDown_size _ _ _ _ _ (Nat.le_refl _)]
end
end Go.AM
set_option maxRecDepth 100000
namespace Go.AM
open Go.Proofs
noncomputable abbrev B_slices_insertionSortCmpFunc_api_Edge_ : Code := bodyOf Tryd.prog (ann.fid 74)
noncomputable def s_slices_insertionSortCmpFunc_api_Edge__1 (C : CallF) (a b' i j : Int) (datas : List V) {β : Type} (kn : (Int × (List V)) → Option β) (kr : (Int × Bool × (List V)) → Option β) : Option β :=
  bif decide ((j : Int) > a) then
   bif (decide (0 ≤ j)) && (decide (j < (datas.length : Int))) then
    (datas[(j : Int).toNat]?).bind fun x1 =>
    bif (decide (0 ≤ (IntKind.wrap .i64 (j - 1)))) && (decide ((IntKind.wrap .i64 (j - 1)) < (datas.length : Int))) then
     (datas[(IntKind.wrap .i64 (j - 1) : Int).toNat]?).bind fun x2 =>
     (C F_nfa_compareEdges [.int .i64 ((x1.cell 0).toInt), .int .i64 ((x1.cell 1).toInt), .int .i64 ((x1.cell 2).toInt), .int .i64 ((x2.cell 0).toInt), .int .i64 ((x2.cell 1).toInt), .int .i64 ((x2.cell 2).toInt)]).bind fun r3 =>
     bif decide ((((V.nth r3 0).toInt) : Int) < 0) then
      bif (decide (0 ≤ (IntKind.wrap .i64 (j - 1)))) && (decide ((IntKind.wrap .i64 (j - 1)) < (datas.length : Int))) then
       (datas[(IntKind.wrap .i64 (j - 1) : Int).toNat]?).bind fun x4 =>
       bif (decide (0 ≤ j)) && (decide (j < (datas.length : Int))) then
        (datas[(j : Int).toNat]?).bind fun x5 =>
        bif (decide (0 ≤ j)) && (decide (j < (datas.length : Int))) then
         (datas[(j : Int).toNat]?).bind fun x6 =>
         bif (decide (0 ≤ (IntKind.wrap .i64 (j - 1)))) && (decide ((IntKind.wrap .i64 (j - 1)) < ((datas.set ((j : Int).toNat) (.agg [.int .i64 ((x4.cell 0).toInt), .int .i64 ((x4.cell 1).toInt), .int .i64 ((x4.cell 2).toInt)])).length : Int))) then
          ((datas.set ((j : Int).toNat) (.agg [.int .i64 ((x4.cell 0).toInt), .int .i64 ((x4.cell 1).toInt), .int .i64 ((x4.cell 2).toInt)]))[(IntKind.wrap .i64 (j - 1) : Int).toNat]?).bind fun x7 =>
          kn (IntKind.wrap .i64 (j - 1), (datas.set ((j : Int).toNat) (.agg [.int .i64 ((x4.cell 0).toInt), .int .i64 ((x4.cell 1).toInt), .int .i64 ((x4.cell 2).toInt)])).set ((IntKind.wrap .i64 (j - 1) : Int).toNat) (.agg [.int .i64 ((x5.cell 0).toInt), .int .i64 ((x5.cell 1).toInt), .int .i64 ((x5.cell 2).toInt)]))
         else none
        else none
       else none
      else none
     else
      kr (j, decide ((((V.nth r3 0).toInt) : Int) < 0), datas)
    else none
   else none
  else
   kr (j, false, datas)
noncomputable def s_slices_insertionSortCmpFunc_api_Edge__1L (C : CallF) (a b' i : Int) : (Int × (List V)) → Option ((Int × (List V)) ⊕ (Int × Bool × (List V))) := un fun j datas => s_slices_insertionSortCmpFunc_api_Edge__1 C a b' i j datas (fun y => some (.inl y)) (fun r => some (.inr r))
noncomputable def s_slices_insertionSortCmpFunc_api_Edge__2 (C : CallF) (a b' i : Int) (datas : List V) {β : Type} (kn : (Int × (List V)) → Option β) (kr : (Int × Bool × (List V)) → Option β) : Option β :=
  bif decide ((i : Int) < b') then
   (Loop (s_slices_insertionSortCmpFunc_api_Edge__1L C a b' i) (i, datas)).bind (un fun (j_8 : Int) => un fun (t_9 : Bool) (datas_10 : List V) =>
     kn (IntKind.wrap .i64 (i + 1), datas_10))
  else
   kr (i, decide ((i : Int) < b'), datas)
noncomputable def s_slices_insertionSortCmpFunc_api_Edge__2L (C : CallF) (a b' : Int) : (Int × (List V)) → Option ((Int × (List V)) ⊕ (Int × Bool × (List V))) := un fun i datas => s_slices_insertionSortCmpFunc_api_Edge__2 C a b' i datas (fun y => some (.inl y)) (fun r => some (.inr r))
noncomputable def LT_slices_insertionSortCmpFunc_api_Edge_ (C : CallF) : LTab := fun β n ds k =>
  bif Nat.beq n 65 then loopS S74_65 [false, false, false, true, true] [[1, 2, 3, 0, 0, 0]] (@s_slices_insertionSortCmpFunc_api_Edge__1 C) ds k else
  bif Nat.beq n 17 then loopS S74_17 [false, false, true, true] [[1, 2, 0, 0, 0]] (@s_slices_insertionSortCmpFunc_api_Edge__2 C) ds k else
  none
abbrev TS_slices_insertionSortCmpFunc_api_Edge_ (C : CallF) (b : Bar) : Prop := Tells Tryd.prog ann C (LT_slices_insertionSortCmpFunc_api_Edge_ C) 74 (ntmpsOf Tryd.prog (ann.fid 74)) (ann.sin 74).blks.length b
theorem t_slices_insertionSortCmpFunc_api_Edge__1 (C : CallF) : TS_slices_insertionSortCmpFunc_api_Edge_ C (.loop (codeAt [1, 0, 0, 1, 0, 0, 1, 0, 0] B_slices_insertionSortCmpFunc_api_Edge_)) :=
  tl3 S74_65 [false, false, false, true, true] [[1, 2, 3, 0, 0, 0]] (@s_slices_insertionSortCmpFunc_api_Edge__1 C) (by kernel_rfl) (ltok_of (bs := []) (by kernel_rfl) tells_nil) (fun ds => by kernel_rfl) (fun i x => by kernel_rfl) (fun i x β k => by kernel_rfl) (fun β ds k => by kernel_rfl)
theorem t_slices_insertionSortCmpFunc_api_Edge__2 (C : CallF) : TS_slices_insertionSortCmpFunc_api_Edge_ C (.loop (codeAt [1, 0, 0] B_slices_insertionSortCmpFunc_api_Edge_)) :=
  tl3 S74_17 [false, false, true, true] [[1, 2, 0, 0, 0]] (@s_slices_insertionSortCmpFunc_api_Edge__2 C) (by kernel_rfl) (ltok_of (bs := [.loop (codeAt [1, 0, 0, 1, 0, 0, 1, 0, 0] B_slices_insertionSortCmpFunc_api_Edge_)]) (by kernel_rfl) (tells_cons (t_slices_insertionSortCmpFunc_api_Edge__1 C) tells_nil)) (fun ds => by kernel_rfl) (fun i x => by kernel_rfl) (fun i x β k => by kernel_rfl) (fun β ds k => by kernel_rfl)
noncomputable def f_slices_insertionSortCmpFunc_api_Edge_ (C : CallF) (a b' : Int) (datas : List V) : Option (List V) :=
  (Loop (s_slices_insertionSortCmpFunc_api_Edge__2L C a b') (IntKind.wrap .i64 (a + 1), datas)).bind (un fun (i_11 : Int) => un fun (t_12 : Bool) (datas_13 : List V) =>
    some [.list T_api_Edge datas_13])
theorem f_slices_insertionSortCmpFunc_api_Edge__of {a b' : Int} {datas : List V} {r : Option (List V)} (h : f_slices_insertionSortCmpFunc_api_Edge_ CC a b' datas = r) : CC F_slices_insertionSortCmpFunc_api_Edge_ [.int .i64 a, .int .i64 b', .list T_api_Edge datas] = r :=
  func_of (key := 74) (L := LT_slices_insertionSortCmpFunc_api_Edge_ CC) (bs := [.loop (codeAt [1, 0, 0] B_slices_insertionSortCmpFunc_api_Edge_)]) (by kernel_rfl) (tells_cons (t_slices_insertionSortCmpFunc_api_Edge__2 CC) tells_nil) (Eq.trans (by kernel_rfl) h)
end Go.AM
set_option maxRecDepth 100000
namespace Go.AM
open Go.Proofs
noncomputable abbrev B_slices_siftDownCmpFunc_api_Edge_ : Code := bodyOf Tryd.prog (ann.fid 88)
noncomputable def s_slices_siftDownCmpFunc_api_Edge__1 (C : CallF) (hi first root child : Int) (t40 : Bool) (datas : List V) {β : Type} (kr : (Int) → Option β) : Option β :=
  bif t40 then
   kr (IntKind.wrap .i64 (child + 1))
  else
   kr child
noncomputable def s_slices_siftDownCmpFunc_api_Edge__2 (C : CallF) (hi first root : Int) (datas : List V) {β : Type} (kn : (Int × (List V)) → Option β) (kr : ((Int × Int × Bool × (List V)) ⊕ (Int × Int × Bool × (List V))) → Option β) : Option β :=
  bif decide (((IntKind.wrap .i64 ((IntKind.wrap .i64 (root * 2)) + 1)) : Int) ≥ hi) then
   kr (.inl (root, IntKind.wrap .i64 ((IntKind.wrap .i64 (root * 2)) + 1), decide (((IntKind.wrap .i64 ((IntKind.wrap .i64 (root * 2)) + 1)) : Int) ≥ hi), datas))
  else
   bif decide (((IntKind.wrap .i64 ((IntKind.wrap .i64 ((IntKind.wrap .i64 (root * 2)) + 1)) + 1)) : Int) < hi) then
    bif (decide (0 ≤ (IntKind.wrap .i64 (first + (IntKind.wrap .i64 ((IntKind.wrap .i64 (root * 2)) + 1)))))) && (decide ((IntKind.wrap .i64 (first + (IntKind.wrap .i64 ((IntKind.wrap .i64 (root * 2)) + 1)))) < (datas.length : Int))) then
     (datas[(IntKind.wrap .i64 (first + (IntKind.wrap .i64 ((IntKind.wrap .i64 (root * 2)) + 1))) : Int).toNat]?).bind fun x1 =>
     bif (decide (0 ≤ (IntKind.wrap .i64 ((IntKind.wrap .i64 (first + (IntKind.wrap .i64 ((IntKind.wrap .i64 (root * 2)) + 1)))) + 1)))) && (decide ((IntKind.wrap .i64 ((IntKind.wrap .i64 (first + (IntKind.wrap .i64 ((IntKind.wrap .i64 (root * 2)) + 1)))) + 1)) < (datas.length : Int))) then
      (datas[(IntKind.wrap .i64 ((IntKind.wrap .i64 (first + (IntKind.wrap .i64 ((IntKind.wrap .i64 (root * 2)) + 1)))) + 1) : Int).toNat]?).bind fun x2 =>
      (C F_nfa_compareEdges [.int .i64 ((x1.cell 0).toInt), .int .i64 ((x1.cell 1).toInt), .int .i64 ((x1.cell 2).toInt), .int .i64 ((x2.cell 0).toInt), .int .i64 ((x2.cell 1).toInt), .int .i64 ((x2.cell 2).toInt)]).bind fun r3 =>
      s_slices_siftDownCmpFunc_api_Edge__1 C hi first root (IntKind.wrap .i64 ((IntKind.wrap .i64 (root * 2)) + 1)) (decide ((((V.nth r3 0).toInt) : Int) < 0)) datas (fun (child_4 : Int) =>
        bif (decide (0 ≤ (IntKind.wrap .i64 (first + root)))) && (decide ((IntKind.wrap .i64 (first + root)) < (datas.length : Int))) then
         (datas[(IntKind.wrap .i64 (first + root) : Int).toNat]?).bind fun x5 =>
         bif (decide (0 ≤ (IntKind.wrap .i64 (first + child_4)))) && (decide ((IntKind.wrap .i64 (first + child_4)) < (datas.length : Int))) then
          (datas[(IntKind.wrap .i64 (first + child_4) : Int).toNat]?).bind fun x6 =>
          (C F_nfa_compareEdges [.int .i64 ((x5.cell 0).toInt), .int .i64 ((x5.cell 1).toInt), .int .i64 ((x5.cell 2).toInt), .int .i64 ((x6.cell 0).toInt), .int .i64 ((x6.cell 1).toInt), .int .i64 ((x6.cell 2).toInt)]).bind fun r7 =>
          bif !(decide ((((V.nth r7 0).toInt) : Int) < 0)) then
           kr (.inr (root, child_4, !(decide ((((V.nth r7 0).toInt) : Int) < 0)), datas))
          else
           bif (decide (0 ≤ (IntKind.wrap .i64 (first + child_4)))) && (decide ((IntKind.wrap .i64 (first + child_4)) < (datas.length : Int))) then
            (datas[(IntKind.wrap .i64 (first + child_4) : Int).toNat]?).bind fun x8 =>
            bif (decide (0 ≤ (IntKind.wrap .i64 (first + root)))) && (decide ((IntKind.wrap .i64 (first + root)) < (datas.length : Int))) then
             (datas[(IntKind.wrap .i64 (first + root) : Int).toNat]?).bind fun x9 =>
             bif (decide (0 ≤ (IntKind.wrap .i64 (first + root)))) && (decide ((IntKind.wrap .i64 (first + root)) < (datas.length : Int))) then
              (datas[(IntKind.wrap .i64 (first + root) : Int).toNat]?).bind fun x10 =>
              bif (decide (0 ≤ (IntKind.wrap .i64 (first + child_4)))) && (decide ((IntKind.wrap .i64 (first + child_4)) < ((datas.set ((IntKind.wrap .i64 (first + root) : Int).toNat) (.agg [.int .i64 ((x8.cell 0).toInt), .int .i64 ((x8.cell 1).toInt), .int .i64 ((x8.cell 2).toInt)])).length : Int))) then
               ((datas.set ((IntKind.wrap .i64 (first + root) : Int).toNat) (.agg [.int .i64 ((x8.cell 0).toInt), .int .i64 ((x8.cell 1).toInt), .int .i64 ((x8.cell 2).toInt)]))[(IntKind.wrap .i64 (first + child_4) : Int).toNat]?).bind fun x11 =>
               kn (child_4, (datas.set ((IntKind.wrap .i64 (first + root) : Int).toNat) (.agg [.int .i64 ((x8.cell 0).toInt), .int .i64 ((x8.cell 1).toInt), .int .i64 ((x8.cell 2).toInt)])).set ((IntKind.wrap .i64 (first + child_4) : Int).toNat) (.agg [.int .i64 ((x9.cell 0).toInt), .int .i64 ((x9.cell 1).toInt), .int .i64 ((x9.cell 2).toInt)]))
              else none
             else none
            else none
           else none
         else none
        else none)
     else none
    else none
   else
    s_slices_siftDownCmpFunc_api_Edge__1 C hi first root (IntKind.wrap .i64 ((IntKind.wrap .i64 (root * 2)) + 1)) false datas (fun (child_12 : Int) =>
      bif (decide (0 ≤ (IntKind.wrap .i64 (first + root)))) && (decide ((IntKind.wrap .i64 (first + root)) < (datas.length : Int))) then
       (datas[(IntKind.wrap .i64 (first + root) : Int).toNat]?).bind fun x13 =>
       bif (decide (0 ≤ (IntKind.wrap .i64 (first + child_12)))) && (decide ((IntKind.wrap .i64 (first + child_12)) < (datas.length : Int))) then
        (datas[(IntKind.wrap .i64 (first + child_12) : Int).toNat]?).bind fun x14 =>
        (C F_nfa_compareEdges [.int .i64 ((x13.cell 0).toInt), .int .i64 ((x13.cell 1).toInt), .int .i64 ((x13.cell 2).toInt), .int .i64 ((x14.cell 0).toInt), .int .i64 ((x14.cell 1).toInt), .int .i64 ((x14.cell 2).toInt)]).bind fun r15 =>
        bif !(decide ((((V.nth r15 0).toInt) : Int) < 0)) then
         kr (.inr (root, child_12, !(decide ((((V.nth r15 0).toInt) : Int) < 0)), datas))
        else
         bif (decide (0 ≤ (IntKind.wrap .i64 (first + child_12)))) && (decide ((IntKind.wrap .i64 (first + child_12)) < (datas.length : Int))) then
          (datas[(IntKind.wrap .i64 (first + child_12) : Int).toNat]?).bind fun x16 =>
          bif (decide (0 ≤ (IntKind.wrap .i64 (first + root)))) && (decide ((IntKind.wrap .i64 (first + root)) < (datas.length : Int))) then
           (datas[(IntKind.wrap .i64 (first + root) : Int).toNat]?).bind fun x17 =>
           bif (decide (0 ≤ (IntKind.wrap .i64 (first + root)))) && (decide ((IntKind.wrap .i64 (first + root)) < (datas.length : Int))) then
            (datas[(IntKind.wrap .i64 (first + root) : Int).toNat]?).bind fun x18 =>
            bif (decide (0 ≤ (IntKind.wrap .i64 (first + child_12)))) && (decide ((IntKind.wrap .i64 (first + child_12)) < ((datas.set ((IntKind.wrap .i64 (first + root) : Int).toNat) (.agg [.int .i64 ((x16.cell 0).toInt), .int .i64 ((x16.cell 1).toInt), .int .i64 ((x16.cell 2).toInt)])).length : Int))) then
             ((datas.set ((IntKind.wrap .i64 (first + root) : Int).toNat) (.agg [.int .i64 ((x16.cell 0).toInt), .int .i64 ((x16.cell 1).toInt), .int .i64 ((x16.cell 2).toInt)]))[(IntKind.wrap .i64 (first + child_12) : Int).toNat]?).bind fun x19 =>
             kn (child_12, (datas.set ((IntKind.wrap .i64 (first + root) : Int).toNat) (.agg [.int .i64 ((x16.cell 0).toInt), .int .i64 ((x16.cell 1).toInt), .int .i64 ((x16.cell 2).toInt)])).set ((IntKind.wrap .i64 (first + child_12) : Int).toNat) (.agg [.int .i64 ((x17.cell 0).toInt), .int .i64 ((x17.cell 1).toInt), .int .i64 ((x17.cell 2).toInt)]))
            else none
           else none
          else none
         else none
       else none
      else none)
noncomputable def s_slices_siftDownCmpFunc_api_Edge__2L (C : CallF) (hi first : Int) : (Int × (List V)) → Option ((Int × (List V)) ⊕ ((Int × Int × Bool × (List V)) ⊕ (Int × Int × Bool × (List V)))) := un fun root datas => s_slices_siftDownCmpFunc_api_Edge__2 C hi first root datas (fun y => some (.inl y)) (fun r => some (.inr r))
noncomputable def LT_slices_siftDownCmpFunc_api_Edge_ (C : CallF) : LTab := fun β n ds k =>
  bif Nat.beq n 655 then condS S88_655 [[1, 2, 3, 0, 6]] (@s_slices_siftDownCmpFunc_api_Edge__1 C) ds k else
  bif Nat.beq n 17 then loopS S88_17 [false, false, true, true] [[1, 2, 0, 0, 0, 0], [1, 2, 0, 0, 0, 0]] (@s_slices_siftDownCmpFunc_api_Edge__2 C) ds k else
  none
abbrev TS_slices_siftDownCmpFunc_api_Edge_ (C : CallF) (b : Bar) : Prop := Tells Tryd.prog ann C (LT_slices_siftDownCmpFunc_api_Edge_ C) 88 (ntmpsOf Tryd.prog (ann.fid 88)) (ann.sin 88).blks.length b
theorem t_slices_siftDownCmpFunc_api_Edge__1 (C : CallF) : TS_slices_siftDownCmpFunc_api_Edge_ C (.cond 40 (codeAt [1, 0, 0, 0, 1, 1, 0, 1, 0] B_slices_siftDownCmpFunc_api_Edge_) (codeAt [1, 0, 0, 0, 1, 1, 0, 1, 1] B_slices_siftDownCmpFunc_api_Edge_)) :=
  tc3 S88_655 [[1, 2, 3, 0, 6]] (@s_slices_siftDownCmpFunc_api_Edge__1 C) (by kernel_rfl) (ltok_of (bs := []) (by kernel_rfl) tells_nil) (ltok_of (bs := []) (by kernel_rfl) tells_nil) (fun ds => by kernel_rfl) (fun i β k => by kernel_rfl) (fun β ds k => by kernel_rfl)
theorem t_slices_siftDownCmpFunc_api_Edge__2 (C : CallF) : TS_slices_siftDownCmpFunc_api_Edge_ C (.loop (codeAt [1, 0, 0] B_slices_siftDownCmpFunc_api_Edge_)) :=
  tl3 S88_17 [false, false, true, true] [[1, 2, 0, 0, 0, 0], [1, 2, 0, 0, 0, 0]] (@s_slices_siftDownCmpFunc_api_Edge__2 C) (by kernel_rfl) (ltok_of (bs := [.cond 40 (codeAt [1, 0, 0, 0, 1, 1, 0, 1, 0] B_slices_siftDownCmpFunc_api_Edge_) (codeAt [1, 0, 0, 0, 1, 1, 0, 1, 1] B_slices_siftDownCmpFunc_api_Edge_)]) (by kernel_rfl) (tells_cons (t_slices_siftDownCmpFunc_api_Edge__1 C) tells_nil)) (fun ds => by kernel_rfl) (fun i x => by kernel_rfl) (fun i x β k => by kernel_rfl) (fun β ds k => by kernel_rfl)
noncomputable def f_slices_siftDownCmpFunc_api_Edge_ (C : CallF) (lo hi first : Int) (datas : List V) : Option (List V) :=
  (Loop (s_slices_siftDownCmpFunc_api_Edge__2L C hi first) (lo, datas)).bind (way2 (un fun (root_20 : Int) => un fun (child_21 : Int) => un fun (t_22 : Bool) (datas_23 : List V) =>
    some [.list T_api_Edge datas_23]) (un fun (root_24 : Int) => un fun (child_25 : Int) => un fun (t_26 : Bool) (datas_27 : List V) =>
    some [.list T_api_Edge datas_27]))
theorem f_slices_siftDownCmpFunc_api_Edge__of {lo hi first : Int} {datas : List V} {r : Option (List V)} (h : f_slices_siftDownCmpFunc_api_Edge_ CC lo hi first datas = r) : CC F_slices_siftDownCmpFunc_api_Edge_ [.int .i64 lo, .int .i64 hi, .int .i64 first, .list T_api_Edge datas] = r :=
  func_of (key := 88) (L := LT_slices_siftDownCmpFunc_api_Edge_ CC) (bs := [.loop (codeAt [1, 0, 0] B_slices_siftDownCmpFunc_api_Edge_)]) (by kernel_rfl) (tells_cons (t_slices_siftDownCmpFunc_api_Edge__2 CC) tells_nil) (Eq.trans (by kernel_rfl) h)
end Go.AM
