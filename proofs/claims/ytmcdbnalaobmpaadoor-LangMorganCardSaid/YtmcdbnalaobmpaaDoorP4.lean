/-
  Functions of the program, lifted to plain data.
-/
import Derived.Test.YtmcdbnalaobmpaaDoorProg
import Derived.Tactics
import Derived.Tactics2
import Derived.StillTactics
import Derived.Laws.Pointers
import Derived.Lib.LazyBuf
import Derived.RegionTactic
import Derived.LoopTactic
import Derived.WalkKit
import Derived.Test.YtmcdbnalaobmpaaDoorRows
import Derived.Lib.LaidTab
import Derived.LaidHandle
import Derived.MakeChecks
import Derived.Lay
import Derived.Test.YtmcdbnalaobmpaaDoorP3
set_option linter.unusedVariables false
set_option linter.unusedSimpArgs false
set_option maxRecDepth 100000
namespace Go.AM
open Go.Proofs
abbrev F_semigrouplaw10_LangMorgan:FuncId:=9
abbrev F_semigroupref07_Validate:FuncId:=16
abbrev F_semigrouplaw10_awake:FuncId:=19
abbrev F_semigroupref07_Pair:FuncId:=24
abbrev F_semigrouplaw10_both:FuncId:=26
abbrev F_lang_Combine:FuncId:=28
abbrev F_dfa_Complement:FuncId:=39
abbrev F_dfa_Validate:FuncId:=40
abbrev F_semigroupref07_Same:FuncId:=41
abbrev F_dfa_Accepts:FuncId:=44
abbrev F_lang_Superwords:FuncId:=51
abbrev F_minimize_Minimal:FuncId:=54
abbrev F_semigroupref01_MayLetters:FuncId:=55
abbrev F_lang_minimal:FuncId:=56
abbrev F_word_Valid:FuncId:=57
abbrev F_dfa_Run:FuncId:=58
abbrev F_semigrouplaw10_odd:FuncId:=59
abbrev F_lang_begin:FuncId:=61
abbrev F_lang_automaton_edge:FuncId:=62
abbrev F_lang_automaton_start:FuncId:=63
abbrev F_lang_automaton_finals:FuncId:=64
abbrev F_lang_automaton_language:FuncId:=65
abbrev F_lang_both:FuncId:=68
abbrev F_lang_automaton_final:FuncId:=69
abbrev F_dfa_Product:FuncId:=71
abbrev F_lang_automaton_copy:FuncId:=73
abbrev F_lang_language:FuncId:=79
abbrev F_relation_Members:FuncId:=83
abbrev F_semigroupref08_Classes:FuncId:=84
abbrev F_minimize_minimal:FuncId:=86
abbrev F_slices_SortFunc___api_Edge_api_Edge_:FuncId:=87
abbrev F_lang_automaton_language_1:FuncId:=88
abbrev F_cmp_Or_int_:FuncId:=89
abbrev F_cmp_Compare_int_:FuncId:=90
abbrev F_slices_Compact___api_Edge_api_Edge_:FuncId:=91
abbrev F_dfa_explore__2_int_:FuncId:=94
abbrev F_dfa_Product_1:FuncId:=95
abbrev F_dfa_Product_2:FuncId:=96
abbrev F_dfa_Subset:FuncId:=99
abbrev F_nfa_Validate:FuncId:=100
abbrev F_nfa_compareEdges:FuncId:=101
abbrev F_relation_Valid:FuncId:=102
abbrev F_bits_TrailingZeros64:FuncId:=103
abbrev F_semigroupref08_number:FuncId:=104
abbrev F_semigroupref08_both:FuncId:=105
abbrev F_semigroupref03_Same:FuncId:=106
abbrev F_dfa_Trim:FuncId:=108
abbrev F_minimize_Classes:FuncId:=109
abbrev F_slices_pdqsortCmpFunc_api_Edge_:FuncId:=110
abbrev F_bits_Len:FuncId:=111
abbrev F_cmp_isNaN_int_:FuncId:=112
abbrev F_dfa_numbering__2_int__of:FuncId:=116
abbrev F_dfa_explore_uint64_:FuncId:=117
abbrev F_dfa_steps:FuncId:=118
abbrev F_dfa_Subset_1:FuncId:=119
abbrev F_nfa_states:FuncId:=120
abbrev F_relation_points:FuncId:=121
abbrev F_dfa_explore_int_:FuncId:=122
abbrev F_dfa_Trim_1:FuncId:=123
abbrev F_dfa_Trim_2:FuncId:=124
abbrev F_slices_insertionSortCmpFunc_api_Edge_:FuncId:=125
abbrev F_slices_heapSortCmpFunc_api_Edge_:FuncId:=126
abbrev F_slices_breakPatternsCmpFunc_api_Edge_:FuncId:=127
abbrev F_slices_choosePivotCmpFunc_api_Edge_:FuncId:=128
abbrev F_slices_reverseRangeCmpFunc_api_Edge_:FuncId:=129
abbrev F_slices_partialInsertionSortCmpFunc_api_Edge_:FuncId:=130
abbrev F_slices_partitionEqualCmpFunc_api_Edge_:FuncId:=131
abbrev F_slices_partitionCmpFunc_api_Edge_:FuncId:=132
abbrev F_bits_Len64:FuncId:=134
abbrev F_dfa_numbering_uint64__of:FuncId:=137
abbrev F_dfa_steps_1:FuncId:=138
abbrev F_relation_Image:FuncId:=139
abbrev F_dfa_numbering_int__of:FuncId:=140
abbrev T_int:TypeId:=3
abbrev T_bool:TypeId:=4
abbrev T_l_bool:TypeId:=22
abbrev T_l_l_int:TypeId:=23
abbrev T_l_int:TypeId:=57
abbrev T_uint64:TypeId:=68
abbrev T_api_Edge:TypeId:=74
abbrev T_l_uint64:TypeId:=88
abbrev T__2_int:TypeId:=106
abbrev T_map__2_int_int:TypeId:=109
abbrev T_map_uint64_int:TypeId:=122
abbrev T_map_int_int:TypeId:=132
abbrev T_map_minimize_signature_int:TypeId:=135
abbrev K_dfa_numbering_int__of_k167:Nat:=167
abbrev K_slices_pdqsortCmpFunc_api_Edge__k169:Nat:=169
abbrev K_slices_insertionSortCmpFunc_api_Edge__k170:Nat:=170
abbrev K_slices_heapSortCmpFunc_api_Edge__k171:Nat:=171
abbrev K_slices_breakPatternsCmpFunc_api_Edge__k172:Nat:=172
abbrev K_slices_choosePivotCmpFunc_api_Edge__k173:Nat:=173
abbrev K_dfa_numbering__2_int__of_k178:Nat:=178
abbrev K_slices_reverseRangeCmpFunc_api_Edge__k179:Nat:=179
abbrev K_slices_partialInsertionSortCmpFunc_api_Edge__k180:Nat:=180
abbrev K_slices_partitionCmpFunc_api_Edge__k181:Nat:=181
abbrev K_slices_partitionEqualCmpFunc_api_Edge__k182:Nat:=182
abbrev K_dfa_numbering_uint64__of_k183:Nat:=183
def tab_0:List V:=[.int .u8 0,.int .u8 1,.int .u8 56,.int .u8 2,.int .u8 57,.int .u8 49,.int .u8 28,.int .u8 3,.int .u8 61,.int .u8 58,.int .u8 42,.int .u8 50,.int .u8 38,.int .u8 29,.int .u8 17,.int .u8 4,.int .u8 62,.int .u8 47,.int .u8 59,.int .u8 36,.int .u8 45,.int .u8 43,.int .u8 51,.int .u8 22,.int .u8 53,.int .u8 39,.int .u8 33,.int .u8 30,.int .u8 24,.int .u8 18,.int .u8 12,.int .u8 5,.int .u8 63,.int .u8 55,.int .u8 48,.int .u8 27,.int .u8 60,.int .u8 41,.int .u8 37,.int .u8 16,.int .u8 46,.int .u8 35,.int .u8 44,.int .u8 21,.int .u8 52,.int .u8 32,.int .u8 23,.int .u8 11,.int .u8 54,.int .u8 26,.int .u8 40,.int .u8 15,.int .u8 34,.int .u8 20,.int .u8 31,.int .u8 10,.int .u8 25,.int .u8 14,.int .u8 19,.int .u8 9,.int .u8 13,.int .u8 8,.int .u8 7,.int .u8 6]
def S16_225:Shape × List (Out × Shape):=(⟨[(1,.one (.ptrC 0 0 0)),(3,.one (.int .i64)),(38,.one (.list T_l_int)),(39,.one (.int .i64)),(40,.one (.int .i64)),(49,.one (.list T_int)),(50,.one (.int .i64)),(51,.one (.int .i64))],[.var 25 [.one (.int .i64),.one (.int .i64),.one (.list T_bool),.one (.list T_l_int)]]⟩,[(.ret,⟨[(2,.one (.int .i64))],[]⟩),(.exit 2,⟨[(1,.one (.ptrC 0 0 0)),(3,.one (.int .i64)),(38,.one (.list T_l_int)),(39,.one (.int .i64)),(40,.one (.int .i64)),(49,.one (.list T_int)),(50,.one (.int .i64)),(51,.one (.int .i64)),(52,.one (.bool))],[.var 25 [.one (.int .i64),.one (.int .i64),.one (.list T_bool),.one (.list T_l_int)]]⟩)])
def S16_145:Shape × List (Out × Shape):=(⟨[(1,.one (.ptrC 0 0 0)),(3,.one (.int .i64)),(38,.one (.list T_l_int)),(39,.one (.int .i64)),(40,.one (.int .i64))],[.var 25 [.one (.int .i64),.one (.int .i64),.one (.list T_bool),.one (.list T_l_int)]]⟩,[(.ret,⟨[(2,.one (.int .i64))],[]⟩),(.exit 0,⟨[(1,.one (.ptrC 0 0 0)),(3,.one (.int .i64)),(38,.one (.list T_l_int)),(39,.one (.int .i64)),(40,.one (.int .i64)),(41,.one (.bool))],[.var 25 [.one (.int .i64),.one (.int .i64),.one (.list T_bool),.one (.list T_l_int)]]⟩)])
def S39_81:Shape × List (Out × Shape):=(⟨[(1,.one (.ptrC 0 0 0)),(2,.one (.ptrC 1 0 0)),(3,.one (.ptrC 2 0 0)),(16,.one (.list T_bool)),(17,.one (.int .i64)),(18,.one (.int .i64))],[.var 25 [.one (.int .i64),.one (.int .i64),.one (.list T_bool),.one (.list T_l_int)],.var 25 [.one (.int .i64),.one (.int .i64),.one (.whole T_bool 3),.one (.whole T_l_int 4)],.var 25 [.one (.int .i64),.one (.int .i64),.one (.whole T_bool 5),.one (.whole T_l_int 6)],.arr T_bool false,.arr T_l_int false,.arr T_bool false,.arr T_l_int false]⟩,[(.exit 0,⟨[(1,.one (.ptrC 0 0 0)),(2,.one (.ptrC 1 0 0)),(3,.one (.ptrC 2 0 0)),(16,.one (.list T_bool)),(17,.one (.int .i64)),(18,.one (.int .i64)),(19,.one (.bool))],[.var 25 [.one (.int .i64),.one (.int .i64),.one (.list T_bool),.one (.list T_l_int)],.var 25 [.one (.int .i64),.one (.int .i64),.one (.whole T_bool 3),.one (.whole T_l_int 4)],.var 25 [.one (.int .i64),.one (.int .i64),.one (.whole T_bool 5),.one (.whole T_l_int 6)],.arr T_bool false,.arr T_l_int false,.arr T_bool false,.arr T_l_int false]⟩)])
def S40_225:Shape × List (Out × Shape):=(⟨[(1,.one (.ptrC 0 0 0)),(3,.one (.int .i64)),(38,.one (.list T_l_int)),(39,.one (.int .i64)),(40,.one (.int .i64)),(49,.one (.list T_int)),(50,.one (.int .i64)),(51,.one (.int .i64))],[.var 25 [.one (.int .i64),.one (.int .i64),.one (.list T_bool),.one (.list T_l_int)]]⟩,[(.ret,⟨[(2,.one (.int .i64))],[]⟩),(.exit 2,⟨[(1,.one (.ptrC 0 0 0)),(3,.one (.int .i64)),(38,.one (.list T_l_int)),(39,.one (.int .i64)),(40,.one (.int .i64)),(49,.one (.list T_int)),(50,.one (.int .i64)),(51,.one (.int .i64)),(52,.one (.bool))],[.var 25 [.one (.int .i64),.one (.int .i64),.one (.list T_bool),.one (.list T_l_int)]]⟩)])
def S40_145:Shape × List (Out × Shape):=(⟨[(1,.one (.ptrC 0 0 0)),(3,.one (.int .i64)),(38,.one (.list T_l_int)),(39,.one (.int .i64)),(40,.one (.int .i64))],[.var 25 [.one (.int .i64),.one (.int .i64),.one (.list T_bool),.one (.list T_l_int)]]⟩,[(.ret,⟨[(2,.one (.int .i64))],[]⟩),(.exit 0,⟨[(1,.one (.ptrC 0 0 0)),(3,.one (.int .i64)),(38,.one (.list T_l_int)),(39,.one (.int .i64)),(40,.one (.int .i64)),(41,.one (.bool))],[.var 25 [.one (.int .i64),.one (.int .i64),.one (.list T_bool),.one (.list T_l_int)]]⟩)])
def S41_65:Shape × List (Out × Shape):=(⟨[(2,.one (.ptrC 0 0 0)),(3,.one (.ptrC 1 0 0)),(40,.one (.int .i64)),(41,.one (.int .i64))],[.var 25 [.one (.int .i64),.one (.int .i64),.one (.list T_bool),.one (.list T_l_int)],.var 25 [.one (.int .i64),.one (.int .i64),.one (.list T_bool),.one (.list T_l_int)]]⟩,[(.ret,⟨[(4,.one (.bool))],[]⟩),(.exit 0,⟨[(2,.one (.ptrC 0 0 0)),(3,.one (.ptrC 1 0 0)),(40,.one (.int .i64)),(41,.one (.int .i64)),(42,.one (.bool))],[.var 25 [.one (.int .i64),.one (.int .i64),.one (.list T_bool),.one (.list T_l_int)],.var 25 [.one (.int .i64),.one (.int .i64),.one (.list T_bool),.one (.list T_l_int)]]⟩)])
def S41_241:Shape × List (Out × Shape):=(⟨[(2,.one (.ptrC 0 0 0)),(3,.one (.ptrC 1 0 0)),(6,.one (.int .i64)),(58,.one (.int .i64)),(59,.one (.int .i64)),(80,.one (.int .i64)),(81,.one (.int .i64))],[.var 25 [.one (.int .i64),.one (.int .i64),.one (.list T_bool),.one (.list T_l_int)],.var 25 [.one (.int .i64),.one (.int .i64),.one (.list T_bool),.one (.list T_l_int)]]⟩,[(.ret,⟨[(4,.one (.bool))],[]⟩),(.exit 4,⟨[(2,.one (.ptrC 0 0 0)),(3,.one (.ptrC 1 0 0)),(6,.one (.int .i64)),(58,.one (.int .i64)),(59,.one (.int .i64)),(80,.one (.int .i64)),(81,.one (.int .i64)),(82,.one (.bool))],[.var 25 [.one (.int .i64),.one (.int .i64),.one (.list T_bool),.one (.list T_l_int)],.var 25 [.one (.int .i64),.one (.int .i64),.one (.list T_bool),.one (.list T_l_int)]]⟩)])
def S41_161:Shape × List (Out × Shape):=(⟨[(2,.one (.ptrC 0 0 0)),(3,.one (.ptrC 1 0 0)),(58,.one (.int .i64)),(59,.one (.int .i64))],[.var 25 [.one (.int .i64),.one (.int .i64),.one (.list T_bool),.one (.list T_l_int)],.var 25 [.one (.int .i64),.one (.int .i64),.one (.list T_bool),.one (.list T_l_int)]]⟩,[(.ret,⟨[(4,.one (.bool))],[]⟩),(.exit 2,⟨[(2,.one (.ptrC 0 0 0)),(3,.one (.ptrC 1 0 0)),(58,.one (.int .i64)),(59,.one (.int .i64)),(60,.one (.bool))],[.var 25 [.one (.int .i64),.one (.int .i64),.one (.list T_bool),.one (.list T_l_int)],.var 25 [.one (.int .i64),.one (.int .i64),.one (.list T_bool),.one (.list T_l_int)]]⟩)])
def S51_193:Shape × List (Out × Shape):=(⟨[(1,.one (.ptrC 0 0 0)),(2,.one (.ptrC 1 0 0)),(4,.one (.ptrC 2 0 0)),(6,.one (.ptrC 3 0 0)),(7,.one (.int .i64)),(36,.one (.int .i64)),(37,.one (.int .i64)),(41,.one (.int .i64)),(42,.one (.int .i64))],[.var 25 [.one (.int .i64),.one (.int .i64),.one (.list T_bool),.one (.list T_l_int)],.var 25 [.one (.int .i64),.one (.int .i64),.one (.whole T_bool 4),.one (.whole T_l_int 5)],.var 25 [.one (.int .i64),.one (.int .i64),.one (.whole T_bool 6),.one (.whole T_l_int 7)],.var 95 [.one (.int .i64),.one (.int .i64),.one (.int .u64),.one (.int .u64),.one (.whole T_api_Edge 8)],.arr T_bool false,.arr T_l_int false,.arr T_bool false,.arr T_l_int false,.arr T_api_Edge false]⟩,[(.exit 2,⟨[(1,.one (.ptrC 0 0 0)),(2,.one (.ptrC 1 0 0)),(4,.one (.ptrC 2 0 0)),(6,.one (.ptrC 3 0 0)),(7,.one (.int .i64)),(36,.one (.int .i64)),(37,.one (.int .i64)),(41,.one (.int .i64)),(42,.one (.int .i64)),(43,.one (.bool))],[.var 25 [.one (.int .i64),.one (.int .i64),.one (.list T_bool),.one (.list T_l_int)],.var 25 [.one (.int .i64),.one (.int .i64),.one (.whole T_bool 4),.one (.whole T_l_int 5)],.var 25 [.one (.int .i64),.one (.int .i64),.one (.whole T_bool 6),.one (.whole T_l_int 7)],.var 95 [.one (.int .i64),.one (.int .i64),.one (.int .u64),.one (.int .u64),.one (.whole T_api_Edge 8)],.arr T_bool false,.arr T_l_int false,.arr T_bool false,.arr T_l_int false,.arr T_api_Edge false]⟩)])
def S51_145:Shape × List (Out × Shape):=(⟨[(1,.one (.ptrC 0 0 0)),(2,.one (.ptrC 1 0 0)),(4,.one (.ptrC 2 0 0)),(6,.one (.ptrC 3 0 0)),(36,.one (.int .i64)),(37,.one (.int .i64))],[.var 25 [.one (.int .i64),.one (.int .i64),.one (.list T_bool),.one (.list T_l_int)],.var 25 [.one (.int .i64),.one (.int .i64),.one (.whole T_bool 4),.one (.whole T_l_int 5)],.var 25 [.one (.int .i64),.one (.int .i64),.one (.whole T_bool 6),.one (.whole T_l_int 7)],.var 95 [.one (.int .i64),.one (.int .i64),.one (.int .u64),.one (.int .u64),.one (.whole T_api_Edge 8)],.arr T_bool false,.arr T_l_int false,.arr T_bool false,.arr T_l_int false,.arr T_api_Edge false]⟩,[(.exit 0,⟨[(1,.one (.ptrC 0 0 0)),(2,.one (.ptrC 1 0 0)),(4,.one (.ptrC 2 0 0)),(6,.one (.ptrC 3 0 0)),(36,.one (.int .i64)),(37,.one (.int .i64)),(38,.one (.bool))],[.var 25 [.one (.int .i64),.one (.int .i64),.one (.list T_bool),.one (.list T_l_int)],.var 25 [.one (.int .i64),.one (.int .i64),.one (.whole T_bool 4),.one (.whole T_l_int 5)],.var 25 [.one (.int .i64),.one (.int .i64),.one (.whole T_bool 6),.one (.whole T_l_int 7)],.var 95 [.one (.int .i64),.one (.int .i64),.one (.int .u64),.one (.int .u64),.one (.whole T_api_Edge 8)],.arr T_bool false,.arr T_l_int false,.arr T_bool false,.arr T_l_int false,.arr T_api_Edge false]⟩)])
def S57_65:Shape × List (Out × Shape):=(⟨[(0,.one (.str)),(1,.one (.int .i64)),(18,.one (.int .i64)),(19,.one (.int .i64))],[]⟩,[(.ret,⟨[(4,.one (.bool))],[]⟩),(.exit 0,⟨[(0,.one (.str)),(1,.one (.int .i64)),(18,.one (.int .i64)),(19,.one (.int .i64)),(20,.one (.bool))],[]⟩)])
def S58_65:Shape × List (Out × Shape):=(⟨[(1,.one (.int .i64)),(2,.one (.str)),(3,.one (.ptrC 0 0 0)),(30,.one (.int .i64)),(31,.one (.int .i64))],[.var 25 [.one (.int .i64),.one (.int .i64),.one (.list T_bool),.one (.list T_l_int)]]⟩,[(.exit 0,⟨[(1,.one (.int .i64)),(2,.one (.str)),(3,.one (.ptrC 0 0 0)),(30,.one (.int .i64)),(31,.one (.int .i64)),(32,.one (.bool))],[.var 25 [.one (.int .i64),.one (.int .i64),.one (.list T_bool),.one (.list T_l_int)]]⟩)])
def S64_17:Shape × List (Out × Shape):=(⟨[(0,.one (.ptrC 0 0 0)),(2,.one (.int .i64)),(8,.one (.list T_bool)),(9,.one (.int .i64)),(10,.one (.int .i64))],[.var 95 [.one (.int .i64),.one (.int .i64),.one (.int .u64),.one (.int .u64),.one (.whole T_api_Edge 2)],.dead,.arr T_api_Edge false]⟩,[(.exit 0,⟨[(0,.one (.ptrC 0 0 0)),(2,.one (.int .i64)),(8,.one (.list T_bool)),(9,.one (.int .i64)),(10,.one (.int .i64)),(11,.one (.bool))],[.var 95 [.one (.int .i64),.one (.int .i64),.one (.int .u64),.one (.int .u64),.one (.whole T_api_Edge 2)],.dead,.arr T_api_Edge false]⟩)])
def S73_81:Shape × List (Out × Shape):=(⟨[(0,.one (.ptrC 0 0 0)),(2,.one (.int .i64)),(6,.one (.int .i64)),(11,.one (.list T_l_int)),(12,.one (.int .i64)),(13,.one (.int .i64)),(18,.one (.list T_int)),(19,.one (.int .i64)),(20,.one (.int .i64))],[.var 95 [.one (.int .i64),.one (.int .i64),.one (.int .u64),.one (.int .u64),.one (.whole T_api_Edge 2)],.dead,.arr T_api_Edge false]⟩,[(.exit 2,⟨[(0,.one (.ptrC 0 0 0)),(2,.one (.int .i64)),(6,.one (.int .i64)),(11,.one (.list T_l_int)),(12,.one (.int .i64)),(13,.one (.int .i64)),(18,.one (.list T_int)),(19,.one (.int .i64)),(20,.one (.int .i64)),(21,.one (.bool))],[.var 95 [.one (.int .i64),.one (.int .i64),.one (.int .u64),.one (.int .u64),.one (.whole T_api_Edge 2)],.dead,.arr T_api_Edge false]⟩)])
def S73_33:Shape × List (Out × Shape):=(⟨[(0,.one (.ptrC 0 0 0)),(2,.one (.int .i64)),(11,.one (.list T_l_int)),(12,.one (.int .i64)),(13,.one (.int .i64))],[.var 95 [.one (.int .i64),.one (.int .i64),.one (.int .u64),.one (.int .u64),.one (.whole T_api_Edge 2)],.dead,.arr T_api_Edge false]⟩,[(.exit 0,⟨[(0,.one (.ptrC 0 0 0)),(2,.one (.int .i64)),(11,.one (.list T_l_int)),(12,.one (.int .i64)),(13,.one (.int .i64)),(14,.one (.bool))],[.var 95 [.one (.int .i64),.one (.int .i64),.one (.int .u64),.one (.int .u64),.one (.whole T_api_Edge 2)],.dead,.arr T_api_Edge false]⟩)])
def S83_33:Shape × List (Out × Shape):=(⟨[(0,.one (.int .u64)),(3,.one (.whole T_int 0))],[.arr T_int false]⟩,[(.exit 0,⟨[(0,.one (.int .u64)),(3,.one (.whole T_int 0)),(5,.one (.bool))],[.arr T_int false]⟩)])
def S84_49:Shape × List (Out × Shape):=(⟨[(1,.one (.ptrC 0 0 0)),(3,.one (.whole T_int 1)),(14,.one (.int .i64)),(15,.one (.int .i64))],[.var 25 [.one (.int .i64),.one (.int .i64),.one (.list T_bool),.one (.list T_l_int)],.arr T_int false]⟩,[(.exit 0,⟨[(1,.one (.ptrC 0 0 0)),(3,.one (.whole T_int 1)),(14,.one (.int .i64)),(15,.one (.int .i64)),(16,.one (.bool))],[.var 25 [.one (.int .i64),.one (.int .i64),.one (.list T_bool),.one (.list T_l_int)],.arr T_int false]⟩)])
def S84_241:Shape × List (Out × Shape):=(⟨[(1,.one (.ptrC 0 0 0)),(3,.one (.list T_int)),(5,.one (.list T_int)),(6,.one (.int .i64)),(7,.one (.whole T_int 1)),(37,.one (.int .i64)),(38,.one (.int .i64))],[.var 25 [.one (.int .i64),.one (.int .i64),.one (.list T_bool),.one (.list T_l_int)],.arr T_int false]⟩,[(.exit 6,⟨[(1,.one (.ptrC 0 0 0)),(3,.one (.list T_int)),(5,.one (.list T_int)),(6,.one (.int .i64)),(7,.one (.whole T_int 1)),(37,.one (.int .i64)),(38,.one (.int .i64)),(39,.one (.bool))],[.var 25 [.one (.int .i64),.one (.int .i64),.one (.list T_bool),.one (.list T_l_int)],.arr T_int false]⟩)])
def S84_177:Shape × List (Out × Shape):=(⟨[(1,.one (.ptrC 0 0 0)),(3,.one (.list T_int)),(5,.one (.list T_int)),(6,.one (.int .i64))],[.var 25 [.one (.int .i64),.one (.int .i64),.one (.list T_bool),.one (.list T_l_int)]]⟩,[(.exit 4,⟨[(1,.one (.ptrC 0 0 0)),(3,.one (.list T_int)),(5,.one (.list T_int)),(6,.one (.int .i64)),(33,.one (.bool))],[.var 25 [.one (.int .i64),.one (.int .i64),.one (.list T_bool),.one (.list T_l_int)]]⟩)])
def S84_145:Shape × List (Out × Shape):=(⟨[(1,.one (.ptrC 0 0 0)),(3,.one (.list T_int))],[.var 25 [.one (.int .i64),.one (.int .i64),.one (.list T_bool),.one (.list T_l_int)]]⟩,[(.ret,⟨[(2,.one (.list T_int))],[]⟩)])
def S86_161:Shape × List (Out × Shape):=(⟨[(1,.one (.ptrC 0 0 0)),(2,.one (.ptrC 1 0 0)),(4,.one (.ptrC 2 0 0)),(5,.one (.whole T_int 3)),(6,.one (.whole T_int 4)),(7,.one (.ptrC 5 0 0)),(8,.one (.int .i64)),(10,.one (.whole T_int 6)),(28,.one (.whole T_int 4)),(29,.one (.int .i64)),(30,.one (.int .i64)),(47,.one (.list T_int)),(48,.one (.int .i64)),(49,.one (.int .i64))],[.var 25 [.one (.int .i64),.one (.int .i64),.one (.list T_bool),.one (.list T_l_int)],.var 25 [.one (.int .i64),.one (.int .i64),.one (.whole T_bool 7),.one (.whole T_l_int 8)],.var 25 [.one (.int .i64),.one (.int .i64),.one (.whole T_bool 9),.one (.whole T_l_int 10)],.arr T_int false,.arr T_int false,.var 25 [.one (.int .i64),.one (.int .i64),.one (.whole T_bool 11),.one (.whole T_l_int 12)],.arr T_int false,.arr T_bool false,.arr T_l_int false,.arr T_bool false,.arr T_l_int false,.arr T_bool false,.arr T_l_int false]⟩,[(.exit 2,⟨[(1,.one (.ptrC 0 0 0)),(2,.one (.ptrC 1 0 0)),(4,.one (.ptrC 2 0 0)),(5,.one (.whole T_int 3)),(6,.one (.whole T_int 4)),(7,.one (.ptrC 5 0 0)),(8,.one (.int .i64)),(10,.one (.whole T_int 6)),(28,.one (.whole T_int 4)),(29,.one (.int .i64)),(30,.one (.int .i64)),(47,.one (.list T_int)),(48,.one (.int .i64)),(49,.one (.int .i64)),(50,.one (.bool))],[.var 25 [.one (.int .i64),.one (.int .i64),.one (.list T_bool),.one (.list T_l_int)],.var 25 [.one (.int .i64),.one (.int .i64),.one (.whole T_bool 7),.one (.whole T_l_int 8)],.var 25 [.one (.int .i64),.one (.int .i64),.one (.whole T_bool 9),.one (.whole T_l_int 10)],.arr T_int false,.arr T_int false,.var 25 [.one (.int .i64),.one (.int .i64),.one (.whole T_bool 11),.one (.whole T_l_int 12)],.arr T_int false,.arr T_bool false,.arr T_l_int false,.arr T_bool false,.arr T_l_int false,.arr T_bool false,.arr T_l_int false]⟩)])
def S86_81:Shape × List (Out × Shape):=(⟨[(1,.one (.ptrC 0 0 0)),(2,.one (.ptrC 1 0 0)),(4,.one (.ptrC 2 0 0)),(5,.one (.whole T_int 3)),(6,.one (.whole T_int 4)),(7,.one (.ptrC 5 0 0)),(28,.one (.whole T_int 4)),(29,.one (.int .i64)),(30,.one (.int .i64))],[.var 25 [.one (.int .i64),.one (.int .i64),.one (.list T_bool),.one (.list T_l_int)],.var 25 [.one (.int .i64),.one (.int .i64),.one (.whole T_bool 6),.one (.whole T_l_int 7)],.var 25 [.one (.int .i64),.one (.int .i64),.one (.whole T_bool 8),.one (.whole T_l_int 9)],.arr T_int false,.arr T_int false,.var 25 [.one (.int .i64),.one (.int .i64),.one (.whole T_bool 10),.one (.whole T_l_int 11)],.arr T_bool false,.arr T_l_int false,.arr T_bool false,.arr T_l_int false,.arr T_bool false,.arr T_l_int false]⟩,[(.exit 0,⟨[(1,.one (.ptrC 0 0 0)),(2,.one (.ptrC 1 0 0)),(4,.one (.ptrC 2 0 0)),(5,.one (.whole T_int 3)),(6,.one (.whole T_int 4)),(7,.one (.ptrC 5 0 0)),(28,.one (.whole T_int 4)),(29,.one (.int .i64)),(30,.one (.int .i64)),(31,.one (.bool))],[.var 25 [.one (.int .i64),.one (.int .i64),.one (.list T_bool),.one (.list T_l_int)],.var 25 [.one (.int .i64),.one (.int .i64),.one (.whole T_bool 6),.one (.whole T_l_int 7)],.var 25 [.one (.int .i64),.one (.int .i64),.one (.whole T_bool 8),.one (.whole T_l_int 9)],.arr T_int false,.arr T_int false,.var 25 [.one (.int .i64),.one (.int .i64),.one (.whole T_bool 10),.one (.whole T_l_int 11)],.arr T_bool false,.arr T_l_int false,.arr T_bool false,.arr T_l_int false,.arr T_bool false,.arr T_l_int false]⟩)])
def S86_321:Shape × List (Out × Shape):=(⟨[(2,.one (.ptrC 0 0 0)),(6,.one (.whole T_int 1)),(13,.one (.ptrC 2 0 0)),(14,.one (.whole T_int 3)),(15,.one (.whole T_int 4)),(87,.one (.whole T_int 5)),(88,.one (.int .i64)),(89,.one (.int .i64))],[.var 25 [.one (.int .i64),.one (.int .i64),.one (.whole T_bool 6),.one (.whole T_l_int 7)],.arr T_int false,.var 25 [.one (.int .i64),.one (.int .i64),.one (.whole T_bool 8),.one (.whole T_l_int 9)],.arr T_int false,.arr T_int false,.arr T_int false,.arr T_bool false,.arr T_l_int false,.arr T_bool false,.arr T_l_int false]⟩,[(.exit 4,⟨[(2,.one (.ptrC 0 0 0)),(6,.one (.whole T_int 1)),(13,.one (.ptrC 2 0 0)),(14,.one (.whole T_int 3)),(15,.one (.whole T_int 4)),(87,.one (.whole T_int 5)),(88,.one (.int .i64)),(89,.one (.int .i64)),(90,.one (.bool))],[.var 25 [.one (.int .i64),.one (.int .i64),.one (.whole T_bool 6),.one (.whole T_l_int 7)],.arr T_int false,.var 25 [.one (.int .i64),.one (.int .i64),.one (.whole T_bool 8),.one (.whole T_l_int 9)],.arr T_int false,.arr T_int false,.arr T_int false,.arr T_bool false,.arr T_l_int false,.arr T_bool false,.arr T_l_int false]⟩)])
def S89_49:Shape × List (Out × Shape):=(⟨[(3,.one (.int .i64)),(6,.one (.list T_int)),(7,.one (.int .i64)),(8,.one (.int .i64))],[]⟩,[(.ret,⟨[(2,.one (.int .i64))],[]⟩),(.exit 0,⟨[(3,.one (.int .i64)),(6,.one (.list T_int)),(7,.one (.int .i64)),(8,.one (.int .i64)),(9,.one (.bool))],[]⟩)])
def S91_145:Shape × List (Out × Shape):=(⟨[(0,.one (.whole T_api_Edge 0)),(3,.one (.int .i64)),(4,.one (.sub T_api_Edge 0)),(5,.one (.int .i64))],[.arr T_api_Edge false]⟩,[(.exit 2,⟨[(0,.one (.whole T_api_Edge 0)),(3,.one (.int .i64)),(4,.one (.sub T_api_Edge 0)),(5,.one (.int .i64)),(32,.one (.bool))],[.arr T_api_Edge false]⟩)])
def S91_65:Shape × List (Out × Shape):=(⟨[(0,.one (.whole T_api_Edge 0)),(3,.one (.int .i64))],[.arr T_api_Edge false]⟩,[(.ret,⟨[(2,.one (.whole T_api_Edge 1))],[.dead,.arr T_api_Edge false]⟩),(.exit 0,⟨[(0,.one (.whole T_api_Edge 0)),(3,.one (.int .i64)),(13,.one (.bool))],[.arr T_api_Edge false]⟩)])
def S94_161:Shape × List (Out × Shape):=(⟨[(0,.one (.int .i64)),(2,.fn F_dfa_Product_1 [] [.ptrC 0 0 0,.ptrC 1 0 0]),(3,.fn F_dfa_Product_2 [] [.ptrC 0 0 0,.ptrC 1 0 0,.ptrC 2 0 0]),(8,.one (.ptrC 3 0 0)),(11,.one (.ptrC 4 0 0)),(12,.one (.ptrC 5 0 0)),(13,.one (.int .i64)),(14,.one (.ptrC 6 0 0)),(15,.one (.whole T_int 7)),(36,.one (.int .i64)),(37,.one (.int .i64))],[.var 25 [.one (.int .i64),.one (.int .i64),.one (.list T_bool),.one (.list T_l_int)],.var 25 [.one (.int .i64),.one (.int .i64),.one (.list T_bool),.one (.list T_l_int)],.var 3 [.one (.int .i64)],.var 25 [.one (.int .i64),.one (.int .i64),.one (.whole T_bool 8),.one (.whole T_l_int 9)],.var 125 [.one (.whole T__2_int 10),.one (.mref T_map__2_int_int 11)],.var 25 [.one (.int .i64),.one (.int .i64),.one (.whole T_bool 12),.one (.whole T_l_int 13)],.var 106 [.one (.int .i64),.one (.int .i64)],.arr T_int false,.arr T_bool false,.arr T_l_int false,.arr T__2_int false,.map T_map__2_int_int,.arr T_bool false,.arr T_l_int false]⟩,[(.exit 2,⟨[(0,.one (.int .i64)),(2,.fn F_dfa_Product_1 [] [.ptrC 0 0 0,.ptrC 1 0 0]),(3,.fn F_dfa_Product_2 [] [.ptrC 0 0 0,.ptrC 1 0 0,.ptrC 2 0 0]),(8,.one (.ptrC 3 0 0)),(11,.one (.ptrC 4 0 0)),(12,.one (.ptrC 5 0 0)),(13,.one (.int .i64)),(14,.one (.ptrC 6 0 0)),(15,.one (.whole T_int 7)),(36,.one (.int .i64)),(37,.one (.int .i64)),(38,.one (.bool))],[.var 25 [.one (.int .i64),.one (.int .i64),.one (.list T_bool),.one (.list T_l_int)],.var 25 [.one (.int .i64),.one (.int .i64),.one (.list T_bool),.one (.list T_l_int)],.var 3 [.one (.int .i64)],.var 25 [.one (.int .i64),.one (.int .i64),.one (.whole T_bool 8),.one (.whole T_l_int 9)],.var 125 [.one (.whole T__2_int 10),.one (.mref T_map__2_int_int 11)],.var 25 [.one (.int .i64),.one (.int .i64),.one (.whole T_bool 12),.one (.whole T_l_int 13)],.var 106 [.one (.int .i64),.one (.int .i64)],.arr T_int false,.arr T_bool false,.arr T_l_int false,.arr T__2_int false,.map T_map__2_int_int,.arr T_bool false,.arr T_l_int false]⟩)])
def S94_81:Shape × List (Out × Shape):=(⟨[(0,.one (.int .i64)),(2,.fn F_dfa_Product_1 [] [.ptrC 0 0 0,.ptrC 1 0 0]),(3,.fn F_dfa_Product_2 [] [.ptrC 0 0 0,.ptrC 1 0 0,.ptrC 2 0 0]),(8,.one (.ptrC 3 0 0)),(11,.one (.ptrC 4 0 0)),(12,.one (.ptrC 5 0 0)),(13,.one (.int .i64))],[.var 25 [.one (.int .i64),.one (.int .i64),.one (.list T_bool),.one (.list T_l_int)],.var 25 [.one (.int .i64),.one (.int .i64),.one (.list T_bool),.one (.list T_l_int)],.var 3 [.one (.int .i64)],.var 25 [.one (.int .i64),.one (.int .i64),.one (.whole T_bool 6),.one (.whole T_l_int 7)],.var 125 [.one (.whole T__2_int 8),.one (.mref T_map__2_int_int 9)],.var 25 [.one (.int .i64),.one (.int .i64),.one (.whole T_bool 10),.one (.whole T_l_int 11)],.arr T_bool false,.arr T_l_int false,.arr T__2_int false,.map T_map__2_int_int,.arr T_bool false,.arr T_l_int false]⟩,[(.ret,⟨[(8,.one (.ptrC 3 0 0)),(9,.one (.whole T__2_int 6)),(10,.one (.int .i64))],[.var 25 [.one (.int .i64),.one (.int .i64),.one (.list T_bool),.one (.list T_l_int)],.var 25 [.one (.int .i64),.one (.int .i64),.one (.list T_bool),.one (.list T_l_int)],.var 3 [.one (.int .i64)],.var 25 [.one (.int .i64),.one (.int .i64),.one (.whole T_bool 4),.one (.whole T_l_int 5)],.arr T_bool false,.arr T_l_int false,.arr T__2_int false]⟩),(.exit 0,⟨[(0,.one (.int .i64)),(2,.fn F_dfa_Product_1 [] [.ptrC 0 0 0,.ptrC 1 0 0]),(3,.fn F_dfa_Product_2 [] [.ptrC 0 0 0,.ptrC 1 0 0,.ptrC 2 0 0]),(8,.one (.ptrC 3 0 0)),(11,.one (.ptrC 4 0 0)),(12,.one (.ptrC 5 0 0)),(13,.one (.int .i64)),(25,.one (.bool))],[.var 25 [.one (.int .i64),.one (.int .i64),.one (.list T_bool),.one (.list T_l_int)],.var 25 [.one (.int .i64),.one (.int .i64),.one (.list T_bool),.one (.list T_l_int)],.var 3 [.one (.int .i64)],.var 25 [.one (.int .i64),.one (.int .i64),.one (.whole T_bool 6),.one (.whole T_l_int 7)],.var 125 [.one (.whole T__2_int 8),.one (.mref T_map__2_int_int 9)],.var 25 [.one (.int .i64),.one (.int .i64),.one (.whole T_bool 10),.one (.whole T_l_int 11)],.arr T_bool false,.arr T_l_int false,.arr T__2_int false,.map T_map__2_int_int,.arr T_bool false,.arr T_l_int false]⟩)])
def S96_207:Shape × List (Out × Shape):=(⟨[(2,.one (.ptrC 1 0 0)),(3,.one (.ptrC 2 0 0)),(4,.one (.ptrC 3 0 0)),(6,.one (.int .i64)),(12,.one (.bool))],[.var 25 [.one (.int .i64),.one (.int .i64),.one (.list T_bool),.one (.list T_l_int)],.var 25 [.one (.int .i64),.one (.int .i64),.one (.list T_bool),.one (.list T_l_int)],.var 3 [.one (.int .i64)],.var 106 [.one (.int .i64),.one (.int .i64)]]⟩,[(.norm,⟨[(2,.one (.ptrC 1 0 0)),(3,.one (.ptrC 2 0 0)),(4,.one (.ptrC 3 0 0)),(6,.one (.int .i64))],[.var 25 [.one (.int .i64),.one (.int .i64),.one (.list T_bool),.one (.list T_l_int)],.var 25 [.one (.int .i64),.one (.int .i64),.one (.list T_bool),.one (.list T_l_int)],.var 3 [.one (.int .i64)],.var 106 [.one (.int .i64),.one (.int .i64)]]⟩)])
def S100_97:Shape × List (Out × Shape):=(⟨[(1,.one (.ptrC 0 0 0)),(34,.one (.list T_api_Edge)),(35,.one (.int .i64)),(36,.one (.int .i64))],[.var 71 [.one (.int .i64),.one (.int .i64),.one (.int .u64),.one (.int .u64),.one (.list T_api_Edge)]]⟩,[(.ret,⟨[(2,.one (.int .i64))],[]⟩),(.exit 0,⟨[(1,.one (.ptrC 0 0 0)),(34,.one (.list T_api_Edge)),(35,.one (.int .i64)),(36,.one (.int .i64)),(37,.one (.bool))],[.var 71 [.one (.int .i64),.one (.int .i64),.one (.int .u64),.one (.int .u64),.one (.list T_api_Edge)]]⟩)])
def S102_65:Shape × List (Out × Shape):=(⟨[(0,.one (.list T_uint64)),(8,.one (.list T_uint64)),(9,.one (.int .i64)),(10,.one (.int .i64))],[]⟩,[(.ret,⟨[(2,.one (.bool))],[]⟩),(.exit 0,⟨[(0,.one (.list T_uint64)),(8,.one (.list T_uint64)),(9,.one (.int .i64)),(10,.one (.int .i64)),(11,.one (.bool))],[]⟩)])
def S104_65:Shape × List (Out × Shape):=(⟨[(3,.one (.mref T_map_int_int 0)),(4,.one (.whole T_int 1)),(13,.one (.list T_int)),(14,.one (.int .i64)),(15,.one (.int .i64))],[.map T_map_int_int,.arr T_int false]⟩,[(.exit 0,⟨[(3,.one (.mref T_map_int_int 0)),(4,.one (.whole T_int 1)),(13,.one (.list T_int)),(14,.one (.int .i64)),(15,.one (.int .i64)),(16,.one (.bool))],[.map T_map_int_int,.arr T_int false]⟩)])
def S105_49:Shape × List (Out × Shape):=(⟨[(0,.one (.list T_int)),(1,.one (.list T_int)),(5,.one (.whole T_int 0)),(11,.one (.int .i64)),(12,.one (.int .i64))],[.arr T_int false]⟩,[(.exit 0,⟨[(0,.one (.list T_int)),(1,.one (.list T_int)),(5,.one (.whole T_int 0)),(11,.one (.int .i64)),(12,.one (.int .i64)),(13,.one (.bool))],[.arr T_int false]⟩)])
def S106_65:Shape × List (Out × Shape):=(⟨[(0,.one (.list T_int)),(1,.one (.list T_int)),(12,.one (.int .i64)),(13,.one (.int .i64))],[]⟩,[(.ret,⟨[(4,.one (.bool))],[]⟩),(.exit 0,⟨[(0,.one (.list T_int)),(1,.one (.list T_int)),(12,.one (.int .i64)),(13,.one (.int .i64)),(14,.one (.bool))],[]⟩)])
def S108_97:Shape × List (Out × Shape):=(⟨[(2,.one (.ptrC 0 0 0)),(4,.one (.ptrC 1 0 0)),(5,.one (.whole T_int 2)),(7,.one (.whole T_int 3)),(31,.one (.int .i64)),(32,.one (.int .i64))],[.var 25 [.one (.int .i64),.one (.int .i64),.one (.whole T_bool 4),.one (.whole T_l_int 5)],.var 25 [.one (.int .i64),.one (.int .i64),.one (.whole T_bool 6),.one (.whole T_l_int 7)],.arr T_int false,.arr T_int false,.arr T_bool false,.arr T_l_int false,.arr T_bool false,.arr T_l_int false]⟩,[(.exit 0,⟨[(2,.one (.ptrC 0 0 0)),(4,.one (.ptrC 1 0 0)),(5,.one (.whole T_int 2)),(7,.one (.whole T_int 3)),(31,.one (.int .i64)),(32,.one (.int .i64)),(33,.one (.bool))],[.var 25 [.one (.int .i64),.one (.int .i64),.one (.whole T_bool 4),.one (.whole T_l_int 5)],.var 25 [.one (.int .i64),.one (.int .i64),.one (.whole T_bool 6),.one (.whole T_l_int 7)],.arr T_int false,.arr T_int false,.arr T_bool false,.arr T_l_int false,.arr T_bool false,.arr T_l_int false]⟩)])
def S108_177:Shape × List (Out × Shape):=(⟨[(2,.one (.ptrC 0 0 0)),(4,.one (.ptrC 1 0 0)),(7,.one (.whole T_int 2)),(39,.one (.whole T_int 3)),(40,.one (.int .i64)),(41,.one (.int .i64))],[.var 25 [.one (.int .i64),.one (.int .i64),.one (.whole T_bool 4),.one (.whole T_l_int 5)],.var 25 [.one (.int .i64),.one (.int .i64),.one (.whole T_bool 6),.one (.whole T_l_int 7)],.arr T_int false,.arr T_int false,.arr T_bool false,.arr T_l_int false,.arr T_bool false,.arr T_l_int false]⟩,[(.exit 2,⟨[(2,.one (.ptrC 0 0 0)),(4,.one (.ptrC 1 0 0)),(7,.one (.whole T_int 2)),(39,.one (.whole T_int 3)),(40,.one (.int .i64)),(41,.one (.int .i64)),(42,.one (.bool))],[.var 25 [.one (.int .i64),.one (.int .i64),.one (.whole T_bool 4),.one (.whole T_l_int 5)],.var 25 [.one (.int .i64),.one (.int .i64),.one (.whole T_bool 6),.one (.whole T_l_int 7)],.arr T_int false,.arr T_int false,.arr T_bool false,.arr T_l_int false,.arr T_bool false,.arr T_l_int false]⟩)])
def S109_81:Shape × List (Out × Shape):=(⟨[(1,.one (.ptrC 0 0 0)),(3,.one (.whole T_int 1)),(4,.one (.int .i64)),(24,.one (.list T_bool)),(25,.one (.int .i64)),(26,.one (.int .i64))],[.var 25 [.one (.int .i64),.one (.int .i64),.one (.list T_bool),.one (.list T_l_int)],.arr T_int false]⟩,[(.exit 0,⟨[(1,.one (.ptrC 0 0 0)),(3,.one (.whole T_int 1)),(4,.one (.int .i64)),(24,.one (.list T_bool)),(25,.one (.int .i64)),(26,.one (.int .i64)),(27,.one (.bool))],[.var 25 [.one (.int .i64),.one (.int .i64),.one (.list T_bool),.one (.list T_l_int)],.arr T_int false]⟩)])
def S109_273:Shape × List (Out × Shape):=(⟨[(1,.one (.ptrC 0 0 0)),(3,.one (.whole T_int 1)),(4,.one (.int .i64)),(7,.one (.mref T_map_minimize_signature_int 2)),(8,.one (.whole T_int 3)),(9,.one (.int .i64)),(11,.one (.ptrC 4 0 0)),(46,.one (.list T_l_int)),(47,.one (.int .i64)),(48,.one (.int .i64)),(58,.one (.list T_int)),(59,.one (.int .i64)),(60,.one (.int .i64))],[.var 25 [.one (.int .i64),.one (.int .i64),.one (.list T_bool),.one (.list T_l_int)],.arr T_int false,.map T_map_minimize_signature_int,.arr T_int false,.var 137 [.one (.int .i64),.one (.int .i64),.one (.int .i64),.one (.int .i64),.one (.int .i64),.one (.int .i64),.one (.int .i64)]]⟩,[(.exit 6,⟨[(1,.one (.ptrC 0 0 0)),(3,.one (.whole T_int 1)),(4,.one (.int .i64)),(7,.one (.mref T_map_minimize_signature_int 2)),(8,.one (.whole T_int 3)),(9,.one (.int .i64)),(11,.one (.ptrC 4 0 0)),(46,.one (.list T_l_int)),(47,.one (.int .i64)),(48,.one (.int .i64)),(58,.one (.list T_int)),(59,.one (.int .i64)),(60,.one (.int .i64)),(61,.one (.bool))],[.var 25 [.one (.int .i64),.one (.int .i64),.one (.list T_bool),.one (.list T_l_int)],.arr T_int false,.map T_map_minimize_signature_int,.arr T_int false,.var 137 [.one (.int .i64),.one (.int .i64),.one (.int .i64),.one (.int .i64),.one (.int .i64),.one (.int .i64),.one (.int .i64)]]⟩)])
def S109_209:Shape × List (Out × Shape):=(⟨[(1,.one (.ptrC 0 0 0)),(3,.one (.whole T_int 1)),(4,.one (.int .i64)),(7,.one (.mref T_map_minimize_signature_int 2)),(8,.one (.whole T_int 3)),(46,.one (.list T_l_int)),(47,.one (.int .i64)),(48,.one (.int .i64))],[.var 25 [.one (.int .i64),.one (.int .i64),.one (.list T_bool),.one (.list T_l_int)],.arr T_int false,.map T_map_minimize_signature_int,.arr T_int false]⟩,[(.exit 4,⟨[(1,.one (.ptrC 0 0 0)),(3,.one (.whole T_int 1)),(4,.one (.int .i64)),(7,.one (.mref T_map_minimize_signature_int 2)),(8,.one (.whole T_int 3)),(46,.one (.list T_l_int)),(47,.one (.int .i64)),(48,.one (.int .i64)),(49,.one (.bool))],[.var 25 [.one (.int .i64),.one (.int .i64),.one (.list T_bool),.one (.list T_l_int)],.arr T_int false,.map T_map_minimize_signature_int,.arr T_int false]⟩)])
def S109_161:Shape × List (Out × Shape):=(⟨[(1,.one (.ptrC 0 0 0)),(3,.one (.whole T_int 1)),(4,.one (.int .i64))],[.var 25 [.one (.int .i64),.one (.int .i64),.one (.list T_bool),.one (.list T_l_int)],.arr T_int false]⟩,[(.ret,⟨[(2,.one (.whole T_int 0))],[.arr T_int false]⟩)])
def S117_161:Shape × List (Out × Shape):=(⟨[(0,.one (.int .i64)),(2,.fn F_dfa_steps_1 [] [.ptrC 0 0 0]),(3,.fn F_dfa_Subset_1 [] [.ptrC 1 0 0]),(8,.one (.ptrC 2 0 0)),(11,.one (.ptrC 3 0 0)),(12,.one (.ptrC 4 0 0)),(13,.one (.int .i64)),(14,.one (.int .u64)),(15,.one (.whole T_int 5)),(36,.one (.int .i64)),(37,.one (.int .i64))],[.var 151 [.one (.list T_l_uint64)],.var 71 [.one (.int .i64),.one (.int .i64),.one (.int .u64),.one (.int .u64),.one (.list T_api_Edge)],.var 25 [.one (.int .i64),.one (.int .i64),.one (.whole T_bool 6),.one (.whole T_l_int 7)],.var 150 [.one (.whole T_uint64 8),.one (.mref T_map_uint64_int 9)],.var 25 [.one (.int .i64),.one (.int .i64),.one (.whole T_bool 10),.one (.whole T_l_int 11)],.arr T_int false,.arr T_bool false,.arr T_l_int false,.arr T_uint64 false,.map T_map_uint64_int,.arr T_bool false,.arr T_l_int false]⟩,[(.exit 2,⟨[(0,.one (.int .i64)),(2,.fn F_dfa_steps_1 [] [.ptrC 0 0 0]),(3,.fn F_dfa_Subset_1 [] [.ptrC 1 0 0]),(8,.one (.ptrC 2 0 0)),(11,.one (.ptrC 3 0 0)),(12,.one (.ptrC 4 0 0)),(13,.one (.int .i64)),(14,.one (.int .u64)),(15,.one (.whole T_int 5)),(36,.one (.int .i64)),(37,.one (.int .i64)),(38,.one (.bool))],[.var 151 [.one (.list T_l_uint64)],.var 71 [.one (.int .i64),.one (.int .i64),.one (.int .u64),.one (.int .u64),.one (.list T_api_Edge)],.var 25 [.one (.int .i64),.one (.int .i64),.one (.whole T_bool 6),.one (.whole T_l_int 7)],.var 150 [.one (.whole T_uint64 8),.one (.mref T_map_uint64_int 9)],.var 25 [.one (.int .i64),.one (.int .i64),.one (.whole T_bool 10),.one (.whole T_l_int 11)],.arr T_int false,.arr T_bool false,.arr T_l_int false,.arr T_uint64 false,.map T_map_uint64_int,.arr T_bool false,.arr T_l_int false]⟩)])
def S117_81:Shape × List (Out × Shape):=(⟨[(0,.one (.int .i64)),(2,.fn F_dfa_steps_1 [] [.ptrC 0 0 0]),(3,.fn F_dfa_Subset_1 [] [.ptrC 1 0 0]),(8,.one (.ptrC 2 0 0)),(11,.one (.ptrC 3 0 0)),(12,.one (.ptrC 4 0 0)),(13,.one (.int .i64))],[.var 151 [.one (.list T_l_uint64)],.var 71 [.one (.int .i64),.one (.int .i64),.one (.int .u64),.one (.int .u64),.one (.list T_api_Edge)],.var 25 [.one (.int .i64),.one (.int .i64),.one (.whole T_bool 5),.one (.whole T_l_int 6)],.var 150 [.one (.whole T_uint64 7),.one (.mref T_map_uint64_int 8)],.var 25 [.one (.int .i64),.one (.int .i64),.one (.whole T_bool 9),.one (.whole T_l_int 10)],.arr T_bool false,.arr T_l_int false,.arr T_uint64 false,.map T_map_uint64_int,.arr T_bool false,.arr T_l_int false]⟩,[(.ret,⟨[(8,.one (.ptrC 2 0 0)),(9,.one (.whole T_uint64 5)),(10,.one (.int .i64))],[.var 151 [.one (.list T_l_uint64)],.var 71 [.one (.int .i64),.one (.int .i64),.one (.int .u64),.one (.int .u64),.one (.list T_api_Edge)],.var 25 [.one (.int .i64),.one (.int .i64),.one (.whole T_bool 3),.one (.whole T_l_int 4)],.arr T_bool false,.arr T_l_int false,.arr T_uint64 false]⟩),(.exit 0,⟨[(0,.one (.int .i64)),(2,.fn F_dfa_steps_1 [] [.ptrC 0 0 0]),(3,.fn F_dfa_Subset_1 [] [.ptrC 1 0 0]),(8,.one (.ptrC 2 0 0)),(11,.one (.ptrC 3 0 0)),(12,.one (.ptrC 4 0 0)),(13,.one (.int .i64)),(25,.one (.bool))],[.var 151 [.one (.list T_l_uint64)],.var 71 [.one (.int .i64),.one (.int .i64),.one (.int .u64),.one (.int .u64),.one (.list T_api_Edge)],.var 25 [.one (.int .i64),.one (.int .i64),.one (.whole T_bool 5),.one (.whole T_l_int 6)],.var 150 [.one (.whole T_uint64 7),.one (.mref T_map_uint64_int 8)],.var 25 [.one (.int .i64),.one (.int .i64),.one (.whole T_bool 9),.one (.whole T_l_int 10)],.arr T_bool false,.arr T_l_int false,.arr T_uint64 false,.map T_map_uint64_int,.arr T_bool false,.arr T_l_int false]⟩)])
def S118_49:Shape × List (Out × Shape):=(⟨[(1,.one (.ptrC 0 0 0)),(3,.one (.ptrC 1 0 0)),(11,.one (.int .i64)),(12,.one (.int .i64))],[.var 71 [.one (.int .i64),.one (.int .i64),.one (.int .u64),.one (.int .u64),.one (.list T_api_Edge)],.var 151 [.one (.whole T_l_uint64 2)],.nest T_l_uint64]⟩,[(.exit 0,⟨[(1,.one (.ptrC 0 0 0)),(3,.one (.ptrC 1 0 0)),(11,.one (.int .i64)),(12,.one (.int .i64)),(13,.one (.bool))],[.var 71 [.one (.int .i64),.one (.int .i64),.one (.int .u64),.one (.int .u64),.one (.list T_api_Edge)],.var 151 [.one (.whole T_l_uint64 2)],.nest T_l_uint64]⟩)])
def S118_129:Shape × List (Out × Shape):=(⟨[(3,.one (.ptrC 0 0 0)),(23,.one (.list T_api_Edge)),(24,.one (.int .i64)),(25,.one (.int .i64))],[.var 151 [.one (.whole T_l_uint64 1)],.nest T_l_uint64]⟩,[(.exit 2,⟨[(3,.one (.ptrC 0 0 0)),(23,.one (.list T_api_Edge)),(24,.one (.int .i64)),(25,.one (.int .i64)),(26,.one (.bool))],[.var 151 [.one (.whole T_l_uint64 1)],.nest T_l_uint64]⟩)])
def S122_161:Shape × List (Out × Shape):=(⟨[(0,.one (.int .i64)),(2,.fn F_dfa_Trim_1 [] [.ptrC 0 0 0]),(3,.fn F_dfa_Trim_2 [] [.ptrC 0 0 0]),(8,.one (.ptrC 1 0 0)),(11,.one (.ptrC 2 0 0)),(12,.one (.ptrC 3 0 0)),(13,.one (.int .i64)),(14,.one (.int .i64)),(15,.one (.whole T_int 4)),(36,.one (.int .i64)),(37,.one (.int .i64))],[.var 25 [.one (.int .i64),.one (.int .i64),.one (.list T_bool),.one (.list T_l_int)],.var 25 [.one (.int .i64),.one (.int .i64),.one (.whole T_bool 5),.one (.whole T_l_int 6)],.var 154 [.one (.whole T_int 7),.one (.mref T_map_int_int 8)],.var 25 [.one (.int .i64),.one (.int .i64),.one (.whole T_bool 9),.one (.whole T_l_int 10)],.arr T_int false,.arr T_bool false,.arr T_l_int false,.arr T_int false,.map T_map_int_int,.arr T_bool false,.arr T_l_int false]⟩,[(.exit 2,⟨[(0,.one (.int .i64)),(2,.fn F_dfa_Trim_1 [] [.ptrC 0 0 0]),(3,.fn F_dfa_Trim_2 [] [.ptrC 0 0 0]),(8,.one (.ptrC 1 0 0)),(11,.one (.ptrC 2 0 0)),(12,.one (.ptrC 3 0 0)),(13,.one (.int .i64)),(14,.one (.int .i64)),(15,.one (.whole T_int 4)),(36,.one (.int .i64)),(37,.one (.int .i64)),(38,.one (.bool))],[.var 25 [.one (.int .i64),.one (.int .i64),.one (.list T_bool),.one (.list T_l_int)],.var 25 [.one (.int .i64),.one (.int .i64),.one (.whole T_bool 5),.one (.whole T_l_int 6)],.var 154 [.one (.whole T_int 7),.one (.mref T_map_int_int 8)],.var 25 [.one (.int .i64),.one (.int .i64),.one (.whole T_bool 9),.one (.whole T_l_int 10)],.arr T_int false,.arr T_bool false,.arr T_l_int false,.arr T_int false,.map T_map_int_int,.arr T_bool false,.arr T_l_int false]⟩)])
def S122_81:Shape × List (Out × Shape):=(⟨[(0,.one (.int .i64)),(2,.fn F_dfa_Trim_1 [] [.ptrC 0 0 0]),(3,.fn F_dfa_Trim_2 [] [.ptrC 0 0 0]),(8,.one (.ptrC 1 0 0)),(11,.one (.ptrC 2 0 0)),(12,.one (.ptrC 3 0 0)),(13,.one (.int .i64))],[.var 25 [.one (.int .i64),.one (.int .i64),.one (.list T_bool),.one (.list T_l_int)],.var 25 [.one (.int .i64),.one (.int .i64),.one (.whole T_bool 4),.one (.whole T_l_int 5)],.var 154 [.one (.whole T_int 6),.one (.mref T_map_int_int 7)],.var 25 [.one (.int .i64),.one (.int .i64),.one (.whole T_bool 8),.one (.whole T_l_int 9)],.arr T_bool false,.arr T_l_int false,.arr T_int false,.map T_map_int_int,.arr T_bool false,.arr T_l_int false]⟩,[(.ret,⟨[(8,.one (.ptrC 1 0 0)),(9,.one (.whole T_int 4)),(10,.one (.int .i64))],[.var 25 [.one (.int .i64),.one (.int .i64),.one (.list T_bool),.one (.list T_l_int)],.var 25 [.one (.int .i64),.one (.int .i64),.one (.whole T_bool 2),.one (.whole T_l_int 3)],.arr T_bool false,.arr T_l_int false,.arr T_int false]⟩),(.exit 0,⟨[(0,.one (.int .i64)),(2,.fn F_dfa_Trim_1 [] [.ptrC 0 0 0]),(3,.fn F_dfa_Trim_2 [] [.ptrC 0 0 0]),(8,.one (.ptrC 1 0 0)),(11,.one (.ptrC 2 0 0)),(12,.one (.ptrC 3 0 0)),(13,.one (.int .i64)),(25,.one (.bool))],[.var 25 [.one (.int .i64),.one (.int .i64),.one (.list T_bool),.one (.list T_l_int)],.var 25 [.one (.int .i64),.one (.int .i64),.one (.whole T_bool 4),.one (.whole T_l_int 5)],.var 154 [.one (.whole T_int 6),.one (.mref T_map_int_int 7)],.var 25 [.one (.int .i64),.one (.int .i64),.one (.whole T_bool 8),.one (.whole T_l_int 9)],.arr T_bool false,.arr T_l_int false,.arr T_int false,.map T_map_int_int,.arr T_bool false,.arr T_l_int false]⟩)])
def S134_79:Shape × List (Out × Shape):=(⟨[(0,.one (.int .u64)),(2,.one (.int .i64)),(4,.one (.bool))],[]⟩,[(.norm,⟨[(0,.one (.int .u64)),(2,.one (.int .i64))],[]⟩)])
def S134_143:Shape × List (Out × Shape):=(⟨[(0,.one (.int .u64)),(2,.one (.int .i64)),(8,.one (.bool))],[]⟩,[(.norm,⟨[(0,.one (.int .u64)),(2,.one (.int .i64))],[]⟩)])
def S139_81:Shape × List (Out × Shape):=(⟨[(0,.one (.list T_uint64)),(5,.one (.int .u64)),(16,.one (.whole T_int 0)),(17,.one (.int .i64)),(18,.one (.int .i64))],[.arr T_int false]⟩,[(.exit 0,⟨[(0,.one (.list T_uint64)),(5,.one (.int .u64)),(16,.one (.whole T_int 0)),(17,.one (.int .i64)),(18,.one (.int .i64)),(19,.one (.bool))],[.arr T_int false]⟩)])
def S169_639:Shape × List (Out × Shape):=(⟨[(0,.one (.whole T_api_Edge 0)),(1,.one (.int .i64)),(2,.one (.int .i64)),(3,.one (.int .i64)),(4,.fn F_lang_automaton_language_1 [] []),(10,.one (.bool)),(11,.one (.bool)),(12,.one (.int .i64)),(39,.one (.bool))],[.arr T_api_Edge false]⟩,[(.norm,⟨[(0,.one (.whole T_api_Edge 0)),(1,.one (.int .i64)),(2,.one (.int .i64)),(3,.one (.int .i64)),(4,.fn F_lang_automaton_language_1 [] []),(10,.one (.bool)),(11,.one (.bool)),(12,.one (.int .i64))],[.arr T_api_Edge false]⟩)])
def S169_911:Shape × List (Out × Shape):=(⟨[(0,.one (.whole T_api_Edge 0)),(1,.one (.int .i64)),(2,.one (.int .i64)),(3,.one (.int .i64)),(4,.fn F_lang_automaton_language_1 [] []),(10,.one (.bool)),(11,.one (.bool)),(12,.one (.int .i64)),(13,.one (.int .i64)),(14,.one (.int .i64)),(56,.one (.bool))],[.arr T_api_Edge false]⟩,[(.norm,⟨[(0,.one (.whole T_api_Edge 0)),(1,.one (.int .i64)),(2,.one (.int .i64)),(3,.one (.int .i64)),(4,.fn F_lang_automaton_language_1 [] []),(10,.one (.bool)),(11,.one (.bool)),(12,.one (.int .i64)),(13,.one (.int .i64)),(14,.one (.int .i64))],[.arr T_api_Edge false]⟩)])
def S169_1215:Shape × List (Out × Shape):=(⟨[(0,.one (.whole T_api_Edge 0)),(1,.one (.int .i64)),(2,.one (.int .i64)),(3,.one (.int .i64)),(4,.fn F_lang_automaton_language_1 [] []),(10,.one (.bool)),(11,.one (.bool)),(12,.one (.int .i64)),(13,.one (.int .i64)),(75,.one (.bool))],[.arr T_api_Edge false]⟩,[(.ret,⟨[(0,.one (.whole T_api_Edge 0)),(1,.one (.int .i64)),(2,.one (.int .i64)),(3,.one (.int .i64)),(4,.fn F_lang_automaton_language_1 [] []),(10,.one (.bool)),(11,.one (.bool)),(12,.one (.int .i64)),(13,.one (.int .i64)),(80,.one (.bool))],[.arr T_api_Edge false]⟩),(.norm,⟨[(0,.one (.whole T_api_Edge 0)),(1,.one (.int .i64)),(2,.one (.int .i64)),(3,.one (.int .i64)),(4,.fn F_lang_automaton_language_1 [] []),(10,.one (.bool)),(11,.one (.bool)),(12,.one (.int .i64)),(13,.one (.int .i64))],[.arr T_api_Edge false]⟩)])
def S169_33:Shape × List (Out × Shape):=(⟨[(0,.one (.whole T_api_Edge 0)),(1,.one (.int .i64)),(2,.one (.int .i64)),(3,.one (.int .i64)),(4,.fn F_lang_automaton_language_1 [] []),(10,.one (.bool)),(11,.one (.bool))],[.arr T_api_Edge false]⟩,[(.ret,⟨[],[.arr T_api_Edge false]⟩)])
def S170_65:Shape × List (Out × Shape):=(⟨[(0,.one (.whole T_api_Edge 0)),(1,.one (.int .i64)),(2,.one (.int .i64)),(3,.fn F_lang_automaton_language_1 [] []),(8,.one (.int .i64)),(9,.one (.int .i64))],[.arr T_api_Edge false]⟩,[(.exit 2,⟨[(0,.one (.whole T_api_Edge 0)),(1,.one (.int .i64)),(2,.one (.int .i64)),(3,.fn F_lang_automaton_language_1 [] []),(8,.one (.int .i64)),(9,.one (.int .i64)),(34,.one (.bool))],[.arr T_api_Edge false]⟩)])
def S170_17:Shape × List (Out × Shape):=(⟨[(0,.one (.whole T_api_Edge 0)),(1,.one (.int .i64)),(2,.one (.int .i64)),(3,.fn F_lang_automaton_language_1 [] []),(8,.one (.int .i64))],[.arr T_api_Edge false]⟩,[(.exit 0,⟨[(0,.one (.whole T_api_Edge 0)),(1,.one (.int .i64)),(2,.one (.int .i64)),(3,.fn F_lang_automaton_language_1 [] []),(8,.one (.int .i64)),(14,.one (.bool))],[.arr T_api_Edge false]⟩)])
def S171_65:Shape × List (Out × Shape):=(⟨[(0,.one (.whole T_api_Edge 0)),(3,.fn F_lang_automaton_language_1 [] []),(8,.one (.int .i64)),(9,.one (.int .i64)),(10,.one (.int .i64)),(11,.one (.int .i64))],[.arr T_api_Edge false]⟩,[(.exit 0,⟨[(0,.one (.whole T_api_Edge 0)),(3,.fn F_lang_automaton_language_1 [] []),(8,.one (.int .i64)),(9,.one (.int .i64)),(10,.one (.int .i64)),(11,.one (.int .i64)),(21,.one (.bool))],[.arr T_api_Edge false]⟩)])
def S171_129:Shape × List (Out × Shape):=(⟨[(0,.one (.whole T_api_Edge 0)),(3,.fn F_lang_automaton_language_1 [] []),(8,.one (.int .i64)),(9,.one (.int .i64)),(12,.one (.int .i64))],[.arr T_api_Edge false]⟩,[(.exit 2,⟨[(0,.one (.whole T_api_Edge 0)),(3,.fn F_lang_automaton_language_1 [] []),(8,.one (.int .i64)),(9,.one (.int .i64)),(12,.one (.int .i64)),(33,.one (.bool))],[.arr T_api_Edge false]⟩)])
def S172_735:Shape × List (Out × Shape):=(⟨[(0,.one (.whole T_api_Edge 0)),(1,.one (.int .i64)),(8,.one (.int .i64)),(9,.one (.ptrC 1 0 0)),(10,.one (.int .u64)),(11,.one (.int .i64)),(12,.one (.int .i64)),(45,.one (.bool))],[.arr T_api_Edge false,.var 156 [.one (.int .u64)]]⟩,[(.norm,⟨[(0,.one (.whole T_api_Edge 0)),(1,.one (.int .i64)),(8,.one (.int .i64)),(9,.one (.ptrC 1 0 0)),(10,.one (.int .u64)),(11,.one (.int .i64)),(12,.one (.int .i64))],[.arr T_api_Edge false,.var 156 [.one (.int .u64)]]⟩)])
def S172_81:Shape × List (Out × Shape):=(⟨[(0,.one (.whole T_api_Edge 0)),(1,.one (.int .i64)),(8,.one (.int .i64)),(9,.one (.ptrC 1 0 0)),(10,.one (.int .u64)),(11,.one (.int .i64))],[.arr T_api_Edge false,.var 156 [.one (.int .u64)]]⟩,[(.exit 0,⟨[(0,.one (.whole T_api_Edge 0)),(1,.one (.int .i64)),(8,.one (.int .i64)),(9,.one (.ptrC 1 0 0)),(10,.one (.int .u64)),(11,.one (.int .i64)),(35,.one (.bool))],[.arr T_api_Edge false,.var 156 [.one (.int .u64)]]⟩)])
def S173_591:Shape × List (Out × Shape):=(⟨[(0,.one (.list T_api_Edge)),(3,.fn F_lang_automaton_language_1 [] []),(11,.one (.ptrC 0 0 0)),(12,.one (.int .i64)),(13,.one (.int .i64)),(14,.one (.int .i64)),(36,.one (.bool))],[.var 3 [.one (.int .i64)]]⟩,[(.norm,⟨[(0,.one (.list T_api_Edge)),(3,.fn F_lang_automaton_language_1 [] []),(11,.one (.ptrC 0 0 0)),(12,.one (.int .i64)),(13,.one (.int .i64)),(14,.one (.int .i64))],[.var 3 [.one (.int .i64)]]⟩)])
def S173_559:Shape × List (Out × Shape):=(⟨[(0,.one (.list T_api_Edge)),(3,.fn F_lang_automaton_language_1 [] []),(10,.one (.int .i64)),(11,.one (.ptrC 0 0 0)),(12,.one (.int .i64)),(13,.one (.int .i64)),(14,.one (.int .i64)),(34,.one (.bool))],[.var 3 [.one (.int .i64)]]⟩,[(.norm,⟨[(11,.one (.ptrC 0 0 0)),(13,.one (.int .i64))],[.var 3 [.one (.int .i64)]]⟩)])
def S179_33:Shape × List (Out × Shape):=(⟨[(0,.one (.whole T_api_Edge 0)),(8,.one (.int .i64)),(9,.one (.int .i64))],[.arr T_api_Edge false]⟩,[(.exit 0,⟨[(0,.one (.whole T_api_Edge 0)),(8,.one (.int .i64)),(9,.one (.int .i64)),(15,.one (.bool))],[.arr T_api_Edge false]⟩)])
def S180_81:Shape × List (Out × Shape):=(⟨[(0,.one (.whole T_api_Edge 0)),(1,.one (.int .i64)),(2,.one (.int .i64)),(3,.fn F_lang_automaton_language_1 [] []),(9,.one (.int .i64)),(10,.one (.int .i64))],[.arr T_api_Edge false]⟩,[(.exit 2,⟨[(0,.one (.whole T_api_Edge 0)),(1,.one (.int .i64)),(2,.one (.int .i64)),(3,.fn F_lang_automaton_language_1 [] []),(9,.one (.int .i64)),(10,.one (.int .i64)),(36,.one (.bool))],[.arr T_api_Edge false]⟩)])
def S180_225:Shape × List (Out × Shape):=(⟨[(0,.one (.whole T_api_Edge 0)),(1,.one (.int .i64)),(2,.one (.int .i64)),(3,.fn F_lang_automaton_language_1 [] []),(9,.one (.int .i64)),(10,.one (.int .i64)),(11,.one (.int .i64))],[.arr T_api_Edge false]⟩,[(.exit 4,⟨[(0,.one (.whole T_api_Edge 0)),(1,.one (.int .i64)),(2,.one (.int .i64)),(3,.fn F_lang_automaton_language_1 [] []),(9,.one (.int .i64)),(10,.one (.int .i64)),(11,.one (.int .i64))],[.arr T_api_Edge false]⟩)])
def S180_1055:Shape × List (Out × Shape):=(⟨[(0,.one (.whole T_api_Edge 0)),(1,.one (.int .i64)),(2,.one (.int .i64)),(3,.fn F_lang_automaton_language_1 [] []),(9,.one (.int .i64)),(10,.one (.int .i64)),(65,.one (.bool))],[.arr T_api_Edge false]⟩,[(.norm,⟨[(0,.one (.whole T_api_Edge 0)),(1,.one (.int .i64)),(2,.one (.int .i64)),(3,.fn F_lang_automaton_language_1 [] []),(9,.one (.int .i64)),(10,.one (.int .i64))],[.arr T_api_Edge false]⟩)])
def S180_321:Shape × List (Out × Shape):=(⟨[(0,.one (.whole T_api_Edge 0)),(1,.one (.int .i64)),(2,.one (.int .i64)),(3,.fn F_lang_automaton_language_1 [] []),(9,.one (.int .i64)),(10,.one (.int .i64)),(12,.one (.int .i64))],[.arr T_api_Edge false]⟩,[(.exit 6,⟨[(0,.one (.whole T_api_Edge 0)),(1,.one (.int .i64)),(2,.one (.int .i64)),(3,.fn F_lang_automaton_language_1 [] []),(9,.one (.int .i64)),(10,.one (.int .i64)),(12,.one (.int .i64))],[.arr T_api_Edge false]⟩)])
def S180_49:Shape × List (Out × Shape):=(⟨[(0,.one (.whole T_api_Edge 0)),(1,.one (.int .i64)),(2,.one (.int .i64)),(3,.fn F_lang_automaton_language_1 [] []),(9,.one (.int .i64)),(10,.one (.int .i64))],[.arr T_api_Edge false]⟩,[(.ret,⟨[(8,.one (.bool))],[.arr T_api_Edge false]⟩),(.exit 0,⟨[(0,.one (.whole T_api_Edge 0)),(1,.one (.int .i64)),(2,.one (.int .i64)),(3,.fn F_lang_automaton_language_1 [] []),(9,.one (.int .i64)),(10,.one (.int .i64)),(16,.one (.bool))],[.arr T_api_Edge false]⟩)])
def S181_49:Shape × List (Out × Shape):=(⟨[(0,.one (.whole T_api_Edge 0)),(1,.one (.int .i64)),(4,.fn F_lang_automaton_language_1 [] []),(12,.one (.int .i64)),(13,.one (.int .i64))],[.arr T_api_Edge false]⟩,[(.exit 0,⟨[(0,.one (.whole T_api_Edge 0)),(1,.one (.int .i64)),(4,.fn F_lang_automaton_language_1 [] []),(12,.one (.int .i64)),(13,.one (.int .i64)),(47,.one (.bool))],[.arr T_api_Edge false]⟩)])
def S181_81:Shape × List (Out × Shape):=(⟨[(0,.one (.whole T_api_Edge 0)),(1,.one (.int .i64)),(4,.fn F_lang_automaton_language_1 [] []),(12,.one (.int .i64)),(13,.one (.int .i64))],[.arr T_api_Edge false]⟩,[(.exit 2,⟨[(0,.one (.whole T_api_Edge 0)),(1,.one (.int .i64)),(4,.fn F_lang_automaton_language_1 [] []),(12,.one (.int .i64)),(13,.one (.int .i64)),(66,.one (.bool))],[.arr T_api_Edge false]⟩)])
def S181_209:Shape × List (Out × Shape):=(⟨[(0,.one (.whole T_api_Edge 0)),(1,.one (.int .i64)),(4,.fn F_lang_automaton_language_1 [] []),(12,.one (.int .i64)),(13,.one (.int .i64))],[.arr T_api_Edge false]⟩,[(.exit 6,⟨[(0,.one (.whole T_api_Edge 0)),(1,.one (.int .i64)),(4,.fn F_lang_automaton_language_1 [] []),(12,.one (.int .i64)),(13,.one (.int .i64)),(120,.one (.bool))],[.arr T_api_Edge false]⟩)])
def S181_241:Shape × List (Out × Shape):=(⟨[(0,.one (.whole T_api_Edge 0)),(1,.one (.int .i64)),(4,.fn F_lang_automaton_language_1 [] []),(12,.one (.int .i64)),(13,.one (.int .i64))],[.arr T_api_Edge false]⟩,[(.exit 8,⟨[(0,.one (.whole T_api_Edge 0)),(1,.one (.int .i64)),(4,.fn F_lang_automaton_language_1 [] []),(12,.one (.int .i64)),(13,.one (.int .i64)),(139,.one (.bool))],[.arr T_api_Edge false]⟩)])
def S181_210:Shape × List (Out × Shape):=(⟨[(0,.one (.whole T_api_Edge 0)),(1,.one (.int .i64)),(4,.fn F_lang_automaton_language_1 [] []),(12,.one (.int .i64)),(13,.one (.int .i64))],[.arr T_api_Edge false]⟩,[(.exit 4,⟨[(0,.one (.whole T_api_Edge 0)),(1,.one (.int .i64)),(4,.fn F_lang_automaton_language_1 [] []),(12,.one (.int .i64)),(13,.one (.int .i64)),(144,.one (.bool))],[.arr T_api_Edge false]⟩)])
def S182_49:Shape × List (Out × Shape):=(⟨[(0,.one (.whole T_api_Edge 0)),(1,.one (.int .i64)),(4,.fn F_lang_automaton_language_1 [] []),(11,.one (.int .i64)),(12,.one (.int .i64))],[.arr T_api_Edge false]⟩,[(.exit 2,⟨[(0,.one (.whole T_api_Edge 0)),(1,.one (.int .i64)),(4,.fn F_lang_automaton_language_1 [] []),(11,.one (.int .i64)),(12,.one (.int .i64)),(47,.one (.bool))],[.arr T_api_Edge false]⟩)])
def S182_81:Shape × List (Out × Shape):=(⟨[(0,.one (.whole T_api_Edge 0)),(1,.one (.int .i64)),(4,.fn F_lang_automaton_language_1 [] []),(11,.one (.int .i64)),(12,.one (.int .i64))],[.arr T_api_Edge false]⟩,[(.exit 4,⟨[(0,.one (.whole T_api_Edge 0)),(1,.one (.int .i64)),(4,.fn F_lang_automaton_language_1 [] []),(11,.one (.int .i64)),(12,.one (.int .i64)),(65,.one (.bool))],[.arr T_api_Edge false]⟩)])
def S182_50:Shape × List (Out × Shape):=(⟨[(0,.one (.whole T_api_Edge 0)),(1,.one (.int .i64)),(4,.fn F_lang_automaton_language_1 [] []),(11,.one (.int .i64)),(12,.one (.int .i64))],[.arr T_api_Edge false]⟩,[(.exit 0,⟨[(0,.one (.whole T_api_Edge 0)),(1,.one (.int .i64)),(4,.fn F_lang_automaton_language_1 [] []),(11,.one (.int .i64)),(12,.one (.int .i64)),(70,.one (.bool))],[.arr T_api_Edge false]⟩)])
def annFid:List (Nat × FuncId):=[(9,F_semigrouplaw10_LangMorgan),
 (16,F_semigroupref07_Validate),
 (19,F_semigrouplaw10_awake),
 (24,F_semigroupref07_Pair),
 (26,F_semigrouplaw10_both),
 (28,F_lang_Combine),
 (39,F_dfa_Complement),
 (40,F_dfa_Validate),
 (41,F_semigroupref07_Same),
 (44,F_dfa_Accepts),
 (51,F_lang_Superwords),
 (54,F_minimize_Minimal),
 (55,F_semigroupref01_MayLetters),
 (56,F_lang_minimal),
 (57,F_word_Valid),
 (58,F_dfa_Run),
 (59,F_semigrouplaw10_odd),
 (61,F_lang_begin),
 (62,F_lang_automaton_edge),
 (63,F_lang_automaton_start),
 (64,F_lang_automaton_finals),
 (65,F_lang_automaton_language),
 (68,F_lang_both),
 (69,F_lang_automaton_final),
 (71,F_dfa_Product),
 (73,F_lang_automaton_copy),
 (79,F_lang_language),
 (83,F_relation_Members),
 (84,F_semigroupref08_Classes),
 (86,F_minimize_minimal),
 (87,F_slices_SortFunc___api_Edge_api_Edge_),
 (88,F_lang_automaton_language_1),
 (89,F_cmp_Or_int_),
 (90,F_cmp_Compare_int_),
 (91,F_slices_Compact___api_Edge_api_Edge_),
 (94,F_dfa_explore__2_int_),
 (95,F_dfa_Product_1),
 (96,F_dfa_Product_2),
 (99,F_dfa_Subset),
 (100,F_nfa_Validate),
 (101,F_nfa_compareEdges),
 (102,F_relation_Valid),
 (103,F_bits_TrailingZeros64),
 (104,F_semigroupref08_number),
 (105,F_semigroupref08_both),
 (106,F_semigroupref03_Same),
 (108,F_dfa_Trim),
 (109,F_minimize_Classes),
 (111,F_bits_Len),
 (112,F_cmp_isNaN_int_),
 (116,F_dfa_numbering__2_int__of),
 (117,F_dfa_explore_uint64_),
 (118,F_dfa_steps),
 (119,F_dfa_Subset_1),
 (120,F_nfa_states),
 (121,F_relation_points),
 (122,F_dfa_explore_int_),
 (123,F_dfa_Trim_1),
 (124,F_dfa_Trim_2),
 (134,F_bits_Len64),
 (137,F_dfa_numbering_uint64__of),
 (138,F_dfa_steps_1),
 (139,F_relation_Image),
 (140,F_dfa_numbering_int__of),
 (167,F_dfa_numbering_int__of),
 (169,F_slices_pdqsortCmpFunc_api_Edge_),
 (170,F_slices_insertionSortCmpFunc_api_Edge_),
 (171,F_slices_heapSortCmpFunc_api_Edge_),
 (172,F_slices_breakPatternsCmpFunc_api_Edge_),
 (173,F_slices_choosePivotCmpFunc_api_Edge_),
 (178,F_dfa_numbering__2_int__of),
 (179,F_slices_reverseRangeCmpFunc_api_Edge_),
 (180,F_slices_partialInsertionSortCmpFunc_api_Edge_),
 (181,F_slices_partitionCmpFunc_api_Edge_),
 (182,F_slices_partitionEqualCmpFunc_api_Edge_),
 (183,F_dfa_numbering_uint64__of)]
def annSin:List (Nat × Shape):=[(9,⟨[(0,.agg [.int .i64,.int .i64,.list T_bool,.list T_l_int]),(1,.agg [.int .i64,.int .i64,.list T_bool,.list T_l_int]),(2,.agg [.int .i64,.int .i64,.list T_bool,.list T_l_int])],[]⟩),
 (16,⟨[(0,.agg [.int .i64,.int .i64,.list T_bool,.list T_l_int])],[]⟩),
 (19,⟨[],[]⟩),
 (24,⟨[(0,.agg [.int .i64,.int .i64,.list T_bool,.list T_l_int]),(1,.agg [.int .i64,.int .i64,.list T_bool,.list T_l_int])],[]⟩),
 (26,⟨[(0,.agg [.int .i64,.int .i64,.list T_bool,.list T_l_int]),(1,.agg [.int .i64,.int .i64,.list T_bool,.list T_l_int]),(2,.one (.int .i64))],[]⟩),
 (28,⟨[(0,.agg [.int .i64,.int .i64,.list T_bool,.list T_l_int]),(1,.agg [.int .i64,.int .i64,.list T_bool,.list T_l_int]),(2,.one (.int .i64))],[]⟩),
 (39,⟨[(0,.agg [.int .i64,.int .i64,.list T_bool,.list T_l_int])],[]⟩),
 (40,⟨[(0,.agg [.int .i64,.int .i64,.list T_bool,.list T_l_int])],[]⟩),
 (41,⟨[(0,.agg [.int .i64,.int .i64,.list T_bool,.list T_l_int]),(1,.agg [.int .i64,.int .i64,.list T_bool,.list T_l_int])],[]⟩),
 (44,⟨[(0,.agg [.int .i64,.int .i64,.list T_bool,.list T_l_int]),(1,.one (.str))],[]⟩),
 (51,⟨[(0,.agg [.int .i64,.int .i64,.list T_bool,.list T_l_int])],[]⟩),
 (54,⟨[(0,.agg [.int .i64,.int .i64,.list T_bool,.list T_l_int])],[]⟩),
 (55,⟨[(0,.one (.int .i64))],[]⟩),
 (56,⟨[(0,.agg [.int .i64,.int .i64,.list T_bool,.list T_l_int])],[]⟩),
 (57,⟨[(0,.one (.str)),(1,.one (.int .i64))],[]⟩),
 (58,⟨[(0,.agg [.int .i64,.int .i64,.list T_bool,.list T_l_int]),(1,.one (.int .i64)),(2,.one (.str))],[]⟩),
 (59,⟨[],[]⟩),
 (61,⟨[(0,.one (.int .i64)),(1,.one (.int .i64))],[]⟩),
 (62,⟨[(0,.one (.ptrC 0 0 0)),(1,.one (.int .i64)),(2,.one (.int .i64)),(3,.one (.int .i64))],[.var 95 [.one (.int .i64),.one (.int .i64),.one (.int .u64),.one (.int .u64),.one (.whole T_api_Edge 1)],.arr T_api_Edge false]⟩),
 (63,⟨[(0,.one (.ptrC 0 0 0)),(1,.one (.int .i64))],[.var 95 [.one (.int .i64),.one (.int .i64),.one (.int .u64),.one (.int .u64),.one (.whole T_api_Edge 1)],.arr T_api_Edge false]⟩),
 (64,⟨[(0,.one (.ptrC 0 0 0)),(1,.one (.list T_bool)),(2,.one (.int .i64))],[.var 95 [.one (.int .i64),.one (.int .i64),.one (.int .u64),.one (.int .u64),.one (.whole T_api_Edge 1)],.arr T_api_Edge false]⟩),
 (65,⟨[(0,.one (.ptrC 0 0 0))],[.var 95 [.one (.int .i64),.one (.int .i64),.one (.int .u64),.one (.int .u64),.one (.whole T_api_Edge 1)],.arr T_api_Edge false]⟩),
 (68,⟨[(0,.agg [.int .i64,.int .i64,.list T_bool,.list T_l_int]),(1,.agg [.int .i64,.int .i64,.list T_bool,.list T_l_int])],[]⟩),
 (69,⟨[(0,.one (.ptrC 0 0 0)),(1,.one (.int .i64))],[.var 95 [.one (.int .i64),.one (.int .i64),.one (.int .u64),.one (.int .u64),.one (.whole T_api_Edge 1)],.arr T_api_Edge false]⟩),
 (71,⟨[(0,.agg [.int .i64,.int .i64,.list T_bool,.list T_l_int]),(1,.agg [.int .i64,.int .i64,.list T_bool,.list T_l_int]),(2,.one (.int .i64))],[]⟩),
 (73,⟨[(0,.one (.ptrC 0 0 0)),(1,.agg [.int .i64,.int .i64,.list T_bool,.list T_l_int]),(2,.one (.int .i64))],[.var 95 [.one (.int .i64),.one (.int .i64),.one (.int .u64),.one (.int .u64),.one (.whole T_api_Edge 1)],.arr T_api_Edge false]⟩),
 (79,⟨[(0,.agg [.int .i64,.int .i64,.int .u64,.int .u64,.list T_api_Edge])],[]⟩),
 (83,⟨[(0,.one (.int .u64))],[]⟩),
 (84,⟨[(0,.agg [.int .i64,.int .i64,.list T_bool,.list T_l_int])],[]⟩),
 (86,⟨[(0,.agg [.int .i64,.int .i64,.list T_bool,.list T_l_int])],[]⟩),
 (87,⟨[(0,.one (.whole T_api_Edge 0)),(1,.fn F_lang_automaton_language_1 [] [])],[.arr T_api_Edge false]⟩),
 (88,⟨[(0,.agg [.int .i64,.int .i64,.int .i64]),(1,.agg [.int .i64,.int .i64,.int .i64])],[]⟩),
 (89,⟨[(0,.one (.list T_int))],[]⟩),
 (90,⟨[(0,.one (.int .i64)),(1,.one (.int .i64))],[]⟩),
 (91,⟨[(0,.one (.whole T_api_Edge 0))],[.arr T_api_Edge false]⟩),
 (94,⟨[(0,.one (.int .i64)),(1,.agg [.int .i64,.int .i64]),(2,.fn F_dfa_Product_1 [] [.ptrC 0 0 0,.ptrC 1 0 0]),(3,.fn F_dfa_Product_2 [] [.ptrC 0 0 0,.ptrC 1 0 0,.ptrC 2 0 0])],[.var 25 [.one (.int .i64),.one (.int .i64),.one (.list T_bool),.one (.list T_l_int)],.var 25 [.one (.int .i64),.one (.int .i64),.one (.list T_bool),.one (.list T_l_int)],.var 3 [.one (.int .i64)]]⟩),
 (95,⟨[(0,.agg [.int .i64,.int .i64]),(1,.one (.int .i64)),(2,.one (.ptrC 0 0 0)),(3,.one (.ptrC 1 0 0))],[.var 25 [.one (.int .i64),.one (.int .i64),.one (.list T_bool),.one (.list T_l_int)],.var 25 [.one (.int .i64),.one (.int .i64),.one (.list T_bool),.one (.list T_l_int)]]⟩),
 (96,⟨[(0,.agg [.int .i64,.int .i64]),(1,.one (.ptrC 0 0 0)),(2,.one (.ptrC 1 0 0)),(3,.one (.ptrC 2 0 0))],[.var 25 [.one (.int .i64),.one (.int .i64),.one (.list T_bool),.one (.list T_l_int)],.var 25 [.one (.int .i64),.one (.int .i64),.one (.list T_bool),.one (.list T_l_int)],.var 3 [.one (.int .i64)]]⟩),
 (99,⟨[(0,.agg [.int .i64,.int .i64,.int .u64,.int .u64,.list T_api_Edge])],[]⟩),
 (100,⟨[(0,.agg [.int .i64,.int .i64,.int .u64,.int .u64,.list T_api_Edge])],[]⟩),
 (101,⟨[(0,.agg [.int .i64,.int .i64,.int .i64]),(1,.agg [.int .i64,.int .i64,.int .i64])],[]⟩),
 (102,⟨[(0,.one (.list T_uint64))],[]⟩),
 (103,⟨[(0,.one (.int .u64))],[]⟩),
 (104,⟨[(0,.one (.list T_int))],[]⟩),
 (105,⟨[(0,.one (.list T_int)),(1,.one (.list T_int))],[]⟩),
 (106,⟨[(0,.one (.list T_int)),(1,.one (.list T_int))],[]⟩),
 (108,⟨[(0,.agg [.int .i64,.int .i64,.list T_bool,.list T_l_int])],[]⟩),
 (109,⟨[(0,.agg [.int .i64,.int .i64,.list T_bool,.list T_l_int])],[]⟩),
 (111,⟨[(0,.one (.int .u64))],[]⟩),
 (112,⟨[(0,.one (.int .i64))],[]⟩),
 (116,⟨[(0,.one (.ptrC 0 0 0)),(1,.agg [.int .i64,.int .i64])],[.var 125 [.one (.whole T__2_int 1),.one (.nilM T_map__2_int_int)],.arr T__2_int false]⟩),
 (117,⟨[(0,.one (.int .i64)),(1,.one (.int .u64)),(2,.fn F_dfa_steps_1 [] [.ptrC 0 0 0]),(3,.fn F_dfa_Subset_1 [] [.ptrC 1 0 0])],[.var 151 [.one (.list T_l_uint64)],.var 71 [.one (.int .i64),.one (.int .i64),.one (.int .u64),.one (.int .u64),.one (.list T_api_Edge)]]⟩),
 (118,⟨[(0,.agg [.int .i64,.int .i64,.int .u64,.int .u64,.list T_api_Edge])],[]⟩),
 (119,⟨[(0,.one (.int .u64)),(1,.one (.ptrC 0 0 0))],[.var 71 [.one (.int .i64),.one (.int .i64),.one (.int .u64),.one (.int .u64),.one (.list T_api_Edge)]]⟩),
 (120,⟨[(0,.one (.int .i64))],[]⟩),
 (121,⟨[(0,.one (.int .i64))],[]⟩),
 (122,⟨[(0,.one (.int .i64)),(1,.one (.int .i64)),(2,.fn F_dfa_Trim_1 [] [.ptrC 0 0 0]),(3,.fn F_dfa_Trim_2 [] [.ptrC 0 0 0])],[.var 25 [.one (.int .i64),.one (.int .i64),.one (.list T_bool),.one (.list T_l_int)]]⟩),
 (123,⟨[(0,.one (.int .i64)),(1,.one (.int .i64)),(2,.one (.ptrC 0 0 0))],[.var 25 [.one (.int .i64),.one (.int .i64),.one (.list T_bool),.one (.list T_l_int)]]⟩),
 (124,⟨[(0,.one (.int .i64)),(1,.one (.ptrC 0 0 0))],[.var 25 [.one (.int .i64),.one (.int .i64),.one (.list T_bool),.one (.list T_l_int)]]⟩),
 (134,⟨[(0,.one (.int .u64))],[]⟩),
 (137,⟨[(0,.one (.ptrC 0 0 0)),(1,.one (.int .u64))],[.var 150 [.one (.whole T_uint64 1),.one (.nilM T_map_uint64_int)],.arr T_uint64 false]⟩),
 (138,⟨[(0,.one (.int .u64)),(1,.one (.int .i64)),(2,.one (.ptrC 0 0 0))],[.var 151 [.one (.list T_l_uint64)]]⟩),
 (139,⟨[(0,.one (.list T_uint64)),(1,.one (.int .u64))],[]⟩),
 (140,⟨[(0,.one (.ptrC 0 0 0)),(1,.one (.int .i64))],[.var 154 [.one (.whole T_int 1),.one (.nilM T_map_int_int)],.arr T_int false]⟩),
 (167,⟨[(0,.one (.ptrC 0 0 0)),(1,.one (.int .i64))],[.var 154 [.one (.whole T_int 1),.one (.mref T_map_int_int 2)],.arr T_int false,.map T_map_int_int]⟩),
 (169,⟨[(0,.one (.whole T_api_Edge 0)),(1,.one (.int .i64)),(2,.one (.int .i64)),(3,.one (.int .i64)),(4,.fn F_lang_automaton_language_1 [] [])],[.arr T_api_Edge false]⟩),
 (170,⟨[(0,.one (.whole T_api_Edge 0)),(1,.one (.int .i64)),(2,.one (.int .i64)),(3,.fn F_lang_automaton_language_1 [] [])],[.arr T_api_Edge false]⟩),
 (171,⟨[(0,.one (.whole T_api_Edge 0)),(1,.one (.int .i64)),(2,.one (.int .i64)),(3,.fn F_lang_automaton_language_1 [] [])],[.arr T_api_Edge false]⟩),
 (172,⟨[(0,.one (.whole T_api_Edge 0)),(1,.one (.int .i64)),(2,.one (.int .i64)),(3,.fn F_lang_automaton_language_1 [] [])],[.arr T_api_Edge false]⟩),
 (173,⟨[(0,.one (.list T_api_Edge)),(1,.one (.int .i64)),(2,.one (.int .i64)),(3,.fn F_lang_automaton_language_1 [] [])],[]⟩),
 (178,⟨[(0,.one (.ptrC 0 0 0)),(1,.agg [.int .i64,.int .i64])],[.var 125 [.one (.whole T__2_int 1),.one (.mref T_map__2_int_int 2)],.arr T__2_int false,.map T_map__2_int_int]⟩),
 (179,⟨[(0,.one (.whole T_api_Edge 0)),(1,.one (.int .i64)),(2,.one (.int .i64)),(3,.fn F_lang_automaton_language_1 [] [])],[.arr T_api_Edge false]⟩),
 (180,⟨[(0,.one (.whole T_api_Edge 0)),(1,.one (.int .i64)),(2,.one (.int .i64)),(3,.fn F_lang_automaton_language_1 [] [])],[.arr T_api_Edge false]⟩),
 (181,⟨[(0,.one (.whole T_api_Edge 0)),(1,.one (.int .i64)),(2,.one (.int .i64)),(3,.one (.int .i64)),(4,.fn F_lang_automaton_language_1 [] [])],[.arr T_api_Edge false]⟩),
 (182,⟨[(0,.one (.whole T_api_Edge 0)),(1,.one (.int .i64)),(2,.one (.int .i64)),(3,.one (.int .i64)),(4,.fn F_lang_automaton_language_1 [] [])],[.arr T_api_Edge false]⟩),
 (183,⟨[(0,.one (.ptrC 0 0 0)),(1,.one (.int .u64))],[.var 150 [.one (.whole T_uint64 1),.one (.mref T_map_uint64_int 2)],.arr T_uint64 false,.map T_map_uint64_int]⟩)]
def annSout:List (Nat × Shape):=[(9,⟨[(0,.one (.bool))],[]⟩),
 (16,⟨[(0,.one (.int .i64))],[]⟩),
 (19,⟨[(0,.one (.bool))],[]⟩),
 (24,⟨[(0,.one (.int .i64))],[]⟩),
 (26,⟨[(0,.one (.bool))],[]⟩),
 (28,⟨[(0,.agg [.int .i64,.int .i64,.whole T_bool 0,.whole T_l_int 1]),(1,.one (.int .i64))],[.arr T_bool false,.arr T_l_int false]⟩),
 (39,⟨[(0,.agg [.int .i64,.int .i64,.whole T_bool 0,.whole T_l_int 1])],[.arr T_bool false,.arr T_l_int false]⟩),
 (40,⟨[(0,.one (.int .i64))],[]⟩),
 (41,⟨[(0,.one (.bool))],[]⟩),
 (44,⟨[(0,.one (.bool))],[]⟩),
 (51,⟨[(0,.agg [.int .i64,.int .i64,.whole T_bool 0,.whole T_l_int 1]),(1,.one (.int .i64))],[.arr T_bool false,.arr T_l_int false]⟩),
 (54,⟨[(0,.agg [.int .i64,.int .i64,.whole T_bool 0,.whole T_l_int 1])],[.arr T_bool false,.arr T_l_int false]⟩),
 (55,⟨[(0,.one (.bool))],[]⟩),
 (56,⟨[(0,.agg [.int .i64,.int .i64,.whole T_bool 0,.whole T_l_int 1]),(1,.one (.int .i64))],[.arr T_bool false,.arr T_l_int false]⟩),
 (57,⟨[(0,.one (.bool))],[]⟩),
 (58,⟨[(0,.one (.int .i64))],[]⟩),
 (59,⟨[(0,.agg [.int .i64,.int .i64,.whole T_bool 0,.whole T_l_int 1])],[.arr T_bool false,.arr T_l_int false]⟩),
 (61,⟨[(0,.one (.ptrC 0 0 0)),(1,.one (.intC .i64 0))],[.var 95 [.one (.int .i64),.one (.int .i64),.one (.int .u64),.one (.int .u64),.one (.whole T_api_Edge 1)],.arr T_api_Edge false]⟩),
 (62,⟨[],[.var 95 [.one (.int .i64),.one (.int .i64),.one (.int .u64),.one (.int .u64),.one (.whole T_api_Edge 2)],.dead,.arr T_api_Edge false]⟩),
 (63,⟨[],[.var 95 [.one (.int .i64),.one (.int .i64),.one (.int .u64),.one (.int .u64),.one (.whole T_api_Edge 2)],.dead,.arr T_api_Edge false]⟩),
 (64,⟨[],[.var 95 [.one (.int .i64),.one (.int .i64),.one (.int .u64),.one (.int .u64),.one (.whole T_api_Edge 2)],.dead,.arr T_api_Edge false]⟩),
 (65,⟨[(0,.agg [.int .i64,.int .i64,.whole T_bool 2,.whole T_l_int 3]),(1,.one (.int .i64))],[.var 95 [.one (.int .i64),.one (.int .i64),.one (.int .u64),.one (.int .u64),.one (.list T_api_Edge)],.dead,.arr T_bool false,.arr T_l_int false]⟩),
 (68,⟨[(0,.agg [.int .i64,.int .i64,.whole T_bool 0,.whole T_l_int 1]),(1,.agg [.int .i64,.int .i64,.whole T_bool 2,.whole T_l_int 3]),(2,.one (.int .i64))],[.arr T_bool false,.arr T_l_int false,.arr T_bool false,.arr T_l_int false]⟩),
 (69,⟨[],[.var 95 [.one (.int .i64),.one (.int .i64),.one (.int .u64),.one (.int .u64),.one (.whole T_api_Edge 2)],.dead,.arr T_api_Edge false]⟩),
 (71,⟨[(0,.agg [.int .i64,.int .i64,.whole T_bool 0,.whole T_l_int 1]),(1,.one (.int .i64))],[.arr T_bool false,.arr T_l_int false]⟩),
 (73,⟨[],[.var 95 [.one (.int .i64),.one (.int .i64),.one (.int .u64),.one (.int .u64),.one (.whole T_api_Edge 2)],.dead,.arr T_api_Edge false]⟩),
 (79,⟨[(0,.agg [.int .i64,.int .i64,.whole T_bool 0,.whole T_l_int 1]),(1,.one (.int .i64))],[.arr T_bool false,.arr T_l_int false]⟩),
 (83,⟨[(0,.one (.whole T_int 0))],[.arr T_int false]⟩),
 (84,⟨[(0,.one (.list T_int))],[]⟩),
 (86,⟨[(0,.agg [.int .i64,.int .i64,.whole T_bool 0,.whole T_l_int 1]),(1,.one (.whole T_int 2))],[.arr T_bool false,.arr T_l_int false,.arr T_int false]⟩),
 (87,⟨[],[.arr T_api_Edge false]⟩),
 (88,⟨[(0,.one (.int .i64))],[]⟩),
 (89,⟨[(0,.one (.int .i64))],[]⟩),
 (90,⟨[(0,.one (.int .i64))],[]⟩),
 (91,⟨[(0,.one (.whole T_api_Edge 1))],[.dead,.arr T_api_Edge false]⟩),
 (94,⟨[(0,.agg [.int .i64,.int .i64,.whole T_bool 3,.whole T_l_int 4]),(1,.one (.whole T__2_int 5)),(2,.one (.int .i64))],[.var 25 [.one (.int .i64),.one (.int .i64),.one (.list T_bool),.one (.list T_l_int)],.var 25 [.one (.int .i64),.one (.int .i64),.one (.list T_bool),.one (.list T_l_int)],.var 3 [.one (.int .i64)],.arr T_bool false,.arr T_l_int false,.arr T__2_int false]⟩),
 (95,⟨[(0,.agg [.int .i64,.int .i64])],[.var 25 [.one (.int .i64),.one (.int .i64),.one (.list T_bool),.one (.list T_l_int)],.var 25 [.one (.int .i64),.one (.int .i64),.one (.list T_bool),.one (.list T_l_int)]]⟩),
 (96,⟨[(0,.one (.bool))],[.var 25 [.one (.int .i64),.one (.int .i64),.one (.list T_bool),.one (.list T_l_int)],.var 25 [.one (.int .i64),.one (.int .i64),.one (.list T_bool),.one (.list T_l_int)],.var 3 [.one (.int .i64)]]⟩),
 (99,⟨[(0,.agg [.int .i64,.int .i64,.whole T_bool 0,.whole T_l_int 1]),(1,.one (.whole T_uint64 2)),(2,.one (.int .i64))],[.arr T_bool false,.arr T_l_int false,.arr T_uint64 false]⟩),
 (100,⟨[(0,.one (.int .i64))],[]⟩),
 (101,⟨[(0,.one (.int .i64))],[]⟩),
 (102,⟨[(0,.one (.bool))],[]⟩),
 (103,⟨[(0,.one (.int .i64))],[]⟩),
 (104,⟨[(0,.one (.whole T_int 0))],[.arr T_int false]⟩),
 (105,⟨[(0,.one (.whole T_int 0))],[.arr T_int false]⟩),
 (106,⟨[(0,.one (.bool))],[]⟩),
 (108,⟨[(0,.agg [.int .i64,.int .i64,.whole T_bool 0,.whole T_l_int 1]),(1,.one (.whole T_int 2))],[.arr T_bool false,.arr T_l_int false,.arr T_int false]⟩),
 (109,⟨[(0,.one (.whole T_int 0))],[.arr T_int false]⟩),
 (111,⟨[(0,.one (.int .i64))],[]⟩),
 (112,⟨[(0,.one (.bool))],[]⟩),
 (116,⟨[(0,.one (.int .i64))],[.var 125 [.one (.whole T__2_int 2),.one (.mref T_map__2_int_int 3)],.dead,.arr T__2_int false,.map T_map__2_int_int]⟩),
 (117,⟨[(0,.agg [.int .i64,.int .i64,.whole T_bool 2,.whole T_l_int 3]),(1,.one (.whole T_uint64 4)),(2,.one (.int .i64))],[.var 151 [.one (.list T_l_uint64)],.var 71 [.one (.int .i64),.one (.int .i64),.one (.int .u64),.one (.int .u64),.one (.list T_api_Edge)],.arr T_bool false,.arr T_l_int false,.arr T_uint64 false]⟩),
 (118,⟨[(0,.fn F_dfa_steps_1 [] [.ptrC 0 0 0])],[.var 151 [.one (.list T_l_uint64)]]⟩),
 (119,⟨[(0,.one (.bool))],[.var 71 [.one (.int .i64),.one (.int .i64),.one (.int .u64),.one (.int .u64),.one (.list T_api_Edge)]]⟩),
 (120,⟨[(0,.one (.int .u64))],[]⟩),
 (121,⟨[(0,.one (.int .u64))],[]⟩),
 (122,⟨[(0,.agg [.int .i64,.int .i64,.whole T_bool 1,.whole T_l_int 2]),(1,.one (.whole T_int 3)),(2,.one (.int .i64))],[.var 25 [.one (.int .i64),.one (.int .i64),.one (.list T_bool),.one (.list T_l_int)],.arr T_bool false,.arr T_l_int false,.arr T_int false]⟩),
 (123,⟨[(0,.one (.int .i64))],[.var 25 [.one (.int .i64),.one (.int .i64),.one (.list T_bool),.one (.list T_l_int)]]⟩),
 (124,⟨[(0,.one (.bool))],[.var 25 [.one (.int .i64),.one (.int .i64),.one (.list T_bool),.one (.list T_l_int)]]⟩),
 (134,⟨[(0,.one (.int .i64))],[]⟩),
 (137,⟨[(0,.one (.int .i64))],[.var 150 [.one (.whole T_uint64 2),.one (.mref T_map_uint64_int 3)],.dead,.arr T_uint64 false,.map T_map_uint64_int]⟩),
 (138,⟨[(0,.one (.int .u64))],[.var 151 [.one (.list T_l_uint64)]]⟩),
 (139,⟨[(0,.one (.int .u64))],[]⟩),
 (140,⟨[(0,.one (.int .i64))],[.var 154 [.one (.whole T_int 2),.one (.mref T_map_int_int 3)],.dead,.arr T_int false,.map T_map_int_int]⟩),
 (167,⟨[(0,.one (.int .i64))],[.var 154 [.one (.whole T_int 3),.one (.mref T_map_int_int 2)],.dead,.map T_map_int_int,.arr T_int false]⟩),
 (169,⟨[],[.arr T_api_Edge false]⟩),
 (170,⟨[],[.arr T_api_Edge false]⟩),
 (171,⟨[],[.arr T_api_Edge false]⟩),
 (172,⟨[],[.arr T_api_Edge false]⟩),
 (173,⟨[(0,.one (.int .i64)),(1,.one (.int .i64))],[]⟩),
 (178,⟨[(0,.one (.int .i64))],[.var 125 [.one (.whole T__2_int 3),.one (.mref T_map__2_int_int 2)],.dead,.map T_map__2_int_int,.arr T__2_int false]⟩),
 (179,⟨[],[.arr T_api_Edge false]⟩),
 (180,⟨[(0,.one (.bool))],[.arr T_api_Edge false]⟩),
 (181,⟨[(0,.one (.int .i64)),(1,.one (.bool))],[.arr T_api_Edge false]⟩),
 (182,⟨[(0,.one (.int .i64))],[.arr T_api_Edge false]⟩),
 (183,⟨[(0,.one (.int .i64))],[.var 150 [.one (.whole T_uint64 3),.one (.mref T_map_uint64_int 2)],.dead,.map T_map_uint64_int,.arr T_uint64 false]⟩)]
def annAlt:List (Nat × Shape):=[(61,⟨[(0,.one (.nilp)),(1,.one (.intC .i64 3))],[]⟩),
 (91,⟨[(0,.one (.whole T_api_Edge 0))],[.arr T_api_Edge false]⟩)]
def annLive:List (Nat × List (Nat × List Nat)):=[(9,[(0,[3,4,5]),(1,[3,4,5,30]),(2,[6]),(3,[3,4,5,7,8]),(4,[3,4,5,7,8,9,10]),(5,[3,4,5,7,8,9,10,11,12]),(6,[3,5,7,8,9,10,11,12,13,14]),(7,[3,7,8,9,10,11,12,13,14,15,16]),(8,[3,11,13,15,92]),(9,[6]),(10,[13,15,17,18]),(11,[17,18,19,20]),(12,[6])]),
 (16,[(0,[1]),(1,[1,3]),(2,[1,3,14]),(3,[2]),(4,[1,3,16]),(5,[2]),(6,[1,3,36]),(7,[2]),(8,[1,3,38,39,40]),(9,[1,3,38,39,40,41]),(10,[1,3,5,38,39,40]),(11,[1,3,5,38,39,40,48]),(12,[2]),(13,[1,3,38,39,40,49,50,51]),(14,[1,3,38,39,40,49,50,51,52]),(15,[1,3,7,38,39,40,49,50,51]),(16,[1,3,38,39,40,49,50,51,61]),(17,[2]),(18,[1,3,38,39,40,49,50,51]),(19,[1,3,38,39,40]),(20,[2])]),
 (19,[(0,[]),(1,[1,2]),(2,[0])]),
 (24,[(0,[2,3]),(1,[2,3,5]),(2,[2,3,5,10]),(3,[4]),(4,[2,3,6]),(5,[2,3,6,15]),(6,[4]),(7,[21]),(8,[4]),(9,[4])]),
 (26,[(0,[2,3,4]),(1,[6])]),
 (28,[(0,[2,3,4,6]),(1,[2,6,8,9,10]),(2,[2,6,8,9,10,20]),(3,[6,7]),(4,[6,10,11]),(5,[6,10,11,31]),(6,[6,7]),(7,[6,7])]),
 (39,[(0,[1,2]),(1,[1,2,8]),(2,[2]),(3,[1,2,3]),(4,[1,2,3,16,17,18]),(5,[1,2,3,16,17,18,19]),(6,[1,2,3,4,5,16,17,18]),(7,[1,2,3,4,16,17,18]),(8,[1,2,3,16,17,18]),(9,[1,2,3,16,17,18]),(10,[2])]),
 (40,[(0,[1]),(1,[1,15]),(2,[2]),(3,[1,3]),(4,[1,3,20]),(5,[2]),(6,[1,3,36]),(7,[2]),(8,[1,3,38,39,40]),(9,[1,3,38,39,40,41]),(10,[1,3,5,38,39,40]),(11,[1,3,5,38,39,40,48]),(12,[2]),(13,[1,3,38,39,40,49,50,51]),(14,[1,3,38,39,40,49,50,51,52]),(15,[1,3,7,38,39,40,49,50,51]),(16,[1,3,38,39,40,49,50,51,61]),(17,[2]),(18,[1,3,38,39,40,49,50,51]),(19,[1,3,38,39,40]),(20,[2])]),
 (41,[(0,[2,3]),(1,[2,3,37]),(2,[4]),(3,[2,3,40,41]),(4,[2,3,40,41,42]),(5,[2,3,5,40,41]),(6,[2,3,40,41,54]),(7,[4]),(8,[2,3,40,41]),(9,[2,3,58,59]),(10,[2,3,58,59,60]),(11,[2,3,6,58,59]),(12,[2,3,6,58,59,74]),(13,[4]),(14,[2,3,6,58,59,80,81]),(15,[2,3,6,58,59,80,81,82]),(16,[2,3,6,7,58,59,80,81]),(17,[2,3,6,58,59,80,81,100]),(18,[4]),(19,[2,3,6,58,59,80,81]),(20,[2,3,58,59]),(21,[4])]),
 (44,[(0,[1,2]),(1,[2,5]),(2,[4])]),
 (51,[(0,[1,2]),(1,[1,2,4,5]),(2,[1,2,4,5,15]),(3,[2,3]),(4,[1,2,4,5,6]),(5,[1,2,4,5,6,28]),(6,[2,3]),(7,[1,2,4,6]),(8,[1,2,4,6,36,37]),(9,[1,2,4,6,36,37,38]),(10,[1,2,4,6,7,36,37]),(11,[1,2,4,6,7,36,37,41,42]),(12,[1,2,4,6,7,36,37,41,42,43]),(13,[1,2,4,6,7,8,36,37,41,42]),(14,[1,2,4,6,7,36,37,41,42]),(15,[1,2,4,6,7,36,37,41,42]),(16,[1,2,4,6,36,37]),(17,[2,4,6]),(18,[2,6]),(19,[2,3])]),
 (54,[(0,[1,2]),(1,[1,2,7]),(2,[2]),(3,[2,3]),(4,[2])]),
 (55,[(0,[0]),(1,[2])]),
 (56,[(0,[1,2]),(1,[1,2,4]),(2,[1,2,4,8]),(3,[2,3]),(4,[2,3])]),
 (57,[(0,[0,1]),(1,[0,1,16]),(2,[4]),(3,[0,1,18,19]),(4,[0,1,18,19,20]),(5,[0,1,5,18,19]),(6,[0,1,18,19,34]),(7,[4]),(8,[0,1,18,19]),(9,[4])]),
 (58,[(0,[1,2,3]),(1,[1,2,3,28]),(2,[6]),(3,[1,2,3,30,31]),(4,[1,2,3,30,31,32]),(5,[1,2,3,7,30,31]),(6,[1,2,3,30,31]),(7,[1,2,3,30,31]),(8,[6])]),
 (59,[(0,[0]),(1,[0])]),
 (61,[(0,[0,1]),(1,[0,1,7]),(2,[4,5]),(3,[4,5])]),
 (62,[(0,[])]),
 (63,[(0,[])]),
 (64,[(0,[0,2,8,9,10]),(1,[0,2,8,9,10,11]),(2,[0,2,6,7,8,9,10]),(3,[0,2,6,8,9,10,15]),(4,[0,2,8,9,10]),(5,[0,2,8,9,10])]),
 (65,[(0,[0,2]),(1,[0,2]),(2,[0,2]),(3,[2,3])]),
 (68,[(0,[2,3,4,5]),(1,[2,3,4,5,7]),(2,[2,3,4,5,7,12]),(3,[4,5,6]),(4,[2,3,4,5,8]),(5,[2,3,4,5,8,19]),(6,[4,5,6]),(7,[2,3,4,5,27]),(8,[4,5,6]),(9,[4,5,6])]),
 (69,[(0,[])]),
 (71,[(0,[3,4,5,6]),(1,[3,4,5,6,8]),(2,[3,4,5,6,8,16]),(3,[6,7]),(4,[3,4,5,6,9]),(5,[3,4,5,6,9,22]),(6,[6,7]),(7,[3,4,5,6,37]),(8,[6,7]),(9,[6,10,12]),(10,[6,7])]),
 (73,[(0,[0,2,4]),(1,[0,2,11,12,13]),(2,[0,2,11,12,13,14]),(3,[0,2,6,7,11,12,13]),(4,[0,2,6,11,12,13,18,19,20]),(5,[0,2,6,11,12,13,18,19,20,21]),(6,[0,2,6,8,9,11,12,13,18,19,20]),(7,[0,2,6,11,12,13,18,19,20]),(8,[0,2,6,11,12,13,18,19,20]),(9,[0,2,11,12,13])]),
 (79,[(0,[1,2]),(1,[2,4,6]),(2,[2,4,6,14]),(3,[2,3]),(4,[2,3])]),
 (83,[(0,[0]),(1,[0,3]),(2,[0,3,5]),(3,[0,3]),(4,[0,3]),(5,[2])]),
 (84,[(0,[1]),(1,[1,3]),(2,[1,3,14,15]),(3,[1,3,14,15,16]),(4,[1,3,4,14,15]),(5,[1,3,4,14,15,22]),(6,[1,3,14,15]),(7,[1,3,14,15]),(8,[1,3]),(9,[1,3,5]),(10,[1,3,5,6]),(11,[1,3,5,6,33]),(12,[1,3,5,6]),(13,[1,3,5,6,7]),(14,[1,3,5,6,7,37,38]),(15,[1,3,5,6,7,37,38,39]),(16,[1,3,5,6,7,8,37,38]),(17,[1,3,5,6,7,37,38]),(18,[1,3,5,6,7,37,38]),(19,[1,3,5,6]),(20,[1,3,5,61]),(21,[2]),(22,[1,3])]),
 (86,[(0,[1,2]),(1,[1,2,4,5]),(2,[1,2,4,5,6]),(3,[1,2,4,5,6,7]),(4,[1,2,4,5,6,7,28,29,30]),(5,[1,2,4,5,6,7,28,29,30,31]),(6,[1,2,4,5,6,7,8,9,28,29,30]),(7,[1,2,4,5,6,7,8,28,29,30,39]),(8,[1,2,4,5,6,7,8,10,28,29,30]),(9,[1,2,4,5,6,7,8,10,28,29,30,47,48,49]),(10,[1,2,4,5,6,7,8,10,28,29,30,47,48,49,50]),(11,[1,2,4,5,6,7,8,10,11,12,28,29,30,47,48,49]),(12,[1,2,4,5,6,7,8,10,28,29,30,47,48,49]),(13,[1,2,4,5,6,7,8,10,28,29,30,47,48,49]),(14,[1,2,4,5,6,7,10,28,29,30]),(15,[1,2,4,5,6,7,28,29,30]),(16,[1,2,4,5,6,7,28,29,30]),(17,[2,5,6,13,14]),(18,[2,5,6,13,14,15]),(19,[2,6,13,14,15,87,88,89]),(20,[2,6,13,14,15,87,88,89,90]),(21,[2,6,13,14,15,16,17,87,88,89]),(22,[2,6,13,14,15,16,17,87,88,89]),(23,[2,6,13,14,15,16,17,87,88,89,98]),(24,[2,6,13,14,15,87,88,89]),(25,[2,6,13,14,15,87,88,89]),(26,[2,3])]),
 (87,[(0,[0,1,4]),(1,[])]),
 (88,[(0,[2,3]),(1,[4])]),
 (89,[(0,[0]),(1,[0,3]),(2,[3,6,7,8]),(3,[3,6,7,8,9]),(4,[3,5,6,7,8]),(5,[3,5,6,7,8,14]),(6,[2]),(7,[3,6,7,8]),(8,[2])]),
 (90,[(0,[0,1]),(1,[0,1,5]),(2,[0,1,5,6]),(3,[0,1,6,11]),(4,[12]),(5,[4]),(6,[4]),(7,[0,1,13]),(8,[4]),(9,[0,1,16]),(10,[4]),(11,[19]),(12,[4]),(13,[4])]),
 (91,[(0,[0]),(1,[0,8]),(2,[2]),(3,[0,3]),(4,[0,3,13]),(5,[0,3]),(6,[0,3,25]),(7,[0,3,4]),(8,[0,3,4,5]),(9,[0,3,4,5,32]),(10,[0,3,4,5]),(11,[0,3,4,5,44]),(12,[0,3,4,5]),(13,[0,3,4,5]),(14,[0,3]),(15,[2]),(16,[2])]),
 (94,[(0,[0,2,3,5,8]),(1,[0,2,3,5,8,11]),(2,[0,2,3,8,11]),(3,[0,2,3,8,11,12]),(4,[0,2,3,8,11,12,13]),(5,[0,2,3,8,11,12,13,25]),(6,[0,2,3,8,11,12,13]),(7,[0,2,3,8,11,12,13,14]),(8,[0,2,3,8,11,12,13,14,15]),(9,[0,2,3,8,11,12,13,14,15,36,37]),(10,[0,2,3,8,11,12,13,14,15,36,37,38]),(11,[0,2,3,8,11,12,13,14,15,16,36,37]),(12,[0,2,3,8,11,12,13,14,15,36,37]),(13,[0,2,3,8,11,12,13,14,15,36,37]),(14,[0,2,3,8,11,12,13,14,15,52]),(15,[8,9,10]),(16,[0,2,3,8,11,12,13,14]),(17,[0,2,3,8,11,12,13]),(18,[8,9,10])]),
 (95,[(0,[1,2,3,4,6]),(1,[6])]),
 (96,[(0,[1,2,3,4]),(1,[1,2,3,4,6]),(2,[2,3,4,6,12]),(3,[2,3,4,6]),(4,[3,6,20]),(5,[3,6]),(6,[5])]),
 (99,[(0,[1,2]),(1,[1,2,5]),(2,[1,2,5,9]),(3,[2,3,4]),(4,[2,3,4])]),
 (100,[(0,[1]),(1,[1,22]),(2,[2]),(3,[1,32]),(4,[2]),(5,[1,34,35,36]),(6,[1,34,35,36,37]),(7,[1,3,4,34,35,36]),(8,[1,3,4,34,35,36,65]),(9,[2]),(10,[1,34,35,36,88]),(11,[2]),(12,[1,34,35,36]),(13,[2])]),
 (101,[(0,[2,3]),(1,[4])]),
 (102,[(0,[0]),(1,[0,7]),(2,[2]),(3,[0,8,9,10]),(4,[0,8,9,10,11]),(5,[0,4,8,9,10]),(6,[0,8,9,10,19]),(7,[2]),(8,[0,8,9,10]),(9,[2])]),
 (103,[(0,[0]),(1,[0,4]),(2,[2]),(3,[2])]),
 (104,[(0,[0]),(1,[0,3]),(2,[0,3,4]),(3,[3,4,13,14,15]),(4,[3,4,13,14,15,16]),(5,[3,4,5,6,13,14,15]),(6,[3,4,5,6,7,8,13,14,15]),(7,[3,4,5,6,7,13,14,15,27]),(8,[3,4,5,6,7,13,14,15]),(9,[3,4,5,7,13,14,15]),(10,[3,4,13,14,15]),(11,[3,4,13,14,15]),(12,[2])]),
 (105,[(0,[0,1]),(1,[0,1,5]),(2,[0,1,5,11,12]),(3,[0,1,5,11,12,13]),(4,[0,1,5,6,11,12]),(5,[0,1,5,11,12]),(6,[0,1,5,11,12]),(7,[4])]),
 (106,[(0,[0,1]),(1,[0,1,10]),(2,[4]),(3,[0,1,12,13]),(4,[0,1,12,13,14]),(5,[0,1,5,12,13]),(6,[0,1,12,13,24]),(7,[4]),(8,[0,1,12,13]),(9,[4])]),
 (108,[(0,[1,2]),(1,[1,2,13]),(2,[2,3]),(3,[1,2,4,5]),(4,[2,4,5,7]),(5,[2,4,5,7,31,32]),(6,[2,4,5,7,31,32,33]),(7,[2,4,5,7,8,31,32]),(8,[2,4,5,7,31,32]),(9,[2,4,5,7,31,32]),(10,[2,4,7,39,40,41]),(11,[2,4,7,39,40,41,42]),(12,[2,4,7,9,10,39,40,41]),(13,[2,4,7,39,40,41]),(14,[2,4,7,39,40,41]),(15,[2,3])]),
 (109,[(0,[1]),(1,[1,18]),(2,[2]),(3,[1,3,4]),(4,[1,3,4,24,25,26]),(5,[1,3,4,24,25,26,27]),(6,[1,3,4,5,6,24,25,26]),(7,[1,3,4,5,24,25,26,36]),(8,[1,3,4,24,25,26]),(9,[1,3,4,24,25,26]),(10,[1,3,4,7]),(11,[1,3,4,7,8]),(12,[1,3,4,7,8,46,47,48]),(13,[1,3,4,7,8,46,47,48,49]),(14,[1,3,4,7,8,9,10,46,47,48]),(15,[1,3,4,7,8,9,10,11,46,47,48]),(16,[1,3,4,7,8,9,11,46,47,48,58,59,60]),(17,[1,3,4,7,8,9,11,46,47,48,58,59,60,61]),(18,[1,3,4,7,8,9,11,12,13,46,47,48,58,59,60]),(19,[1,3,4,7,8,9,11,46,47,48,58,59,60]),(20,[1,3,4,7,8,9,11,46,47,48,58,59,60]),(21,[1,3,4,7,8,9,11,14,15,46,47,48]),(22,[1,3,4,7,8,9,11,14,46,47,48,80]),(23,[1,3,4,7,8,9,11,14,46,47,48]),(24,[1,3,4,7,8,9,14,46,47,48]),(25,[1,3,4,7,8,46,47,48]),(26,[1,3,4,7,8,46,47,48]),(27,[1,7,8,94]),(28,[2]),(29,[1,3,4])]),
 (110,[(0,[0,1,2,3,4,10]),(1,[0,1,2,3,4,10,11]),(2,[0,1,2,3,4,10,11,12]),(3,[0,1,2,3,4,10,11,12,25]),(4,[]),(5,[0,1,2,3,4,10,11,12,32]),(6,[]),(7,[0,1,2,3,4,10,11,12,39]),(8,[0,1,2,3,4,10,11,12]),(9,[0,1,2,3,4,10,11,12]),(10,[0,1,2,3,4,10,11,12,13,14]),(11,[0,1,2,3,4,10,11,12,13,14,56]),(12,[0,1,2,3,4,10,11,12,13]),(13,[0,1,2,3,4,10,11,12,13]),(14,[0,1,2,3,4,10,11,12,13,14]),(15,[0,1,2,3,4,10,11,12,13,75]),(16,[0,1,2,3,4,10,11,12,13,80]),(17,[0,1,2,3,4,10,11,12,13,97]),(18,[0,2,3,4,10,11,15]),(19,[0,1,2,3,4,10,11]),(20,[0,1,2,3,4,12,16,17]),(21,[0,1,2,3,4,11,12,16]),(22,[0,1,2,3,4,11,12,16,18,19]),(23,[0,1,2,3,4,11,16,18,19,20]),(24,[0,1,2,3,4,11,16,18,19,20,125]),(25,[0,1,2,3,4,10,11,16]),(26,[0,2,3,4,10,11,16]),(27,[0,1,2,3,4,10,11]),(28,[0,1,2,3,4,10,11,16]),(29,[0,1,3,4,10,11,16]),(30,[0,1,2,3,4,10,11])]),
 (111,[(0,[0]),(1,[2]),(2,[2])]),
 (112,[(0,[0]),(1,[2])]),
 (116,[(0,[0,3]),(1,[0,3,5,6]),(2,[0,3,5,17]),(3,[0,3,22]),(4,[0,3]),(5,[0,3,5]),(6,[0,3,5]),(7,[5]),(8,[4])]),
 (117,[(0,[0,1,2,3,8]),(1,[0,1,2,3,8,11]),(2,[0,2,3,8,11]),(3,[0,2,3,8,11,12]),(4,[0,2,3,8,11,12,13]),(5,[0,2,3,8,11,12,13,25]),(6,[0,2,3,8,11,12,13]),(7,[0,2,3,8,11,12,13,14]),(8,[0,2,3,8,11,12,13,14,15]),(9,[0,2,3,8,11,12,13,14,15,36,37]),(10,[0,2,3,8,11,12,13,14,15,36,37,38]),(11,[0,2,3,8,11,12,13,14,15,16,36,37]),(12,[0,2,3,8,11,12,13,14,15,36,37]),(13,[0,2,3,8,11,12,13,14,15,36,37]),(14,[0,2,3,8,11,12,13,14,15,52]),(15,[8,9,10]),(16,[0,2,3,8,11,12,13,14]),(17,[0,2,3,8,11,12,13]),(18,[8,9,10])]),
 (118,[(0,[1]),(1,[1,3]),(2,[1,3,11,12]),(3,[1,3,11,12,13]),(4,[1,3,4,11,12]),(5,[1,3,11,12]),(6,[1,3,11,12]),(7,[3,23,24,25]),(8,[3,23,24,25,26]),(9,[3,6,23,24,25]),(10,[3,23,24,25]),(11,[3,23,24,25]),(12,[2])]),
 (119,[(0,[0,1]),(1,[3])]),
 (120,[(0,[0]),(1,[2])]),
 (121,[(0,[0]),(1,[2])]),
 (122,[(0,[0,1,2,3,8]),(1,[0,1,2,3,8,11]),(2,[0,2,3,8,11]),(3,[0,2,3,8,11,12]),(4,[0,2,3,8,11,12,13]),(5,[0,2,3,8,11,12,13,25]),(6,[0,2,3,8,11,12,13]),(7,[0,2,3,8,11,12,13,14]),(8,[0,2,3,8,11,12,13,14,15]),(9,[0,2,3,8,11,12,13,14,15,36,37]),(10,[0,2,3,8,11,12,13,14,15,36,37,38]),(11,[0,2,3,8,11,12,13,14,15,16,36,37]),(12,[0,2,3,8,11,12,13,14,15,36,37]),(13,[0,2,3,8,11,12,13,14,15,36,37]),(14,[0,2,3,8,11,12,13,14,15,52]),(15,[8,9,10]),(16,[0,2,3,8,11,12,13,14]),(17,[0,2,3,8,11,12,13]),(18,[8,9,10])]),
 (123,[(0,[0,1,2]),(1,[5])]),
 (124,[(0,[0,1]),(1,[3])]),
 (125,[(0,[0,1,2,3,8]),(1,[0,1,2,3,8,14]),(2,[0,1,2,3,8]),(3,[0,1,2,3,8,9]),(4,[0,1,2,3,8,9,34]),(5,[0,1,2,3,8,9]),(6,[0,1,2,3,8,9])]),
 (126,[(0,[0,1,2,3,8]),(1,[0,1,2,3,8,9]),(2,[0,3,8,9,10]),(3,[0,3,8,9,10,11]),(4,[0,3,8,9,10,11,21]),(5,[0,3,8,9,10,11]),(6,[0,3,8,9,10,11]),(7,[0,3,8,9,12]),(8,[0,3,8,9,12,33]),(9,[0,3,8,9,12]),(10,[0,3,8,9,12]),(11,[0,3,8,9,12])]),
 (127,[(0,[0,1,8]),(1,[0,1,8,17]),(2,[0,1,8,9]),(3,[0,1,8,9,10]),(4,[0,1,8,9,10,11]),(5,[0,1,8,9,10,11,35]),(6,[0,1,8,9,10,11]),(7,[0,1,8,9,10,11,12]),(8,[0,1,8,9,10,11,12,45]),(9,[0,1,8,9,10,11,12]),(10,[0,1,8,9,10,11])]),
 (128,[(0,[0,1,2,3]),(1,[0,1,3,10]),(2,[0,1,3,10,11]),(3,[0,1,3,10,11,12]),(4,[0,1,3,10,11,12,13]),(5,[0,3,10,11,12,13,14]),(6,[0,3,10,11,12,13,14,34]),(7,[0,3,11,12,13,14,36]),(8,[0,3,11,12,13,14]),(9,[0,3,11,12,13,14]),(10,[0,3,11,12,13,14]),(11,[11,13]),(12,[13,55]),(13,[8,9]),(14,[13,55,57]),(15,[8,9]),(16,[13,60]),(17,[8,9])]),
 (129,[(0,[0,2,8]),(1,[0,8,9]),(2,[0,8,9,15]),(3,[0,8,9]),(4,[0,8,9]),(5,[0,8,9])]),
 (130,[(0,[0,1,2,3]),(1,[0,1,2,3,9]),(2,[0,1,2,3,9,10]),(3,[0,1,2,3,9,10,16]),(4,[0,1,2,3,9,10]),(5,[0,1,2,3,9,10,36]),(6,[0,1,2,3,9,10]),(7,[0,1,2,3,9,10,41]),(8,[8]),(9,[0,1,2,3,9,10,45]),(10,[8]),(11,[0,1,2,3,9,10]),(12,[0,1,2,3,9,10,65]),(13,[0,1,2,3,9,10,11]),(14,[0,1,2,3,9,10,11,69]),(15,[0,1,2,3,9,10,11]),(16,[0,1,2,3,9,10,11,84]),(17,[0,1,2,3,9,10,11]),(18,[0,1,2,3,9,10,104]),(19,[0,1,2,3,9,10,12]),(20,[0,1,2,3,9,10,12,109]),(21,[0,1,2,3,9,10,12]),(22,[0,1,2,3,9,10,12,124]),(23,[0,1,2,3,9,10,12]),(24,[8])]),
 (131,[(0,[0,1,2,3,4]),(1,[0,1,2,4]),(2,[0,1,4,11,12]),(3,[0,1,4,11,12,47]),(4,[0,1,4,11,12]),(5,[0,1,4,11,12,65]),(6,[0,1,4,11,12]),(7,[0,1,4,11,12,70]),(8,[0,1,4,11,12]),(9,[0,1,4,11,12]),(10,[0,1,4,11,12]),(11,[10])]),
 (132,[(0,[0,1,2,3,4]),(1,[0,1,2,4]),(2,[0,1,4,12,13]),(3,[0,1,4,12,13,47]),(4,[0,1,4,12,13]),(5,[0,1,4,12,13,66]),(6,[0,1,4,12,13]),(7,[0,1,4,12,13,71]),(8,[13]),(9,[10,11]),(10,[0,1,4,12,13]),(11,[0,1,4,12,13]),(12,[0,1,4,12,13]),(13,[0,1,4,12,13,120]),(14,[0,1,4,12,13]),(15,[0,1,4,12,13,139]),(16,[0,1,4,12,13]),(17,[0,1,4,12,13,144]),(18,[0,1,4,12,13]),(19,[0,1,4,12,13]),(20,[0,1,4,12,13]),(21,[13]),(22,[10,11])]),
 (134,[(0,[0,2]),(1,[0,2,4]),(2,[0]),(3,[0,2]),(4,[0,2,8]),(5,[0,2]),(6,[0,2]),(7,[0,2,14]),(8,[0,2]),(9,[0,2]),(10,[2])]),
 (137,[(0,[0,1]),(1,[0,1,5,6]),(2,[0,1,5,17]),(3,[0,1,22]),(4,[0,1]),(5,[0,1,5]),(6,[0,1,5]),(7,[5]),(8,[4])]),
 (138,[(0,[0,1,2]),(1,[5])]),
 (139,[(0,[0,1]),(1,[0,1,10]),(2,[4]),(3,[0,1,5]),(4,[0,5,16,17,18]),(5,[0,5,16,17,18,19]),(6,[0,5,7,16,17,18]),(7,[0,5,16,17,18]),(8,[0,5,16,17,18]),(9,[4])]),
 (140,[(0,[0,1]),(1,[0,1,5,6]),(2,[0,1,5,17]),(3,[0,1,22]),(4,[0,1]),(5,[0,1,5]),(6,[0,1,5]),(7,[5]),(8,[4])])]
def annJoin:List (Nat × List (Nat × List Nat)):=[(9,[(30,[3,4,5]),(92,[3,11,13,15])]),
 (16,[(14,[1,3]),(16,[1,3]),(36,[1,3]),(41,[1,3,38,39,40]),(48,[1,3,5,38,39,40]),(52,[1,3,38,39,40,49,50,51]),(61,[1,3,38,39,40,49,50,51])]),
 (19,[]),
 (24,[(10,[2,3]),(15,[2,3]),(21,[])]),
 (26,[]),
 (28,[(20,[2,6,8,9]),(31,[6,11])]),
 (39,[(8,[1,2]),(19,[1,2,3,16,17,18])]),
 (40,[(15,[1]),(20,[1,3]),(36,[1,3]),(41,[1,3,38,39,40]),(48,[1,3,5,38,39,40]),(52,[1,3,38,39,40,49,50,51]),(61,[1,3,38,39,40,49,50,51])]),
 (41,[(37,[2,3]),(42,[2,3,40,41]),(54,[2,3,40,41]),(60,[2,3,58,59]),(74,[2,3,6,58,59]),(82,[2,3,6,58,59,80,81]),(100,[2,3,6,58,59,80,81])]),
 (44,[]),
 (51,[(15,[1,2,4]),(28,[1,2,4,6]),(38,[1,2,4,6,36,37]),(43,[1,2,4,6,7,36,37,41,42])]),
 (54,[(7,[1,2])]),
 (55,[]),
 (56,[(8,[1,2])]),
 (57,[(16,[0,1]),(20,[0,1,18,19]),(34,[0,1,18,19])]),
 (58,[(28,[1,2,3]),(32,[1,2,3,30,31])]),
 (59,[]),
 (61,[(7,[0,1])]),
 (62,[]),
 (63,[]),
 (64,[(11,[0,2,8,9,10]),(15,[0,2,8,9,10])]),
 (65,[]),
 (68,[(12,[2,3,4,5]),(19,[2,3,4,5]),(27,[2,3,4,5])]),
 (69,[]),
 (71,[(16,[3,4,5,6]),(22,[3,4,5,6]),(37,[3,4,5,6])]),
 (73,[(14,[0,2,11,12,13]),(21,[0,2,6,11,12,13,18,19,20])]),
 (79,[(14,[2,4])]),
 (83,[(5,[0,3])]),
 (84,[(16,[1,3,14,15]),(22,[1,3,14,15]),(33,[1,3,5,6]),(39,[1,3,5,6,7,37,38]),(61,[1,5])]),
 (86,[(31,[1,2,4,5,6,7,28,29,30]),(39,[1,2,4,5,6,7,8,28,29,30]),(50,[1,2,4,5,6,7,8,10,28,29,30,47,48,49]),(90,[2,6,13,14,15,87,88,89]),(98,[2,6,13,14,15,87,88,89])]),
 (87,[]),
 (88,[]),
 (89,[(9,[3,6,7,8]),(14,[3,6,7,8])]),
 (90,[(11,[0,1,6]),(12,[]),(13,[0,1]),(16,[0,1]),(19,[])]),
 (91,[(8,[0]),(13,[0,3]),(25,[0,3]),(32,[0,3,4,5]),(44,[0,3,4,5])]),
 (94,[(25,[0,2,3,8,11,12,13]),(38,[0,2,3,8,11,12,13,14,15,36,37]),(52,[0,2,3,8,11,12,13,14,15])]),
 (95,[]),
 (96,[(12,[2,3,4,6]),(20,[3,6])]),
 (99,[(9,[1,2])]),
 (100,[(22,[1]),(32,[1]),(37,[1,34,35,36]),(65,[1,3,4,34,35,36]),(88,[1,34,35,36])]),
 (101,[]),
 (102,[(7,[0]),(11,[0,8,9,10]),(19,[0,8,9,10])]),
 (103,[(4,[0])]),
 (104,[(16,[3,4,13,14,15]),(27,[3,4,5,7,13,14,15])]),
 (105,[(13,[0,1,5,11,12])]),
 (106,[(10,[0,1]),(14,[0,1,12,13]),(24,[0,1,12,13])]),
 (108,[(13,[1,2]),(33,[2,4,5,7,31,32]),(42,[2,4,7,39,40,41])]),
 (109,[(18,[1]),(27,[1,3,4,24,25,26]),(36,[1,3,4,24,25,26]),(49,[1,3,4,7,8,46,47,48]),(61,[1,3,4,7,8,9,11,46,47,48,58,59,60]),(80,[1,3,4,7,8,9,14,46,47,48]),(94,[1,7,8])]),
 (110,[(25,[0,1,2,3,4,10,11,12]),(32,[0,1,2,3,4,10,11,12]),(39,[0,1,2,3,4,10,11,12]),(56,[0,1,2,3,4,10,11,12,13,14]),(75,[0,1,2,3,4,10,11,12,13]),(80,[0,1,2,3,4,10,11,12,13]),(97,[0,1,2,3,4,12,13]),(125,[0,1,2,3,4,10,11])]),
 (111,[]),
 (112,[]),
 (116,[(17,[5]),(22,[0,3])]),
 (117,[(25,[0,2,3,8,11,12,13]),(38,[0,2,3,8,11,12,13,14,15,36,37]),(52,[0,2,3,8,11,12,13,14,15])]),
 (118,[(13,[1,3,11,12]),(26,[3,23,24,25])]),
 (119,[]),
 (120,[]),
 (121,[]),
 (122,[(25,[0,2,3,8,11,12,13]),(38,[0,2,3,8,11,12,13,14,15,36,37]),(52,[0,2,3,8,11,12,13,14,15])]),
 (123,[]),
 (124,[]),
 (125,[(14,[0,1,2,3,8]),(34,[0,1,2,3,8,9])]),
 (126,[(21,[0,3,8,9,10,11]),(33,[0,3,8,9,12])]),
 (127,[(17,[]),(35,[0,1,8,9,10,11]),(45,[0,1,8,9,10,11,12])]),
 (128,[(34,[11,13]),(36,[0,3,11,12,13,14]),(57,[8,9]),(60,[8,9])]),
 (129,[(15,[0,8,9])]),
 (130,[(16,[0,1,2,3,9,10]),(36,[0,1,2,3,9,10]),(41,[0,1,2,3,9,10]),(45,[0,1,2,3,9,10]),(65,[0,1,2,3,9,10]),(69,[0,1,2,3,9,10,11]),(84,[0,1,2,3,9,10,11]),(104,[0,1,2,3,9,10]),(109,[0,1,2,3,9,10,12]),(124,[0,1,2,3,9,10,12])]),
 (131,[(47,[0,1,4,11,12]),(65,[0,1,4,11,12]),(70,[0,1,4,11,12])]),
 (132,[(47,[0,1,4,12,13]),(66,[0,1,4,12,13]),(71,[0,1,4,12,13]),(120,[0,1,4,12,13]),(139,[0,1,4,12,13]),(144,[0,1,4,12,13])]),
 (134,[(4,[0,2]),(8,[0,2]),(14,[0,2])]),
 (137,[(17,[5]),(22,[0,1])]),
 (138,[]),
 (139,[(10,[0,1]),(19,[0,5,16,17,18])]),
 (140,[(17,[5]),(22,[0,1])])]
def annBlk:List (Nat × List (Nat × List Nat)):=[(9,[]),
 (16,[(0,[]),(1,[1,3,38,39,40]),(2,[1,3,38,39,40]),(3,[1,3,38,39,40,49,50,51])]),
 (19,[]),
 (24,[]),
 (26,[]),
 (28,[]),
 (39,[(0,[2,3]),(1,[1,2,3,16,17,18])]),
 (40,[(0,[]),(1,[1,3,38,39,40]),(2,[1,3,38,39,40]),(3,[1,3,38,39,40,49,50,51])]),
 (41,[(0,[2,3]),(1,[2,3,40,41]),(2,[]),(3,[2,3,58,59]),(4,[2,3,58,59]),(5,[2,3,6,58,59,80,81])]),
 (44,[]),
 (51,[(0,[2,4,6]),(1,[1,2,4,6,36,37]),(2,[1,2,4,6,36,37]),(3,[1,2,4,6,7,36,37,41,42])]),
 (54,[]),
 (55,[]),
 (56,[]),
 (57,[(0,[]),(1,[0,1,18,19])]),
 (58,[(0,[1]),(1,[1,2,3,30,31])]),
 (59,[]),
 (61,[]),
 (62,[]),
 (63,[]),
 (64,[(0,[]),(1,[0,2,8,9,10])]),
 (65,[]),
 (68,[]),
 (69,[]),
 (71,[]),
 (73,[(0,[]),(1,[0,2,11,12,13]),(2,[0,2,11,12,13]),(3,[0,2,6,11,12,13,18,19,20])]),
 (79,[]),
 (83,[(0,[3]),(1,[0,3])]),
 (84,[(0,[1,3]),(1,[1,3,14,15]),(2,[2]),(3,[1,3]),(4,[1,3,5]),(5,[1,3,5,6]),(6,[1,3,5,6,7]),(7,[1,3,5,6,7,37,38])]),
 (86,[(0,[2,5,6,7]),(1,[1,2,4,5,6,7,28,29,30]),(2,[1,2,4,5,6,7,8,10,28,29,30]),(3,[1,2,4,5,6,7,8,10,28,29,30,47,48,49]),(4,[2,13,15]),(5,[2,6,13,14,15,87,88,89])]),
 (87,[]),
 (88,[]),
 (89,[(0,[3]),(1,[3,6,7,8])]),
 (90,[]),
 (91,[(0,[0]),(1,[0,3]),(2,[0,3]),(3,[0,3,4,5])]),
 (94,[(0,[8,11,12]),(1,[0,2,3,8,11,12,13]),(2,[0,2,3,8,11,12,13,14,15]),(3,[0,2,3,8,11,12,13,14,15,36,37])]),
 (95,[]),
 (96,[]),
 (99,[]),
 (100,[(0,[]),(1,[1,34,35,36])]),
 (101,[]),
 (102,[(0,[]),(1,[0,8,9,10])]),
 (103,[]),
 (104,[(0,[4]),(1,[3,4,13,14,15])]),
 (105,[(0,[5]),(1,[0,1,5,11,12])]),
 (106,[(0,[]),(1,[0,1,12,13])]),
 (108,[(0,[2,4,5,7]),(1,[2,4,5,7,31,32]),(2,[2,4,7]),(3,[2,4,7,39,40,41])]),
 (109,[(0,[1,3,4]),(1,[1,3,4,24,25,26]),(2,[2]),(3,[1,3,4]),(4,[1,4,7,8]),(5,[1,3,4,7,8,46,47,48]),(6,[1,3,4,7,8,9,11,46,47,48]),(7,[1,3,4,7,8,9,11,46,47,48,58,59,60])]),
 (110,[(0,[]),(1,[0,1,2,3,4,10,11])]),
 (111,[]),
 (112,[]),
 (116,[]),
 (117,[(0,[8,11,12]),(1,[0,2,3,8,11,12,13]),(2,[0,2,3,8,11,12,13,14,15]),(3,[0,2,3,8,11,12,13,14,15,36,37])]),
 (118,[(0,[1,3]),(1,[1,3,11,12]),(2,[3]),(3,[3,23,24,25])]),
 (119,[]),
 (120,[]),
 (121,[]),
 (122,[(0,[8,11,12]),(1,[0,2,3,8,11,12,13]),(2,[0,2,3,8,11,12,13,14,15]),(3,[0,2,3,8,11,12,13,14,15,36,37])]),
 (123,[]),
 (124,[]),
 (125,[(0,[]),(1,[0,1,2,3,8]),(2,[0,1,2,3,8]),(3,[0,1,2,3,8,9])]),
 (126,[(0,[0,3,8,9,10]),(1,[0,3,8,9,10,11]),(2,[]),(3,[0,3,8,9,12])]),
 (127,[(0,[]),(1,[0,1,8,9,10,11])]),
 (128,[(0,[8,9])]),
 (129,[(0,[]),(1,[0,8,9])]),
 (130,[(0,[]),(1,[0,1,2,3,9,10]),(2,[0,1,2,3,9,10]),(3,[0,1,2,3,9,10]),(4,[0,1,2,3,9,10]),(5,[0,1,2,3,9,10,11]),(6,[0,1,2,3,9,10]),(7,[0,1,2,3,9,10,12])]),
 (131,[(0,[11]),(1,[0,1,4,11,12]),(2,[0,1,4,11,12]),(3,[0,1,4,11,12]),(4,[0,1,4,11,12]),(5,[0,1,4,11,12])]),
 (132,[(0,[0,1,4,12,13]),(1,[0,1,4,12,13]),(2,[0,1,4,12,13]),(3,[0,1,4,12,13]),(4,[0,1,13]),(5,[0,1,4,12,13]),(6,[0,1,4,12,13]),(7,[0,1,4,12,13]),(8,[0,1,4,12,13]),(9,[0,1,4,12,13])]),
 (134,[]),
 (137,[]),
 (138,[]),
 (139,[(0,[5]),(1,[0,5,16,17,18])]),
 (140,[])]
def annPur:List (Nat × List (Nat × List Nat)):=[(84,[(8,[3]),(19,[5])])]
def annOutp:List (Nat × List Nat):=[(118,[0])]
def annCk:List (Nat × List (Nat × List (Nat × Nat))):=[(9,[(1,[(2,26),(7,26)]),(2,[(0,19)]),(3,[(2,28)]),(4,[(1,39),(3,39),(4,28)]),(5,[(2,28)]),(6,[(2,28)]),(7,[(2,28)]),(8,[(20,40),(26,41)]),(10,[(2,28)]),(11,[(2,28)]),(12,[(8,40),(14,41),(17,19)])]),
 (16,[(2,[(2,55)])]),
 (19,[(1,[(0,59),(1,51)]),(2,[(10,44),(14,44)])]),
 (24,[(1,[(1,16)]),(4,[(1,16)])]),
 (26,[(1,[(15,24)])]),
 (28,[(1,[(2,68)]),(4,[(3,71)]),(7,[(1,54)])]),
 (39,[(1,[(1,40)])]),
 (44,[(1,[(4,58)])]),
 (51,[(1,[(1,56)]),(4,[(5,61)]),(7,[(2,73)]),(14,[(4,62)]),(17,[(3,63)]),(18,[(3,64)]),(19,[(1,65)])]),
 (54,[(1,[(1,40)]),(3,[(1,86)])]),
 (56,[(1,[(1,40)]),(4,[(1,54)])]),
 (58,[(1,[(1,40),(18,57)])]),
 (64,[(4,[(4,69)])]),
 (65,[(1,[(5,87)]),(2,[(6,91)]),(3,[(4,79)])]),
 (68,[(1,[(1,40)]),(4,[(1,40)]),(9,[(1,54),(3,54)])]),
 (71,[(1,[(1,40)]),(4,[(1,40)]),(9,[(9,94)])]),
 (73,[(7,[(8,62)])]),
 (79,[(1,[(1,99)]),(4,[(1,54)])]),
 (83,[(4,[(2,103)])]),
 (84,[(8,[(1,104)]),(19,[(2,105)]),(20,[(2,106)])]),
 (86,[(1,[(1,108)]),(2,[(1,109)]),(17,[(1,108)])]),
 (87,[(1,[(4,111),(6,169)])]),
 (88,[(1,[(4,90),(9,90),(14,90),(16,89)])]),
 (90,[(1,[(1,112)]),(2,[(1,112)])]),
 (94,[(2,[(1,116)]),(12,[(5,95),(6,178)]),(17,[(4,96)])]),
 (99,[(1,[(1,100)]),(4,[(5,118),(7,117)])]),
 (100,[(3,[(7,120)]),(10,[(19,101)])]),
 (101,[(1,[(4,90),(9,90),(14,90),(16,89)])]),
 (102,[(6,[(3,121)])]),
 (105,[(7,[(1,104)])]),
 (108,[(1,[(1,40)]),(3,[(6,122)])]),
 (109,[(1,[(1,40)])]),
 (111,[(2,[(1,134)])]),
 (117,[(2,[(1,137)]),(12,[(5,138),(6,183)]),(17,[(4,119)])]),
 (122,[(2,[(1,140)]),(12,[(5,123),(6,167)]),(17,[(4,124)])]),
 (138,[(1,[(5,139)])]),
 (139,[(1,[(1,102)]),(4,[(3,121),(5,83)])]),
 (169,[(4,[(4,170)]),(6,[(4,171)]),(8,[(4,172)]),(10,[(4,173)]),(12,[(4,179)]),(16,[(4,180)]),(17,[(13,88)]),(18,[(5,182)]),(20,[(5,181)]),(26,[(5,169)]),(29,[(6,169)])]),
 (170,[(4,[(14,88)])]),
 (171,[(6,[(5,177)]),(11,[(5,177)])]),
 (172,[(3,[(1,142)]),(7,[(0,143)])]),
 (173,[(8,[(3,174)]),(9,[(3,174)]),(10,[(3,174)]),(11,[(5,175)])]),
 (180,[(5,[(14,88)]),(16,[(10,88)]),(22,[(10,88)])]),
 (181,[(3,[(13,88)]),(5,[(13,88)]),(13,[(13,88)]),(15,[(13,88)])]),
 (182,[(3,[(13,88)]),(5,[(13,88)])])]
def annShp:List (Nat × List (Nat × (Shape × List (Out × Shape)))):=[(16,[(225,S16_225),(145,S16_145)]),
 (39,[(81,S39_81)]),
 (40,[(225,S40_225),(145,S40_145)]),
 (41,[(65,S41_65),(241,S41_241),(161,S41_161)]),
 (51,[(193,S51_193),(145,S51_145)]),
 (57,[(65,S57_65)]),
 (58,[(65,S58_65)]),
 (64,[(17,S64_17)]),
 (73,[(81,S73_81),(33,S73_33)]),
 (83,[(33,S83_33)]),
 (84,[(49,S84_49),(241,S84_241),(177,S84_177),(145,S84_145)]),
 (86,[(161,S86_161),(81,S86_81),(321,S86_321)]),
 (89,[(49,S89_49)]),
 (91,[(145,S91_145),(65,S91_65)]),
 (94,[(161,S94_161),(81,S94_81)]),
 (96,[(207,S96_207)]),
 (100,[(97,S100_97)]),
 (102,[(65,S102_65)]),
 (104,[(65,S104_65)]),
 (105,[(49,S105_49)]),
 (106,[(65,S106_65)]),
 (108,[(97,S108_97),(177,S108_177)]),
 (109,[(81,S109_81),(273,S109_273),(209,S109_209),(161,S109_161)]),
 (117,[(161,S117_161),(81,S117_81)]),
 (118,[(49,S118_49),(129,S118_129)]),
 (122,[(161,S122_161),(81,S122_81)]),
 (134,[(79,S134_79),(143,S134_143)]),
 (139,[(81,S139_81)]),
 (169,[(639,S169_639),(911,S169_911),(1215,S169_1215),(33,S169_33)]),
 (170,[(65,S170_65),(17,S170_17)]),
 (171,[(65,S171_65),(129,S171_129)]),
 (172,[(735,S172_735),(81,S172_81)]),
 (173,[(591,S173_591),(559,S173_559)]),
 (179,[(33,S179_33)]),
 (180,[(81,S180_81),(225,S180_225),(1055,S180_1055),(321,S180_321),(49,S180_49)]),
 (181,[(49,S181_49),(81,S181_81),(209,S181_209),(241,S181_241),(210,S181_210)]),
 (182,[(49,S182_49),(81,S182_81),(50,S182_50)])]
def annNst:List (Nat × List (Nat × List Nat)):=[(91,[(15,[59])]),
 (118,[(1,[9])])]
def annF (k:Nat):FuncId:=(lookupN annFid k).getD 0
def ann:Ann where
 fid:=annF
 sin:=fun k=>(lookupN annSin k).getD ⟨[],[]⟩
 sout:=fun k=>(lookupN annSout k).getD ⟨[],[]⟩
 live:=fun k r=>(lookupN ((lookupN annLive (annF k)).getD []) r).getD []
 join:=fun k r=>(lookupN ((lookupN annJoin (annF k)).getD []) r).getD []
 blk:=fun k r=>(lookupN ((lookupN annBlk (annF k)).getD []) r).getD []
 pur:=fun k r=>(lookupN ((lookupN annPur k).getD []) r).getD []
 outp:=fun k=>(lookupN annOutp k).getD []
 alt:=fun k=>lookupN annAlt k
 nst:=fun k r=>(lookupN ((lookupN annNst k).getD []) r).getD []
 ck:=fun k r i=>(lookupN ((lookupN ((lookupN annCk k).getD []) r).getD []) i).getD 0
 shp:=fun k x=>lookupN ((lookupN annShp k).getD []) x
 nstNow:=[]
 ckNow:=fun _=>0
 ext:=fun f=>none
 cln:=fun f=>bif Nat.beq f 77 then some 3 else bif Nat.beq f 98 then some 74 else none
 idle:=fun f=>false
 mv:=fun k=>(lookupN ([(62,[1]),(63,[1]),(64,[1]),(65,[1]),(69,[1]),(73,[1]),(74,[1]),(116,[1]),(137,[1]),(140,[1]),(167,[1]),(178,[1]),(183,[1])]:List (Nat × List Nat)) k).getD []
 glob:=fun g=>bif Nat.beq g 0 then .pref [5,5,5,5,5,5,5,5,5,5,5,5,5,5,5,5,5,5,5,5,5,5,5,5,5,5,5,5,5,5,5,5,5,5,5,5,5,5,5,5,5,5,5,5,5,5,5,5,5,5,5,5,5,5,5,5,5,5,5,5,5,5,5,5] tab_0 else .undef
noncomputable abbrev PG:Program:=Tryd.prog
noncomputable abbrev CC:CallF:=Call Tryd.prog ann
end Go.AM
set_option maxRecDepth 100000
namespace Go.AM
open Go.Proofs Go.RowKit
set_option maxHeartbeats 1000000 in
theorem clone_77 (hP:NoCount Tryd.prog):CloneOk Tryd.prog 77 3:=by
 refine ⟨fun args w=>MuLone.run_callFunc_enter Tryd.func77 (hP _ _ Tryd.func77) (by kernel_rfl:Tryd.f77.body=some (bodyOf Tryd.prog 77)) _ _,57,by kernel_rfl,?_⟩
 intro s w Q h1 h2 h3
 have hu:Tryd.prog.underlying 57=some (.slice 3):=by kernel_rfl
 go_enter Tryd.func77,Tryd.ntmps77
 rcases h3 with rfl|⟨a,n,c,rfl⟩
 ·go_wp2
  rw[run_eql_slice_nil w 57 3 none 0 0 hu]
  simp only[Result.andThen]
  rw[Oper.upon_value]
  go_wp2
  exact trivial
 ·go_wp2
  rw[run_eql_slice_nil w 57 3 (some a) n c hu]
  simp only[Result.andThen]
  rw[Oper.upon_value]
  iterate 17 go_step
  obtain ⟨v,w',hv,hQ⟩:=h2 _ _ _ rfl
  unfold Oper.wp
  simp[execOp,resolve,invoke,Act.eval,hv,builtin]
  rw[Oper.upon_value]
  go_wp2
  exact hQ
set_option maxHeartbeats 1000000 in
theorem clone_98 (hP:NoCount Tryd.prog):CloneOk Tryd.prog 98 74:=by
 refine ⟨fun args w=>MuLone.run_callFunc_enter Tryd.func98 (hP _ _ Tryd.func98) (by kernel_rfl:Tryd.f98.body=some (bodyOf Tryd.prog 98)) _ _,69,by kernel_rfl,?_⟩
 intro s w Q h1 h2 h3
 have hu:Tryd.prog.underlying 69=some (.slice 74):=by kernel_rfl
 go_enter Tryd.func98,Tryd.ntmps98
 rcases h3 with rfl|⟨a,n,c,rfl⟩
 ·go_wp2
  rw[run_eql_slice_nil w 69 74 none 0 0 hu]
  simp only[Result.andThen]
  rw[Oper.upon_value]
  go_wp2
  exact trivial
 ·go_wp2
  rw[run_eql_slice_nil w 69 74 (some a) n c hu]
  simp only[Result.andThen]
  rw[Oper.upon_value]
  iterate 17 go_step
  obtain ⟨v,w',hv,hQ⟩:=h2 _ _ _ rfl
  unfold Oper.wp
  simp[execOp,resolve,invoke,Act.eval,hv,builtin]
  rw[Oper.upon_value]
  go_wp2
  exact hQ
theorem cln_ok (hP:NoCount PG) (f:FuncId) (e:TypeId) (h:ann.cln f=some e):CloneOk PG f e:=by
 have h1:ann.cln f=bif Nat.beq f 77 then some 3 else bif Nat.beq f 98 then some 74 else none:=by kernel_rfl
 rw[h1] at h
 cases hb77:Nat.beq f 77 with
 | true=>
  rw[hb77] at h
  rw[Nat.beq_eq] at hb77
  cases h
  subst hb77
  exact clone_77 hP
 | false=>
 rw[hb77] at h
 simp only[cond_false] at h
 cases hb98:Nat.beq f 98 with
 | true=>
  rw[hb98] at h
  rw[Nat.beq_eq] at hb98
  cases h
  subst hb98
  exact clone_98 hP
 | false=>
 rw[hb98] at h
 simp only[cond_false] at h
 cases h
end Go.AM
set_option maxRecDepth 100000
namespace Go.AM
open Go.Proofs Go.Proofs.YtmcdbnalaobmpaaDoor Go.Lib Go.MakeChecks
def tabNums:List Int:=[0,1,56,2,57,49,28,3,61,58,42,50,38,29,17,4,62,47,59,36,45,43,51,22,53,39,33,30,24,18,12,5,63,55,48,27,60,41,37,16,46,35,44,21,52,32,23,11,54,26,40,15,34,20,31,10,25,14,19,9,13,8,7,6]
theorem tab_nums:tab_0=tabNums.map fun z=> .int .u8 z:=by kernel_rfl
theorem laid_nums:Rows.laid_math_bits_deBruijn64tab (H:=Unit)=tabData .u8 tabNums:=by kernel_rfl
def laid1 : List (String × DataW Unit) := [("math/bits.deBruijn64tab", Rows.laid_math_bits_deBruijn64tab)]
theorem globOk {W:World} (h:laidMetH Tryd.prog laid1 W):GlobOk Tryd.prog ann.glob W (allOf W):=by
 have h1 : laidMetH Tryd.prog [("math/bits.deBruijn64tab", tabData .u8 tabNums)] W := by
  have : laid1 = [("math/bits.deBruijn64tab", tabData .u8 tabNums)] := by unfold laid1; rw [laid_nums]
  rwa [this] at h
 rw[laidMetH_plain _ _ _ (by kernel_rfl)] at h1
 have hn : Tryd.prog.globalNamed "math/bits.deBruijn64tab" = some 0 := by kernel_rfl
 have ht:=tabIs_of_head (g:=0) (t:=131) (e:=5) (n:=64) hn (by kernel_rfl) (by kernel_rfl) (by kernel_rfl) (by kernel_rfl) (by kernel_rfl) h1
 have hlen:tabNums.length=64:=by kernel_rfl
 have hc: ∀i,i<64→W.cell? ⟨0,i,none⟩=some (.int .u8 (tabNums.getD i 0)):=fun i hi=>ht.cell hn i (by rw[hlen];exact hi)
 intro g
 have hg:ann.glob g=bif Nat.beq g 0 then .pref (List.replicate 64 5) tab_0 else .undef:=by kernel_rfl
 rw[hg]
 cases hb:Nat.beq g 0 with
 | false=>exact .inl rfl
 | true=>
  rw[Nat.beq_eq] at hb
  subst hb
  refine .inr ⟨List.replicate 64 5,tab_0,rfl,by kernel_rfl,fun _=> ?_,fun j t x hj hx=> ?_⟩
  ·have h0:=hc 0 (by omega)
   unfold allOf
   unfold World.cell? at h0
   by_cases hz:0<W.heap.size
   ·exact hz
   ·have:W.heap[0]? =none:=Array.getElem?_eq_none (by omega)
    simp[this] at h0
  ·have hj64:j<64:=by
    have:=(List.getElem?_eq_some_iff.1 hj).1
    simpa using this
   rw[List.getElem?_replicate,if_pos hj64] at hj
   cases hj
   rw[tab_nums,List.getElem?_map] at hx
   have hx2:tabNums[j]? =some (tabNums.getD j 0):=by
    rw[List.getElem?_eq_getElem (by rw[hlen];exact hj64)]
    simp[List.getD,List.getElem?_eq_getElem (show j<tabNums.length by rw[hlen];exact hj64)]
   rw[hx2] at hx
   cases hx
   exact ⟨_,by simpa using hc j hj64,.int (by kernel_rfl)⟩
theorem own:ownKnob Tryd.prog.godebug=none:=by kernel_rfl
theorem noCount:NoCount Tryd.prog:=noCount_of (by kernel_rfl)
theorem mixed:Tryd.prog.follows .mixedOrders=true:=by kernel_rfl
theorem fine:Fine Tryd.prog ann where
 count:=noCount
 cln:=cln_ok noCount
 ext:=fun f T h=>by
  have h1:ann.ext f=none:=by kernel_rfl
  rw[h1] at h
  cases h
 idle:=fun f h=>by
  have h1:ann.idle f=false:=by kernel_rfl
  rw[h1] at h
  cases h
noncomputable def laidWorld (os:Os):World:=World.laidAll Tryd.prog os laid1
theorem laidWorld_met (os:Os) (args:Array Value):laidMetH Tryd.prog laid1 ((laidWorld os).forCall (fun _ _=>0) ⟨#[],args,[]⟩).memory:=by
 rw[laidMetH_plain _ _ _ (by kernel_rfl)]
 exact laidMet_laidAll args (by kernel_rfl) (by kernel_rfl)
end Go.AM
namespace Go.AM
theorem wrap_u64 (n:Int):IntKind.u64.wrap n=n %18446744073709551616:=by simp[IntKind.wrap,IntKind.bits,IntKind.signed]
theorem wrapu64 {A:Nat} (h:A<2^64):IntKind.wrap .u64 (A:Int)=A:=by
 rw[wrap_u64];omega
theorem bv_toNat {n A:Nat} (h:A<2^n):(BitVec.ofInt n (A:Int)).toNat=A:=by
 rw[BitVec.ofInt_natCast,BitVec.toNat_ofNat];exact Nat.mod_eq_of_lt h
theorem bv_or {n A B:Nat} (hA:A<2^n) (hB:B<2^n):(BitVec.ofInt n (A:Int)|||BitVec.ofInt n (B:Int)).toNat=A|||B:=by
 rw[BitVec.toNat_or,bv_toNat hA,bv_toNat hB]
theorem bv_and {n A B:Nat} (hA:A<2^n) (hB:B<2^n):(BitVec.ofInt n (A:Int)&&&BitVec.ofInt n (B:Int)).toNat=A&&&B:=by
 rw[BitVec.toNat_and,bv_toNat hA,bv_toNat hB]
theorem bv_andNot {n A B:Nat} (hA:A<2^n) (i:Nat):(BitVec.ofInt n (A:Int)&&& ~~~ BitVec.ofInt n (B:Int)).toNat.testBit i=(A.testBit i&& !(B.testBit i)):=by
 rw[BitVec.testBit_toNat,BitVec.ofInt_natCast,BitVec.ofInt_natCast]
 by_cases hi:i<n
 ·simp only[BitVec.getLsbD_and,BitVec.getLsbD_not,BitVec.getLsbD_ofNat,hi,decide_true,Bool.true_and]
 ·have hf:A.testBit i=false:=Nat.testBit_lt_two_pow (Nat.lt_of_lt_of_le hA (Nat.pow_le_pow_right (by omega) (by omega)))
  rw[hf,Bool.false_and,BitVec.getLsbD_of_ge _ _ (by omega)]
theorem u64_or {A B:Nat} (hA:A<2^64) (hB:B<2^64):IntKind.wrap .u64 ((BitVec.ofInt (IntKind.bits .u64) (A:Int)|||BitVec.ofInt (IntKind.bits .u64) (B:Int)).toNat)=((A|||B:Nat):Int):=by
 rw[bv_or (n:=IntKind.bits .u64) hA hB]
 exact wrapu64 (Nat.or_lt_two_pow hA hB)
theorem u64_and {A B:Nat} (hA:A<2^64) (hB:B<2^64):IntKind.wrap .u64 ((BitVec.ofInt (IntKind.bits .u64) (A:Int)&&&BitVec.ofInt (IntKind.bits .u64) (B:Int)).toNat)=((A&&&B:Nat):Int):=by
 rw[bv_and (n:=IntKind.bits .u64) hA hB]
 exact wrapu64 (Nat.lt_of_le_of_lt Nat.and_le_left hA)
theorem u64_andNot {A:Nat} (B:Nat) (hA:A<2^64): ∃D:Nat,D<2^64∧(∀i,D.testBit i=(A.testBit i&& !(B.testBit i)))∧
  IntKind.wrap .u64 ((BitVec.ofInt (IntKind.bits .u64) (A:Int)&&& ~~~ BitVec.ofInt (IntKind.bits .u64) (B:Int)).toNat)=(D:Int):=
 ⟨(BitVec.ofInt (IntKind.bits .u64) (A:Int)&&& ~~~ BitVec.ofInt (IntKind.bits .u64) (B:Int)).toNat,BitVec.isLt _,fun i=>bv_andNot hA i,wrapu64 (BitVec.isLt _)⟩
theorem u64_bit {m:Nat} (h:m<64):IntKind.wrap .u64 (1*2^(min m (IntKind.bits .u64)))=((2^m:Nat):Int):=by
 have e:min m (IntKind.bits .u64)=m:=Nat.min_eq_left (by show m≤64;omega)
 rw[e]
 have:(1*2^m:Int)=((2^m:Nat):Int):=by simp
 rw[this]
 exact wrapu64 (Nat.pow_lt_pow_right (by omega) h)
theorem u64_shr {A m:Nat} (h:m<64):Int.fdiv (A:Int) (2^(min m (IntKind.bits .u64)))=((A/2^m:Nat):Int):=by
 have e:min m (IntKind.bits .u64)=m:=Nat.min_eq_left (by show m≤64;omega)
 rw[e]
 have:(2^m:Int)=((2^m:Nat):Int):=by simp
 rw[this,Int.fdiv_eq_ediv_of_nonneg _ (Int.natCast_nonneg _)]
 exact Int.natCast_ediv ..
end Go.AM
set_option maxRecDepth 100000
set_option linter.unusedSimpArgs false
namespace Go.AM
open Go.Proofs
theorem maxLen_le:maxLen≤9223372036854775807:=by unfold maxLen;omega
theorem maxB:maxBytes=35184372088832:=by unfold maxBytes;rfl
section
variable {α β:Type} {o:Option α} {a:α} {f:α→Option β} {r:Option β} {x y z:β} {b:Bool}
theorem bs (h:o=some a) (h2:f a=r):o.bind f=r:=by rw[h];exact h2
theorem bT (hb:b=true) (h:x=z):(bif b then x else y)=z:=by rw[hb];exact h
theorem bF (hb:b=false) (h:y=z):(bif b then x else y)=z:=by rw[hb];exact h
end
section
variable {X R A α:Type} {step:X→Option (X ⊕ R)}
theorem Loop_foldI (l:List α) (s:Nat→A→X) (f:A→α→A) (r:A→R) (Inv:Nat→A→Prop)
  (h: ∀(i:Nat) (a:A) (hi:i<l.length),Inv i a→step (s i a)=some (.inl (s (i+1) (f a l[i])))∧Inv (i+1) (f a l[i]))
  (he: ∀a,Inv l.length a→step (s l.length a)=some (.inr (r a))) (a0:A) (h0:Inv 0 a0):
  Loop step (s 0 a0)=some (r (l.foldl f a0))∧Inv l.length (l.foldl f a0):=by
 have go: ∀(k:Nat) (a:A),k≤l.length→Inv k a→Loop step (s k a)=some (r ((l.drop k).foldl f a))∧Inv l.length ((l.drop k).foldl f a):=by
  intro k
  generalize hd:l.length-k=d
  induction d generalizing k with
  | zero=>
   intro a hk hi
   have:k=l.length:=by omega
   subst this
   simp only[List.drop_length,List.foldl_nil]
   exact ⟨Loop_end (he a hi),hi⟩
  | succ d ih=>
   intro a hk hi
   have hk':k<l.length:=by omega
   obtain ⟨h1,h2⟩:=h k a hk' hi
   rw[Loop_norm h1,List.drop_eq_getElem_cons hk',List.foldl_cons]
   exact ih (k+1) (by omega) _ (by omega) h2
 simpa using go 0 a0 (by omega) h0
theorem Loop_all (good:Nat→Prop) [DecidablePred good] (n:Nat) (s:Nat→X) (bad ok:R) (h: ∀i,i<n→step (s i)=some (if good i then .inl (s (i+1)) else .inr bad)) (he:step (s n)=some (.inr ok)):
  Loop step (s 0)=some (if∀i,i<n→good i then ok else bad):=by
 have go: ∀(d k:Nat),k+d=n→((∀i,k≤i→i<n→good i)→Loop step (s k)=some ok)∧((¬∀i,k≤i→i<n→good i)→Loop step (s k)=some bad):=by
  intro d
  induction d with
  | zero=>
   intro k hk
   have:k=n:=by omega
   subst this
   exact ⟨fun _=>Loop_end he,fun hx=>absurd (fun i h1 h2=>by omega) hx⟩
  | succ d ih=>
   intro k hk
   have h1:=h k (by omega)
   by_cases hg:good k
   ·rw[if_pos hg] at h1
    rw[Loop_norm h1]
    obtain ⟨i1,i2⟩:=ih (k+1) (by omega)
    refine ⟨fun ha=>i1 fun i h1 h2=>ha i (by omega) h2,fun ha=>i2 fun hx=>ha fun i h1 h2=> ?_⟩
    by_cases hi:i=k
    ·rw[hi];exact hg
    ·exact hx i (by omega) h2
   ·rw[if_neg hg] at h1
    rw[Loop_end h1]
    exact ⟨fun ha=>absurd (ha k (Nat.le_refl _) (by omega)) hg,fun _=>rfl⟩
 obtain ⟨g1,g2⟩:=go n 0 (by omega)
 by_cases ha: ∀i,i<n→good i
 ·rw[if_pos ha];exact g1 fun i _ h=>ha i h
 ·rw[if_neg ha];exact g2 fun hx=>ha fun i h=>hx i (by omega) h
end
end Go.AM
set_option maxRecDepth 100000
set_option linter.unusedSimpArgs false
namespace Go.AM
theorem getD_at {α:Type} {l:List α} {i:Nat} {d:α} (h:i<l.length):l.getD i d=l[i]:=by simp[h]
structure Da where
 L:Nat
 st:Nat
 F:List Bool
 N:List (List Nat)
deriving DecidableEq
namespace Da
def n (d:Da):Nat:=d.F.length
def nx (d:Da) (q x:Nat):Nat:=(d.N.getD q []).getD x 0
def fin (d:Da) (q:Nat):Bool:=d.F.getD q false
def run (d:Da) (q:Nat) (w:List Nat):Nat:=w.foldl d.nx q
def acc (d:Da) (q:Nat) (w:List Nat):Bool:=d.fin (d.run q w)
structure Ok (d:Da):Prop where
 l1:1≤d.L
 l6:d.L≤6
 nN:d.N.length=d.n
 row: ∀r∈d.N,r.length=d.L∧∀q∈r,q<d.n
 s:d.st<d.n
 most:d.n≤512
end Da
def WL (L:Nat) (w:List Nat):Prop:= ∀x∈w,x<L
theorem WL.nil {L:Nat}:WL L []:=fun _ h=>by cases h
theorem WL.cons {L x:Nat} {w:List Nat} (h:x<L) (hw:WL L w):WL L (x::w):=fun y hy=>by
 rcases List.mem_cons.1 hy with rfl|hy
 ·exact h
 ·exact hw y hy
theorem WL.head {L x:Nat} {w:List Nat} (h:WL L (x::w)):x<L:=h x (by simp)
theorem WL.tail {L x:Nat} {w:List Nat} (h:WL L (x::w)):WL L w:=fun y hy=>h y (by simp[hy])
theorem WL.app {L:Nat} {v w:List Nat}:WL L (v++w)↔WL L v∧WL L w:=by
 unfold WL
 simp only[List.mem_append]
 exact ⟨fun h=>⟨fun x hx=>h x (.inl hx),fun x hx=>h x (.inr hx)⟩,fun h x hx=>hx.elim (h.1 x) (h.2 x)⟩
namespace Da
def Eqv (d:Da) (q:Nat) (d':Da) (q':Nat):Prop:= ∀w,WL d.L w→d.acc q w=d'.acc q' w
theorem Ok.nx_lt {d:Da} (h:d.Ok) {q x:Nat} (hq:q<d.n) (hx:x<d.L):d.nx q x<d.n:=by
 have hq':q<d.N.length:=by rw[h.nN];exact hq
 have hr:=h.row d.N[q] (List.getElem_mem hq')
 unfold nx
 rw[getD_at hq',getD_at (by omega)]
 exact hr.2 _ (List.getElem_mem _)
theorem Ok.run_lt {d:Da} (h:d.Ok): ∀(w:List Nat) {q:Nat},q<d.n→WL d.L w→d.run q w<d.n
 | [],q,hq,_=>hq
 | x::w,q,hq,hw=>h.run_lt w (h.nx_lt hq hw.head) hw.tail
theorem acc_cons {d:Da} {q x:Nat} {w:List Nat}:d.acc q (x::w)=d.acc (d.nx q x) w:=rfl
theorem run_app {d:Da} {q:Nat} {v w:List Nat}:d.run q (v++w)=d.run (d.run q v) w:=List.foldl_append
theorem acc_nil {d:Da} {q:Nat}:d.acc q []=d.fin q:=rfl
theorem Eqv.nx {d d':Da} {q q' x:Nat} (h:d.Eqv q d' q') (hx:x<d.L):d.Eqv (d.nx q x) d' (d'.nx q' x):=fun w hw=>h (x::w) (hw.cons hx)
def pos (d:Da) (t:Nat):Nat:=d.nx (t/d.L) (t %d.L)
def mt (d:Da):Nat→Nat
 | 0=>1
 | t+1=>if d.pos t=d.mt t then d.mt t+1 else d.mt t
structure Num (d:Da):Prop where
 le: ∀t,t<d.n*d.L→d.pos t≤d.mt t
 row: ∀q,q<d.n→q<d.mt (q*d.L)
 all:d.mt (d.n*d.L)=d.n
structure Canon (d:Da) (L:Nat) (K:List Nat→Bool):Prop where
 ok:d.Ok
 hL:d.L=L
 st:d.st=0
 num:d.Num
 red: ∀p q,p<d.n→q<d.n→d.Eqv p d q→p=q
 lang: ∀w,WL L w→d.acc 0 w=K w
theorem mt_mono (d:Da): ∀{s t:Nat},s≤t→d.mt s≤d.mt t:=by
 intro s t h
 induction t with
 | zero=>rw[Nat.le_zero.1 h];exact Nat.le_refl _
 | succ t ih=>
  rcases Nat.lt_or_ge s (t+1) with h1|h1
  ·have:=ih (by omega)
   have e:d.mt (t+1)=if d.pos t=d.mt t then d.mt t+1 else d.mt t:=rfl
   rw[e]
   split<;>omega
  ·rw[show s=t+1 by omega];exact Nat.le_refl _
theorem scan_eq {d d':Da} {K:List Nat→Bool} {L:Nat} (h:d.Canon L K) (h':d'.Canon L K): ∀t,t≤d.n*L→t≤d'.n*L→d.mt t=d'.mt t∧(∀s,s<t→d.pos s=d'.pos s)∧∀q,q<d.mt t→d.Eqv q d' q:=by
 intro t
 have e:=h.hL
 have e':=h'.hL
 have hl:=h.ok.l1
 induction t with
 | zero=>
  intro _ _
  refine ⟨rfl,fun s hs=>by omega,fun q hq=> ?_⟩
  obtain rfl:q=0:=by have:q<1:=hq;omega
  intro w hw
  rw[h.lang w (e▸hw),h'.lang w (e▸hw)]
 | succ t ih=>
  intro h1 h2
  obtain ⟨i1,i2,i3⟩:=ih (by omega) (by omega)
  have hm:d.mt t≤d.n:=by rw[←h.num.all];exact d.mt_mono (by rw[e];omega)
  have hm':d'.mt t≤d'.n:=by rw[←h'.num.all];exact d'.mt_mono (by rw[e'];omega)
  have hq:t/L<d.n:=by rw[Nat.div_lt_iff_lt_mul (by omega)];omega
  have hq':t/L<d'.n:=by rw[Nat.div_lt_iff_lt_mul (by omega)];omega
  have hx:t %L<L:=Nat.mod_lt _ (by omega)
  have hqm:t/L<d.mt t:=by
   have a:=h.num.row _ hq
   rw[e] at a
   have b:d.mt (t/L*L)≤d.mt t:=d.mt_mono (Nat.div_mul_le_self t L)
   omega
  have hE:=(i3 _ hqm).nx (by rw[e];exact hx)
  have p1:d.pos t=d.nx (t/L) (t %L):=by unfold pos;rw[e]
  have p2:d'.pos t=d'.nx (t/L) (t %L):=by unfold pos;rw[e']
  rw[←p1,←p2] at hE
  have l1:=h.num.le t (by rw[e];omega)
  have l2:=h'.num.le t (by rw[e'];omega)
  have b1:d.pos t<d.n:=by rw[p1];exact h.ok.nx_lt hq (by rw[e];exact hx)
  have b2:d'.pos t<d'.n:=by rw[p2];exact h'.ok.nx_lt hq' (by rw[e'];exact hx)
  have key:d.pos t=d'.pos t:=by
   rcases Nat.lt_or_ge (d.pos t) (d.mt t) with c|c
   ·have hA:=i3 _ c
    refine h'.red _ _ (by omega) b2 fun w hw=> ?_
    have hw2:WL d.L w:=by rw[e,←e'];exact hw
    rw[←hA w hw2,hE w hw2]
   ·rcases Nat.lt_or_ge (d'.pos t) (d.mt t) with c'|c'
    ·have hA:=i3 _ c'
     refine h.red _ _ b1 (by omega) fun w hw=> ?_
     rw[hE w hw,hA w hw]
    ·omega
  refine ⟨?_,?_,?_⟩
  ·unfold mt;rw[key,i1]
  ·intro s hs
   rcases Nat.lt_or_ge s t with c|c
   ·exact i2 s c
   ·rw[show s=t by omega];exact key
  ·intro q hq2
   rcases Nat.lt_or_ge q (d.mt t) with c|c
   ·exact i3 q c
   ·have:d.pos t=d.mt t∧q=d.mt t:=by
     unfold mt at hq2
     split at hq2
     ·rename_i h3;exact ⟨h3,by omega⟩
     ·omega
    rw[←key,this.1,←this.2] at hE
    exact hE
theorem ext_row {a b:List Nat} (hl:a.length=b.length) (h: ∀x,x<a.length→a.getD x 0=b.getD x 0):a=b:=by
 refine List.ext_getElem hl fun x h1 h2=> ?_
 have:=h x h1
 rwa [getD_at h1,getD_at h2] at this
theorem row_len {d:Da} (h:d.Ok) {q:Nat} (hq:q<d.n):(d.N.getD q []).length=d.L:=by
 have hq':q<d.N.length:=by rw[h.nN];exact hq
 rw[getD_at hq']
 exact (h.row _ (List.getElem_mem hq')).1
theorem Canon.eq {d d':Da} {K:List Nat→Bool} {L:Nat} (h:d.Canon L K) (h':d'.Canon L K):d=d':=by
 have e:=h.hL
 have e':=h'.hL
 have hl:=h.ok.l1
 rw[e] at hl
 have hn:d.n=d'.n:=by
  rcases Nat.lt_trichotomy d.n d'.n with c|c|c
  ·obtain ⟨s1,_,_⟩:=scan_eq h h' (d.n*L) (Nat.le_refl _) (Nat.mul_le_mul_right _ (by omega))
   have a:=h.num.all
   have b:=h'.num.row d.n c
   rw[e] at a
   rw[e'] at b
   omega
  ·exact c
  ·obtain ⟨s1,_,_⟩:=scan_eq h h' (d'.n*L) (Nat.mul_le_mul_right _ (by omega)) (Nat.le_refl _)
   have a:=h'.num.all
   have b:=h.num.row d'.n c
   rw[e'] at a
   rw[e] at b
   omega
 obtain ⟨s1,s2,s3⟩:=scan_eq h h' (d.n*L) (Nat.le_refl _) (by rw[hn];exact Nat.le_refl _)
 have a:=h.num.all
 rw[e] at a
 have hE: ∀q,q<d.n→d.Eqv q d' q:=fun q hq=>s3 q (by omega)
 have hP: ∀q x,q<d.n→x<L→d.nx q x=d'.nx q x:=fun q x hq hx=>by
  have:=s2 (q*L+x) (by
   have:(q+1)*L≤d.n*L:=Nat.mul_le_mul_right _ (by omega)
   rw[Nat.add_mul] at this
   omega)
  unfold pos at this
  rw[e,e'] at this
  rwa [show (q*L+x)/L=q by rw[Nat.mul_comm,Nat.mul_add_div (by omega),Nat.div_eq_of_lt hx];rfl,show (q*L+x) %L=x by rw[Nat.mul_comm,Nat.mul_add_mod,Nat.mod_eq_of_lt hx]] at this
 have hF:d.F=d'.F:=by
  refine List.ext_getElem hn fun q h1 h2=> ?_
  have:=hE q h1 [] WL.nil
  rw[acc_nil,acc_nil] at this
  unfold fin at this
  rwa [getD_at h1,getD_at h2] at this
 have hN:d.N=d'.N:=by
  refine List.ext_getElem (by rw[h.ok.nN,h'.ok.nN,hn]) fun q h1 h2=> ?_
  have hq:q<d.n:=by rw[←h.ok.nN];exact h1
  have r1:=row_len h.ok hq
  have r2:=row_len h'.ok (show q<d'.n by omega)
  have hx:=fun x hx=>hP q x hq hx
  unfold nx at hx
  rw[getD_at h1] at r1 hx
  rw[getD_at h2] at r2 hx
  exact ext_row (by omega) fun x h3=>hx x (by omega)
 obtain ⟨L1,s1,F1,N1⟩:=d
 obtain ⟨L2,s2,F2,N2⟩:=d'
 have q1:=h.st
 have q2:=h'.st
 simp only at*
 subst hF hN e e' q1 q2
 rfl
end Da
end Go.AM
set_option maxRecDepth 100000
set_option linter.unusedSimpArgs false
namespace Go.AM
section
variable {α:Type} [DecidableEq α]
def addB (S:List α) (a:α):List α:=if a∈S then S else S++[a]
def rowB (next:α→Nat→α) (S:List α) (a:α):Nat→List α
 | 0=>S
 | x+1=>addB (rowB next S a x) (next a x)
def bfs (L:Nat) (next:α→Nat→α) (a0:α):Nat→List α
 | 0=>[a0]
 | i+1=>match (bfs L next a0 i)[i]? with
  | some a=>rowB next (bfs L next a0 i) a L
  | none=>bfs L next a0 i
theorem addB_pre (S:List α) (a:α):S <+: addB S a:=by
 unfold addB;split
 ·exact List.prefix_refl _
 ·exact List.prefix_append _ _
theorem addB_mem {S:List α} {a:α}:a∈addB S a:=by
 unfold addB;split
 ·assumption
 ·simp
theorem addB_nodup {S:List α} {a:α} (h:S.Nodup):(addB S a).Nodup:=by
 unfold addB;split
 ·exact h
 ·rename_i h2
  refine List.nodup_append.2 ⟨h,by simp,fun x hx y hy e=> ?_⟩
  rw[List.mem_singleton.1 hy] at e
  exact h2 (e▸hx)
theorem addB_len {S:List α} {a:α}:(addB S a).length=if a∈S then S.length else S.length+1:=by
 unfold addB;split<;>simp
variable {L:Nat} {next:α→Nat→α} {a0:α}
theorem rowB_pre (S:List α) (a:α): ∀x,S <+: rowB next S a x
 | 0=>List.prefix_refl _
 | x+1=>(rowB_pre S a x).trans (addB_pre _ _)
theorem rowB_mono (S:List α) (a:α) {x y:Nat} (h:x≤y):rowB next S a x <+: rowB next S a y:=by
 induction y with
 | zero=>rw[Nat.le_zero.1 h];exact List.prefix_refl _
 | succ y ih=>
  rcases Nat.lt_or_ge x (y+1) with c|c
  ·exact (ih (by omega)).trans (addB_pre _ _)
  ·rw[show x=y+1 by omega];exact List.prefix_refl _
theorem rowB_nodup {S:List α} {a:α} (h:S.Nodup): ∀x,(rowB next S a x).Nodup
 | 0=>h
 | x+1=>addB_nodup (rowB_nodup h x)
theorem rowB_mem {S:List α} {a:α} {x y:Nat} (h:x<y):next a x∈rowB next S a y:=
 (rowB_mono S a (show x+1≤y by omega)).subset addB_mem
theorem bfs_step {i:Nat} {a:α} (h:(bfs L next a0 i)[i]? =some a):bfs L next a0 (i+1)=rowB next (bfs L next a0 i) a L:=by
 rw[bfs,h]
theorem bfs_stop {i:Nat} (h:(bfs L next a0 i).length≤i):bfs L next a0 (i+1)=bfs L next a0 i:=by
 rw[bfs,List.getElem?_eq_none h]
theorem bfs_pre (i:Nat):bfs L next a0 i <+: bfs L next a0 (i+1):=by
 rw[bfs]
 split
 ·exact rowB_pre _ _ _
 ·exact List.prefix_refl _
theorem bfs_mono {i j:Nat} (h:i≤j):bfs L next a0 i <+: bfs L next a0 j:=by
 induction j with
 | zero=>rw[Nat.le_zero.1 h];exact List.prefix_refl _
 | succ j ih=>
  rcases Nat.lt_or_ge i (j+1) with c|c
  ·exact (ih (by omega)).trans (bfs_pre j)
  ·rw[show i=j+1 by omega];exact List.prefix_refl _
theorem bfs_nodup: ∀i,(bfs L next a0 i).Nodup
 | 0=>by simp[bfs]
 | i+1=>by
  rw[bfs]
  split
  ·exact rowB_nodup (bfs_nodup i) _
  ·exact bfs_nodup i
theorem bfs_done {i j:Nat} (h:(bfs L next a0 i).length≤i) (hj:i≤j):bfs L next a0 j=bfs L next a0 i:=by
 induction j with
 | zero=>rw[Nat.le_zero.1 hj]
 | succ j ih=>
  rcases Nat.lt_or_ge i (j+1) with c|c
  ·rw[bfs_stop (by rw[ih (by omega)];omega),ih (by omega)]
  ·rw[show i=j+1 by omega]
theorem bfs_zero (i:Nat):(bfs L next a0 i)[0]? =some a0:=by
 have h:=bfs_mono (L:=L) (next:=next) (a0:=a0) (Nat.zero_le i)
 have h0:0<(bfs L next a0 0).length:=by simp[bfs]
 rw[List.getElem?_eq_getElem (Nat.lt_of_lt_of_le h0 h.length_le),←h.getElem h0]
 rfl
theorem bfs_pos (i:Nat):0<(bfs L next a0 i).length:=Nat.lt_of_lt_of_le (by simp[bfs]) (bfs_mono (L:=L) (next:=next) (a0:=a0) (Nat.zero_le i)).length_le
theorem bfs_reach: ∀i,∀a∈bfs L next a0 i,∃w,WL L w∧a=w.foldl next a0
 | 0,a,h=>⟨[],WL.nil,by simpa[bfs] using h⟩
 | i+1,a,h=>by
  rw[bfs] at h
  split at h
  ·rename_i b hb
   have hb':b∈bfs L next a0 i:=List.mem_of_getElem? hb
   obtain ⟨w,hw,rfl⟩:=bfs_reach i b hb'
   have: ∀x,x≤L→∀a∈rowB next (bfs L next a0 i) (w.foldl next a0) x,∃w,WL L w∧a=w.foldl next a0:=by
    intro x
    induction x with
    | zero=>intro _ a h;exact bfs_reach i a h
    | succ x ih=>
     intro hx a h
     rw[rowB] at h
     unfold addB at h
     split at h
     ·exact ih (by omega) a h
     ·rcases List.mem_append.1 h with h|h
      ·exact ih (by omega) a h
      ·refine ⟨w++[x],WL.app.2 ⟨hw,WL.nil.cons (by omega)⟩,?_⟩
       rw[List.mem_singleton.1 h,List.foldl_append];rfl
   exact this L (Nat.le_refl _) a h
  ·exact bfs_reach i a h
section
variable {k:Nat} (hd:(bfs L next a0 k).length≤k)
include hd
theorem bfs_known {i:Nat} (h:i<(bfs L next a0 k).length):i<(bfs L next a0 i).length:=by
 rcases Nat.lt_or_ge i (bfs L next a0 i).length with c|c
 ·exact c
 ·have:=bfs_done c (show i≤k by omega)
  rw[this] at h
  omega
theorem bfs_at {i:Nat} (h:i<(bfs L next a0 k).length):(bfs L next a0 i)[i]? =some (bfs L next a0 k)[i]:=by
 have h1:=bfs_known hd h
 rw[List.getElem?_eq_getElem h1,(bfs_mono (show i≤k by omega)).getElem h1]
theorem bfs_next {i:Nat} (h:i<(bfs L next a0 k).length):bfs L next a0 (i+1)=rowB next (bfs L next a0 i) (bfs L next a0 k)[i] L:=bfs_step (bfs_at hd h)
theorem bfs_closed {a:α} (h:a∈bfs L next a0 k) {x:Nat} (hx:x<L):next a x∈bfs L next a0 k:=by
 obtain ⟨i,hi,rfl⟩:=List.getElem_of_mem h
 have h1:next (bfs L next a0 k)[i] x∈bfs L next a0 (i+1):=by rw[bfs_next hd hi];exact rowB_mem hx
 rcases Nat.lt_or_ge i k with c|c
 ·exact (bfs_mono (show i+1≤k by omega)).subset h1
 ·omega
end
def daOf (L:Nat) (next:α→Nat→α) (fin:α→Bool) (S:List α):Da where
 L:=L
 st:=0
 F:=S.map fin
 N:=S.map fun a=>(List.range L).map fun x=>S.idxOf (next a x)
theorem daOf_n {fin:α→Bool} {S:List α}:(daOf L next fin S).n=S.length:=by simp[daOf,Da.n]
theorem daOf_nx {fin:α→Bool} {S:List α} {i x:Nat} (hi:i<S.length) (hx:x<L):(daOf L next fin S).nx i x=S.idxOf (next S[i] x):=by
 unfold Da.nx daOf
 simp[List.getD_eq_getElem?_getD,hi,hx]
theorem daOf_fin {fin:α→Bool} {S:List α} {i:Nat} (hi:i<S.length):(daOf L next fin S).fin i=fin S[i]:=by
 unfold Da.fin daOf
 simp[List.getD_eq_getElem?_getD,hi]
theorem idx_pre {S T:List α} (hp:T <+: S) {a:α} (h:a∈T):S.idxOf a=T.idxOf a:=by
 obtain ⟨U,rfl⟩:=hp
 rw[List.idxOf_append,if_pos h]
section
variable {k:Nat} (hd:(bfs L next a0 k).length≤k) {fin:α→Bool}
include hd
theorem daOf_step {i x:Nat} (hi:i<(bfs L next a0 k).length) (hx:x<L): ∃h:(daOf L next fin (bfs L next a0 k)).nx i x<(bfs L next a0 k).length,(bfs L next a0 k)[(daOf L next fin (bfs L next a0 k)).nx i x]=next (bfs L next a0 k)[i] x:=by
 have hm:=bfs_closed hd (List.getElem_mem hi) hx
 rw[daOf_nx hi hx]
 exact ⟨List.idxOf_lt_length_of_mem hm,List.getElem_idxOf _⟩
theorem daOf_run: ∀(w:List Nat) {i:Nat} (hi:i<(bfs L next a0 k).length),WL L w→∃h:(daOf L next fin (bfs L next a0 k)).run i w<(bfs L next a0 k).length,(bfs L next a0 k)[(daOf L next fin (bfs L next a0 k)).run i w]=w.foldl next (bfs L next a0 k)[i]
 | [],i,hi,_=>⟨hi,rfl⟩
 | x::w,i,hi,hw=>by
  obtain ⟨h1,h2⟩:=daOf_step (fin:=fin) hd hi hw.head
  obtain ⟨h3,h4⟩:=daOf_run w h1 hw.tail
  refine ⟨h3,?_⟩
  rw[List.foldl_cons,←h2]
  exact h4
theorem daOf_acc {w:List Nat} {i:Nat} (hi:i<(bfs L next a0 k).length) (hw:WL L w):(daOf L next fin (bfs L next a0 k)).acc i w=fin (w.foldl next (bfs L next a0 k)[i]):=by
 obtain ⟨h1,h2⟩:=daOf_run (fin:=fin) hd w hi hw
 unfold Da.acc
 rw[daOf_fin h1,h2]
theorem daOf_ok (h1:1≤L) (h6:L≤6) (hm:(bfs L next a0 k).length≤512):(daOf L next fin (bfs L next a0 k)).Ok where
 l1:=h1
 l6:=h6
 nN:=by rw[daOf_n];simp[daOf]
 row r hr:=by
  rw[daOf_n]
  obtain ⟨a,ha,rfl⟩:=List.mem_map.1 (show r∈(bfs L next a0 k).map _ from hr)
  refine ⟨by simp[daOf],fun q hq=> ?_⟩
  obtain ⟨x,hx,rfl⟩:=List.mem_map.1 hq
  exact List.idxOf_lt_length_of_mem (bfs_closed hd ha (List.mem_range.1 hx))
 s:=by rw[daOf_n];exact bfs_pos k
 most:=by rw[daOf_n];exact hm
theorem daOf_mt (h1:1≤L): ∀i,i≤(bfs L next a0 k).length→(daOf L next fin (bfs L next a0 k)).mt (i*L)=(bfs L next a0 i).length∧∀(hi:i<(bfs L next a0 k).length) x,x≤L→(daOf L next fin (bfs L next a0 k)).mt (i*L+x)=(rowB next (bfs L next a0 i) (bfs L next a0 k)[i] x).length:=by
 have key: ∀i,(daOf L next fin (bfs L next a0 k)).mt (i*L)=(bfs L next a0 i).length→∀(hi:i<(bfs L next a0 k).length) x,x≤L→(daOf L next fin (bfs L next a0 k)).mt (i*L+x)=(rowB next (bfs L next a0 i) (bfs L next a0 k)[i] x).length:=by
  intro i h hi x
  induction x with
  | zero=>intro _;exact h
  | succ x ih=>
   intro hx
   have ih:=ih (by omega)
   have hp:rowB next (bfs L next a0 i) (bfs L next a0 k)[i] (x+1) <+: bfs L next a0 k:=by
    refine (rowB_mono _ _ hx).trans ?_
    rw[←bfs_next hd hi]
    exact bfs_mono (by omega)
   have hp0:rowB next (bfs L next a0 i) (bfs L next a0 k)[i] x <+: bfs L next a0 k:=(rowB_mono _ _ (by omega)).trans hp
   have hpos:(daOf L next fin (bfs L next a0 k)).pos (i*L+x)=(bfs L next a0 k).idxOf (next (bfs L next a0 k)[i] x):=by
    unfold Da.pos
    rw[show (daOf L next fin (bfs L next a0 k)).L=L from rfl,show (i*L+x)/L=i by rw[Nat.mul_comm,Nat.mul_add_div (by omega),Nat.div_eq_of_lt (by omega)];rfl,show (i*L+x) %L=x by rw[Nat.mul_comm,Nat.mul_add_mod,Nat.mod_eq_of_lt (by omega)],daOf_nx hi (by omega)]
   show (daOf L next fin (bfs L next a0 k)).mt ((i*L+x)+1)=_
   rw[Da.mt,hpos,ih,rowB]
   rw[rowB] at hp
   generalize rowB next (bfs L next a0 i) (bfs L next a0 k)[i] x=T at*
   generalize next (bfs L next a0 k)[i] x=b at*
   rw[addB_len]
   by_cases hb:b∈T
   ·rw[if_pos hb,idx_pre hp0 hb,if_neg (by have:=List.idxOf_lt_length_of_mem hb;omega)]
   ·rw[if_neg hb]
    unfold addB at hp
    rw[if_neg hb] at hp
    rw[idx_pre hp (by simp),List.idxOf_append,if_neg hb]
    simp
 intro i
 induction i with
 | zero=>
  intro _
  have:(daOf L next fin (bfs L next a0 k)).mt (0*L)=(bfs L next a0 0).length:=by rw[Nat.zero_mul];rfl
  exact ⟨this,key 0 this⟩
 | succ i ih=>
  intro hi
  obtain ⟨_,h3⟩:=ih (by omega)
  have h4:=h3 (by omega) L (Nat.le_refl _)
  rw[←bfs_next hd (by omega),←Nat.succ_mul] at h4
  exact ⟨h4,key (i+1) h4⟩
theorem bfs_len:(bfs L next a0 (bfs L next a0 k).length)=bfs L next a0 k:=by
 have hp:=bfs_mono (L:=L) (next:=next) (a0:=a0) hd
 exact (bfs_done hp.length_le hd).symm
theorem daOf_num (h1:1≤L):(daOf L next fin (bfs L next a0 k)).Num where
 le t ht:=by
  rw[daOf_n] at ht
  have hq:t/L<(bfs L next a0 k).length:=by rw[Nat.div_lt_iff_lt_mul (by omega)];exact ht
  have hx:t %L<L:=Nat.mod_lt _ (by omega)
  have ht2:t/L*L+t %L=t:=Nat.div_add_mod' t L
  have h2:=(daOf_mt (fin:=fin) hd h1 (t/L) (by omega)).2 hq (t %L) (by omega)
  rw[ht2] at h2
  rw[h2]
  unfold Da.pos
  rw[show (daOf L next fin (bfs L next a0 k)).L=L from rfl,daOf_nx hq hx]
  have hp:rowB next (bfs L next a0 (t/L)) (bfs L next a0 k)[t/L] (t %L+1) <+: bfs L next a0 k:=by
   refine (rowB_mono _ _ (show t %L+1≤L by omega)).trans ?_
   rw[←bfs_next hd hq]
   exact bfs_mono (by omega)
  rw[rowB] at hp
  generalize rowB next (bfs L next a0 (t/L)) (bfs L next a0 k)[t/L] (t %L)=T at*
  generalize next (bfs L next a0 k)[t/L] (t %L)=b at*
  rw[idx_pre hp addB_mem]
  have:=List.idxOf_lt_length_of_mem (addB_mem (S:=T) (a:=b))
  rw[addB_len] at this
  split at this<;>omega
 row q hq:=by
  rw[daOf_n] at hq
  rw[show (daOf L next fin (bfs L next a0 k)).L=L from rfl,(daOf_mt hd h1 q (by omega)).1]
  exact bfs_known hd hq
 all:=by
  rw[daOf_n,show (daOf L next fin (bfs L next a0 k)).L=L from rfl,(daOf_mt hd h1 _ (Nat.le_refl _)).1,bfs_len hd]
end
theorem bfs_fin {U:List α} (h0:a0∈U) (hU: ∀a∈U,∀x,x<L→next a x∈U) (k:Nat):bfs L next a0 k ⊆ U:=by
 intro a ha
 obtain ⟨w,hw,rfl⟩:=bfs_reach k a ha
 have: ∀(w:List Nat) (b:α),b∈U→WL L w→w.foldl next b∈U:=by
  intro w
  induction w with
  | nil=>intro b hb _;exact hb
  | cons x w ih=>intro b hb hw;exact ih _ (hU b hb x hw.head) hw.tail
 exact this w a0 h0 hw
theorem bfs_fin_len {U:List α} (h0:a0∈U) (hU: ∀a∈U,∀x,x<L→next a x∈U) (k:Nat):(bfs L next a0 k).length≤U.length:=
 List.Nodup.length_le_of_subset (bfs_nodup k) (bfs_fin h0 hU k)
end
namespace Da
def trim (d:Da):Da:=daOf d.L d.nx d.fin (bfs d.L d.nx d.st d.n)
theorem Ok.bfs_le {d:Da} (h:d.Ok) (k:Nat):(bfs d.L d.nx d.st k).length≤d.n:=by
 have:=bfs_fin_len (L:=d.L) (next:=d.nx) (a0:=d.st) (U:=List.range d.n) (List.mem_range.2 h.s) (fun a ha x hx=>List.mem_range.2 (h.nx_lt (List.mem_range.1 ha) hx)) k
 simpa using this
theorem Ok.bfs_lt {d:Da} (h:d.Ok) (k:Nat): ∀q∈bfs d.L d.nx d.st k,q<d.n:=fun q hq=>by
 have:=bfs_fin (L:=d.L) (next:=d.nx) (a0:=d.st) (U:=List.range d.n) (List.mem_range.2 h.s) (fun a ha x hx=>List.mem_range.2 (h.nx_lt (List.mem_range.1 ha) hx)) k hq
 exact List.mem_range.1 this
theorem Ok.trim_ok {d:Da} (h:d.Ok):d.trim.Ok:=daOf_ok (h.bfs_le _) h.l1 h.l6 (Nat.le_trans (h.bfs_le _) h.most)
theorem Ok.trim_acc {d:Da} (h:d.Ok) {i:Nat} (hi:i<(bfs d.L d.nx d.st d.n).length) {w:List Nat} (hw:WL d.L w):d.trim.acc i w=d.acc (bfs d.L d.nx d.st d.n)[i] w:=daOf_acc (h.bfs_le _) hi hw
theorem Ok.trim_lang {d:Da} (h:d.Ok) {w:List Nat} (hw:WL d.L w):d.trim.acc 0 w=d.acc d.st w:=by
 rw[h.trim_acc (bfs_pos _) hw]
 have:=bfs_zero (L:=d.L) (next:=d.nx) (a0:=d.st) d.n
 rw[List.getElem?_eq_getElem (bfs_pos _)] at this
 rw[Option.some.inj this]
theorem Ok.trim_canon {d:Da} (h:d.Ok) (hr: ∀p q,p<d.n→q<d.n→d.Eqv p d q→p=q):d.trim.Canon d.L (d.acc d.st) where
 ok:=h.trim_ok
 hL:=rfl
 st:=rfl
 num:=daOf_num (h.bfs_le _) h.l1
 red p q hp hq he:=by
  unfold trim at hp hq
  rw[daOf_n] at hp hq
  have h1:d.Eqv (bfs d.L d.nx d.st d.n)[p] d (bfs d.L d.nx d.st d.n)[q]:=fun w hw=>by
   rw[←h.trim_acc hp hw,←h.trim_acc hq hw];exact he w hw
  have h2:=hr _ _ (h.bfs_lt _ _ (List.getElem_mem hp)) (h.bfs_lt _ _ (List.getElem_mem hq)) h1
  rw[←List.Nodup.idxOf_getElem (bfs_nodup _) p hp,←List.Nodup.idxOf_getElem (bfs_nodup _) q hq,h2]
 lang w hw:=h.trim_lang hw
end Da
end Go.AM
set_option maxRecDepth 100000
namespace Go.AM
open Go.Proofs
noncomputable abbrev B_dfa_Validate:Code:=bodyOf Tryd.prog (ann.fid 40)
noncomputable def s_dfa_Validate_1 (C:CallF) (states:Int) (t38:List V) (t39 t40:Int) (t49:List V) (t50 ds_0 ds_1:Int) (ds_2 ds_3:List V) (t51:Int) {β:Type} (kn:Int→Option β) (kr:((Int) ⊕ (Int × Bool))→Option β):Option β:=
 bif decide ((t51:Int)<t50) then
  (idx t49 t51).bind fun x2=>
  bif decide ((x2.toInt:Int)<0) then
  kr (.inl 4)
  else
  bif decide ((x2.toInt:Int)≥states) then
   kr (.inl 4)
  else
   kn (IntKind.wrap .i64 (t51+1))
 else
  kr (.inr (t51,decide ((t51:Int)<t50)))
noncomputable def s_dfa_Validate_1L (C:CallF) (states:Int) (t38:List V) (t39 t40:Int) (t49:List V) (t50 ds_0 ds_1:Int) (ds_2 ds_3:List V):(Int)→Option ((Int) ⊕ ((Int) ⊕ (Int × Bool))):=fun t51=>s_dfa_Validate_1 C states t38 t39 t40 t49 t50 ds_0 ds_1 ds_2 ds_3 t51 (fun y=>some (.inl y)) (fun r=>some (.inr r))
noncomputable def s_dfa_Validate_2 (C:CallF) (states:Int) (t38:List V) (t39 ds_0 ds_1:Int) (ds_2 ds_3:List V) (t40:Int) {β:Type} (kn:Int→Option β) (kr:((Int) ⊕ (Int × Bool))→Option β):Option β:=
 bif decide ((t40:Int)<t39) then
  (idx t38 t40).bind fun x1=>
  bif ((x1.toList.length:Int):Int) != ds_0 then
  kr (.inl 4)
  else
  (Loop (s_dfa_Validate_1L C states t38 t39 t40 x1.toList (x1.toList.length:Int) ds_0 ds_1 ds_2 ds_3) 0).bind (way2 (fun (t_3:Int)=>
   kr (.inl t_3)) (un fun (t_4:Int) (t_5:Bool)=>
   kn (IntKind.wrap .i64 (t40+1))))
 else
  kr (.inr (t40,decide ((t40:Int)<t39)))
noncomputable def s_dfa_Validate_2L (C:CallF) (states:Int) (t38:List V) (t39 ds_0 ds_1:Int) (ds_2 ds_3:List V):(Int)→Option ((Int) ⊕ ((Int) ⊕ (Int × Bool))):=fun t40=>s_dfa_Validate_2 C states t38 t39 ds_0 ds_1 ds_2 ds_3 t40 (fun y=>some (.inl y)) (fun r=>some (.inr r))
noncomputable def LT_dfa_Validate (C:CallF):LTab:=fun β n ds k=>
 bif Nat.beq n 225 then loopS S40_225 [false,false,false,false,false,false,true,false,false,false,false] [[0],[1,2,3,4,5,6,0,0,8,9,10,11]] (@s_dfa_Validate_1 C) ds k else
 bif Nat.beq n 145 then loopS S40_145 [false,false,false,true,false,false,false,false] [[0],[1,2,3,0,0,5,6,7,8]] (@s_dfa_Validate_2 C) ds k else
 none
abbrev TS_dfa_Validate (C:CallF) (b:Bar):Prop:=Tells Tryd.prog ann C (LT_dfa_Validate C) 40 (ntmpsOf Tryd.prog (ann.fid 40)) (ann.sin 40).blks.length b
theorem t_dfa_Validate_1 (C:CallF):TS_dfa_Validate C (.loop (codeAt [1,1,1,1,1,0,1,0,0,1,1,0,0,1,1,1,0,0] B_dfa_Validate)):=
 tl3 S40_225 [false,false,false,false,false,false,true,false,false,false,false] [[0],[1,2,3,4,5,6,0,0,8,9,10,11]] (@s_dfa_Validate_1 C) (by kernel_rfl) (ltok_of (bs:=[]) (by kernel_rfl) tells_nil) (fun ds=>by kernel_rfl) (fun i x=>by kernel_rfl) (fun i x β k=>by kernel_rfl) (fun β ds k=>by kernel_rfl)
theorem t_dfa_Validate_2 (C:CallF):TS_dfa_Validate C (.loop (codeAt [1,1,1,1,1,0,1,0,0] B_dfa_Validate)):=
 tl3 S40_145 [false,false,false,true,false,false,false,false] [[0],[1,2,3,0,0,5,6,7,8]] (@s_dfa_Validate_2 C) (by kernel_rfl) (ltok_of (bs:=[.loop (codeAt [1,1,1,1,1,0,1,0,0,1,1,0,0,1,1,1,0,0] B_dfa_Validate)]) (by kernel_rfl) (tells_cons (t_dfa_Validate_1 C) tells_nil)) (fun ds=>by kernel_rfl) (fun i x=>by kernel_rfl) (fun i x β k=>by kernel_rfl) (fun β ds k=>by kernel_rfl)
noncomputable def f_dfa_Validate (C:CallF) (d_0 d_1:Int) (d_2 d_3:List V):Option (List V):=
 bif decide ((d_0:Int)<1) then
  some [.int .i64 1]
 else
  bif decide ((d_0:Int)>6) then
  some [.int .i64 1]
  else
  bif decide (((d_2.length:Int):Int)>512) then
   some [.int .i64 3]
  else
   bif ((d_3.length:Int):Int) != (d_2.length:Int) then
   some [.int .i64 4]
   else
   bif decide ((d_1:Int)<0) then
    some [.int .i64 4]
   else
    bif decide ((d_1:Int)≥(d_2.length:Int)) then
    some [.int .i64 4]
    else
    (Loop (s_dfa_Validate_2L C (d_2.length:Int) d_3 (d_3.length:Int) d_0 d_1 d_2 d_3) 0).bind (way2 (fun (t_6:Int)=>
     some [.int .i64 t_6]) (un fun (t_7:Int) (t_8:Bool)=>
     some [.int .i64 0]))
theorem f_dfa_Validate_of {d_0 d_1:Int} {d_2 d_3:List V} {r:Option (List V)} (h:f_dfa_Validate CC d_0 d_1 d_2 d_3=r):CC F_dfa_Validate [.int .i64 d_0,.int .i64 d_1,.list T_bool d_2,.list T_l_int d_3]=r:=
 func_of (key:=40) (L:=LT_dfa_Validate CC) (bs:=[.loop (codeAt [1,1,1,1,1,0,1,0,0] B_dfa_Validate)]) (by kernel_rfl) (tells_cons (t_dfa_Validate_2 CC) tells_nil) (Eq.trans (by kernel_rfl) h)
end Go.AM
set_option maxRecDepth 100000
namespace Go.AM
open Go.Proofs
noncomputable abbrev B_semigroupref07_Validate:Code:=bodyOf Tryd.prog (ann.fid 16)
noncomputable def s_semigroupref07_Validate_1 (C:CallF) (n:Int) (t38:List V) (t39 t40:Int) (t49:List V) (t50 ds_0 ds_1:Int) (ds_2 ds_3:List V) (t51:Int) {β:Type} (kn:Int→Option β) (kr:((Int) ⊕ (Int × Bool))→Option β):Option β:=
 bif decide ((t51:Int)<t50) then
  (idx t49 t51).bind fun x3=>
  bif decide ((x3.toInt:Int)<0) then
  kr (.inl 4)
  else
  bif decide ((x3.toInt:Int)≥n) then
   kr (.inl 4)
  else
   kn (IntKind.wrap .i64 (t51+1))
 else
  kr (.inr (t51,decide ((t51:Int)<t50)))
noncomputable def s_semigroupref07_Validate_1L (C:CallF) (n:Int) (t38:List V) (t39 t40:Int) (t49:List V) (t50 ds_0 ds_1:Int) (ds_2 ds_3:List V):(Int)→Option ((Int) ⊕ ((Int) ⊕ (Int × Bool))):=fun t51=>s_semigroupref07_Validate_1 C n t38 t39 t40 t49 t50 ds_0 ds_1 ds_2 ds_3 t51 (fun y=>some (.inl y)) (fun r=>some (.inr r))
noncomputable def s_semigroupref07_Validate_2 (C:CallF) (n:Int) (t38:List V) (t39 ds_0 ds_1:Int) (ds_2 ds_3:List V) (t40:Int) {β:Type} (kn:Int→Option β) (kr:((Int) ⊕ (Int × Bool))→Option β):Option β:=
 bif decide ((t40:Int)<t39) then
  (idx t38 t40).bind fun x2=>
  bif ((x2.toList.length:Int):Int) != ds_0 then
  kr (.inl 4)
  else
  (Loop (s_semigroupref07_Validate_1L C n t38 t39 t40 x2.toList (x2.toList.length:Int) ds_0 ds_1 ds_2 ds_3) 0).bind (way2 (fun (t_4:Int)=>
   kr (.inl t_4)) (un fun (t_5:Int) (t_6:Bool)=>
   kn (IntKind.wrap .i64 (t40+1))))
 else
  kr (.inr (t40,decide ((t40:Int)<t39)))
noncomputable def s_semigroupref07_Validate_2L (C:CallF) (n:Int) (t38:List V) (t39 ds_0 ds_1:Int) (ds_2 ds_3:List V):(Int)→Option ((Int) ⊕ ((Int) ⊕ (Int × Bool))):=fun t40=>s_semigroupref07_Validate_2 C n t38 t39 ds_0 ds_1 ds_2 ds_3 t40 (fun y=>some (.inl y)) (fun r=>some (.inr r))
noncomputable def LT_semigroupref07_Validate (C:CallF):LTab:=fun β n ds k=>
 bif Nat.beq n 225 then loopS S16_225 [false,false,false,false,false,false,true,false,false,false,false] [[0],[1,2,3,4,5,6,0,0,8,9,10,11]] (@s_semigroupref07_Validate_1 C) ds k else
 bif Nat.beq n 145 then loopS S16_145 [false,false,false,true,false,false,false,false] [[0],[1,2,3,0,0,5,6,7,8]] (@s_semigroupref07_Validate_2 C) ds k else
 none
abbrev TS_semigroupref07_Validate (C:CallF) (b:Bar):Prop:=Tells Tryd.prog ann C (LT_semigroupref07_Validate C) 16 (ntmpsOf Tryd.prog (ann.fid 16)) (ann.sin 16).blks.length b
theorem t_semigroupref07_Validate_1 (C:CallF):TS_semigroupref07_Validate C (.loop (codeAt [1,1,1,1,1,0,1,0,0,1,1,0,0,1,1,1,0,0] B_semigroupref07_Validate)):=
 tl3 S16_225 [false,false,false,false,false,false,true,false,false,false,false] [[0],[1,2,3,4,5,6,0,0,8,9,10,11]] (@s_semigroupref07_Validate_1 C) (by kernel_rfl) (ltok_of (bs:=[]) (by kernel_rfl) tells_nil) (fun ds=>by kernel_rfl) (fun i x=>by kernel_rfl) (fun i x β k=>by kernel_rfl) (fun β ds k=>by kernel_rfl)
theorem t_semigroupref07_Validate_2 (C:CallF):TS_semigroupref07_Validate C (.loop (codeAt [1,1,1,1,1,0,1,0,0] B_semigroupref07_Validate)):=
 tl3 S16_145 [false,false,false,true,false,false,false,false] [[0],[1,2,3,0,0,5,6,7,8]] (@s_semigroupref07_Validate_2 C) (by kernel_rfl) (ltok_of (bs:=[.loop (codeAt [1,1,1,1,1,0,1,0,0,1,1,0,0,1,1,1,0,0] B_semigroupref07_Validate)]) (by kernel_rfl) (tells_cons (t_semigroupref07_Validate_1 C) tells_nil)) (fun ds=>by kernel_rfl) (fun i x=>by kernel_rfl) (fun i x β k=>by kernel_rfl) (fun β ds k=>by kernel_rfl)
noncomputable def f_semigroupref07_Validate (C:CallF) (d_0 d_1:Int) (d_2 d_3:List V):Option (List V):=
 (C F_semigroupref01_MayLetters [.int .i64 d_0]).bind fun r1=>
 bif !((V.nth r1 0).toBool) then
  some [.int .i64 1]
 else
  bif decide (((d_2.length:Int):Int)>512) then
  some [.int .i64 3]
  else
  bif ((d_2.length:Int):Int)==0 then
   some [.int .i64 4]
  else
   bif ((d_3.length:Int):Int) != (d_2.length:Int) then
   some [.int .i64 4]
   else
   bif decide ((d_1:Int)<0) then
    some [.int .i64 4]
   else
    bif decide ((d_1:Int)≥(d_2.length:Int)) then
    some [.int .i64 4]
    else
    (Loop (s_semigroupref07_Validate_2L C (d_2.length:Int) d_3 (d_3.length:Int) d_0 d_1 d_2 d_3) 0).bind (way2 (fun (t_7:Int)=>
     some [.int .i64 t_7]) (un fun (t_8:Int) (t_9:Bool)=>
     some [.int .i64 0]))
theorem f_semigroupref07_Validate_of {d_0 d_1:Int} {d_2 d_3:List V} {r:Option (List V)} (h:f_semigroupref07_Validate CC d_0 d_1 d_2 d_3=r):CC F_semigroupref07_Validate [.int .i64 d_0,.int .i64 d_1,.list T_bool d_2,.list T_l_int d_3]=r:=
 func_of (key:=16) (L:=LT_semigroupref07_Validate CC) (bs:=[.loop (codeAt [1,1,1,1,1,0,1,0,0] B_semigroupref07_Validate)]) (by kernel_rfl) (tells_cons (t_semigroupref07_Validate_2 CC) tells_nil) (Eq.trans (by kernel_rfl) h)
end Go.AM
set_option maxRecDepth 100000
namespace Go.AM
open Go.Proofs
noncomputable def f_semigroupref01_MayLetters (C:CallF) (letters:Int):Option (List V):=
 bif decide ((letters:Int)≥1) then
  some [.bool (decide ((letters:Int)≤6))]
 else
  some [.bool false]
theorem f_semigroupref01_MayLetters_of {letters:Int} {r:Option (List V)} (h:f_semigroupref01_MayLetters CC letters=r):CC F_semigroupref01_MayLetters [.int .i64 letters]=r:=
 func_of (key:=55) (L:=LT0) (bs:=[]) (by kernel_rfl) tells_nil (Eq.trans (by kernel_rfl) h)
end Go.AM
set_option maxRecDepth 100000
set_option linter.unusedSimpArgs false
namespace Go.AM
open Go.Proofs
theorem MayLetters_spec (n:Int):CC F_semigroupref01_MayLetters [.int .i64 n]=some [.bool (decide (1≤n∧n≤6))]:=by
 refine f_semigroupref01_MayLetters_of ?_
 unfold f_semigroupref01_MayLetters
 rw[bif_decide]
 split
 ·refine congrArg (fun b=>some [V.bool b]) ?_;rw[decide_eq_decide];omega
 ·have: ¬(1≤n∧n≤6):=by omega
  simp[this]
end Go.AM
set_option maxRecDepth 100000
set_option linter.unusedSimpArgs false
namespace Go.AM
open Go.Proofs
abbrev iV (n:Int):V:= .int .i64 n
def rowL (r:List Int):V:= .list T_int (r.map iV)
@[simp] theorem rowL_list (r:List Int):(rowL r).toList=r.map iV:=by simp[rowL]
structure Df where
 L:Int
 st:Int
 F:List Bool
 N:List (List Int)
def dfaA (d:Df) (l:List V):List V:= .int .i64 d.L:: .int .i64 d.st:: .list T_bool (d.F.map V.bool):: .list T_l_int (d.N.map rowL)::l
namespace Df
structure Ok (d:Df):Prop where
 L1: -9223372036854775808≤d.L
 L2:d.L≤9223372036854775807
 s1: -9223372036854775808≤d.st
 s2:d.st≤9223372036854775807
 F:d.F.length≤maxLen
 N:d.N.length≤maxLen
 row: ∀r∈d.N,r.length≤maxLen∧∀q∈r,-9223372036854775808≤q∧q≤9223372036854775807
def cellOk (d:Df) (r:List Int) (i:Nat):Prop:=0≤r.getD i 0∧r.getD i 0<d.F.length
instance (d:Df) (r:List Int):DecidablePred (d.cellOk r):=fun i=>by unfold cellOk;infer_instance
def rowOk (d:Df) (q:Nat):Prop:=((d.N.getD q []).length:Int)=d.L∧∀i,i<(d.N.getD q []).length→d.cellOk (d.N.getD q []) i
instance (d:Df):DecidablePred d.rowOk:=fun i=>by unfold rowOk;infer_instance
def val (d:Df):Int:=
 if d.L<1∨6<d.L then 1
 else if 512<d.F.length then 3
 else if d.N.length≠d.F.length∨d.st<0∨(d.F.length:Int)≤d.st then 4
 else if∀q,q<d.N.length→d.rowOk q then 0 else 4
end Df
theorem idx_getD {α:Type} {f:α→V} {l:List α} {i:Nat} {z:α} (h:i<l.length):idx (l.map f) (i:Int)=some (f (l.getD i z)):=by
 rw[idx_map rfl h];simp[h]
section
variable {d:Df} (hd:d.Ok)
include hd
theorem row_le {q:Nat} (h:q<d.N.length):(d.N.getD q []).length≤maxLen:=by
 rw[show d.N.getD q []=d.N[q] by simp[h]]
 exact (hd.row _ (List.getElem_mem h)).1
theorem dfaVal_in {q:Nat} (hq:q<d.N.length) {t38:List V} {t39:Int} {a b:Int} {l1 l2:List V}:
  Loop (s_dfa_Validate_1L CC (d.F.length:Int) t38 t39 (q:Int) ((d.N.getD q []).map iV) (((d.N.getD q []).map iV).length:Int) a b l1 l2) 0=
   some (if∀i,i<(d.N.getD q []).length→d.cellOk (d.N.getD q []) i then .inr (((d.N.getD q []).length:Int),false) else .inl 4):=by
 have hl:=row_le hd hq
 have hm:=maxLen_le
 generalize d.N.getD q []=r at*
 refine Loop_all (d.cellOk r) r.length (fun i=>(i:Int)) (.inl 4:Int ⊕ (Int × Bool)) (.inr ((r.length:Int),false)) (fun i hi=> ?_) ?_
 ·simp only[s_dfa_Validate_1L,s_dfa_Validate_1,List.length_map,bif_decide]
  rw[if_pos (by omega),idx_getD (z:=0) hi]
  simp only[Option.bind_some,V.toInt_int]
  by_cases h1:r.getD i 0<0
  ·rw[if_pos h1,if_neg (show¬d.cellOk r i from fun h=>by unfold Df.cellOk at h;omega)]
  ·rw[if_neg h1]
   by_cases h2:r.getD i 0≥(d.F.length:Int)
   ·rw[if_pos h2,if_neg (show¬d.cellOk r i from fun h=>by unfold Df.cellOk at h;omega)]
   ·rw[if_neg h2,if_pos (show d.cellOk r i from ⟨by omega,by omega⟩),wrap64 (by omega) (by omega)];rfl
 ·simp only[s_dfa_Validate_1L,s_dfa_Validate_1,List.length_map,bif_decide]
  rw[if_neg (by omega),decide_eq_false (by omega)]
theorem dfaVal_out {a b:Int} {l1 l2:List V}:
  Loop (s_dfa_Validate_2L CC (d.F.length:Int) (d.N.map rowL) ((d.N.map rowL).length:Int) d.L b l1 l2) 0=
   some (if∀q,q<d.N.length→d.rowOk q then .inr ((d.N.length:Int),false) else .inl 4):=by
 have hm:=maxLen_le
 have hN:=hd.N
 refine Loop_all d.rowOk d.N.length (fun i=>(i:Int)) (.inl 4:Int ⊕ (Int × Bool)) (.inr ((d.N.length:Int),false)) (fun q hq=> ?_) ?_
 ·simp only[s_dfa_Validate_2L,s_dfa_Validate_2,List.length_map,bif_decide]
  rw[if_pos (by omega),idx_getD (z:=[]) hq]
  simp only[Option.bind_some,rowL_list,List.length_map,bif_bne]
  have:=dfaVal_in hd hq (t38:=d.N.map rowL) (t39:=(d.N.length:Int)) (a:=d.L) (b:=b) (l1:=l1) (l2:=l2)
  rw[List.length_map] at this
  by_cases h1:((d.N.getD q []).length:Int)=d.L
  ·rw[if_pos h1]
   refine bs this ?_
   by_cases h2: ∀i,i<(d.N.getD q []).length→d.cellOk (d.N.getD q []) i
   ·rw[if_pos h2,if_pos (show d.rowOk q from ⟨h1,h2⟩)]
    simp only[way2,un]
    rw[wrap64 (by omega) (by omega)];rfl
   ·rw[if_neg h2,if_neg (show¬d.rowOk q from fun h=>h2 h.2)];rfl
  ·rw[if_neg h1,if_neg (show¬d.rowOk q from fun h=>h1 h.1)]
 ·simp only[s_dfa_Validate_2L,s_dfa_Validate_2,List.length_map,bif_decide]
  rw[if_neg (by omega),decide_eq_false (by omega)]
theorem dfaValidate_spec:CC F_dfa_Validate (dfaA d [])=some [.int .i64 d.val]:=by
 refine f_dfa_Validate_of ?_
 unfold f_dfa_Validate Df.val
 simp only[List.length_map,bif_decide,bif_bne]
 have h:=dfaVal_out hd (a:=0) (b:=d.st) (l1:=d.F.map V.bool) (l2:=d.N.map rowL)
 rw[List.length_map] at h
 by_cases h1:d.L<1
 ·rw[if_pos h1,if_pos (.inl h1)]
 rw[if_neg h1]
 by_cases h2:d.L>6
 ·rw[if_pos h2,if_pos (.inr h2)]
 rw[if_neg h2,if_neg (show¬(d.L<1∨6<d.L) by omega)]
 by_cases h3:512<d.F.length
 ·rw[if_pos (show (d.F.length:Int)>512 by omega),if_pos h3]
 rw[if_neg (show¬(d.F.length:Int)>512 by omega),if_neg h3]
 by_cases h4:d.N.length=d.F.length
 ·rw[if_pos (show (d.N.length:Int)=(d.F.length:Int) by omega)]
  by_cases h5:d.st<0
  ·rw[if_pos h5,if_pos (.inr (.inl h5))]
  rw[if_neg h5]
  by_cases h6:d.st≥(d.F.length:Int)
  ·rw[if_pos h6,if_pos (.inr (.inr h6))]
  rw[if_neg h6,if_neg (show¬(d.N.length≠d.F.length∨d.st<0∨(d.F.length:Int)≤d.st) by omega)]
  refine bs h ?_
  split<;>rfl
 ·rw[if_neg (show¬(d.N.length:Int)=(d.F.length:Int) by omega),if_pos (.inl h4)]
theorem refVal_in {q:Nat} (hq:q<d.N.length) {t38:List V} {t39:Int} {a b:Int} {l1 l2:List V}:
  Loop (s_semigroupref07_Validate_1L CC (d.F.length:Int) t38 t39 (q:Int) ((d.N.getD q []).map iV) (((d.N.getD q []).map iV).length:Int) a b l1 l2) 0=
   some (if∀i,i<(d.N.getD q []).length→d.cellOk (d.N.getD q []) i then .inr (((d.N.getD q []).length:Int),false) else .inl 4):=by
 have hl:=row_le hd hq
 have hm:=maxLen_le
 generalize d.N.getD q []=r at*
 refine Loop_all (d.cellOk r) r.length (fun i=>(i:Int)) (.inl 4:Int ⊕ (Int × Bool)) (.inr ((r.length:Int),false)) (fun i hi=> ?_) ?_
 ·simp only[s_semigroupref07_Validate_1L,s_semigroupref07_Validate_1,List.length_map,bif_decide]
  rw[if_pos (by omega),idx_getD (z:=0) hi]
  simp only[Option.bind_some,V.toInt_int]
  by_cases h1:r.getD i 0<0
  ·rw[if_pos h1,if_neg (show¬d.cellOk r i from fun h=>by unfold Df.cellOk at h;omega)]
  ·rw[if_neg h1]
   by_cases h2:r.getD i 0≥(d.F.length:Int)
   ·rw[if_pos h2,if_neg (show¬d.cellOk r i from fun h=>by unfold Df.cellOk at h;omega)]
   ·rw[if_neg h2,if_pos (show d.cellOk r i from ⟨by omega,by omega⟩),wrap64 (by omega) (by omega)];rfl
 ·simp only[s_semigroupref07_Validate_1L,s_semigroupref07_Validate_1,List.length_map,bif_decide]
  rw[if_neg (by omega),decide_eq_false (by omega)]
theorem refVal_out {b:Int} {l1 l2:List V}:
  Loop (s_semigroupref07_Validate_2L CC (d.F.length:Int) (d.N.map rowL) ((d.N.map rowL).length:Int) d.L b l1 l2) 0=
   some (if∀q,q<d.N.length→d.rowOk q then .inr ((d.N.length:Int),false) else .inl 4):=by
 have hm:=maxLen_le
 have hN:=hd.N
 refine Loop_all d.rowOk d.N.length (fun i=>(i:Int)) (.inl 4:Int ⊕ (Int × Bool)) (.inr ((d.N.length:Int),false)) (fun q hq=> ?_) ?_
 ·simp only[s_semigroupref07_Validate_2L,s_semigroupref07_Validate_2,List.length_map,bif_decide]
  rw[if_pos (by omega),idx_getD (z:=[]) hq]
  simp only[Option.bind_some,rowL_list,List.length_map,bif_bne]
  have:=refVal_in hd hq (t38:=d.N.map rowL) (t39:=(d.N.length:Int)) (a:=d.L) (b:=b) (l1:=l1) (l2:=l2)
  rw[List.length_map] at this
  by_cases h1:((d.N.getD q []).length:Int)=d.L
  ·rw[if_pos h1]
   refine bs this ?_
   by_cases h2: ∀i,i<(d.N.getD q []).length→d.cellOk (d.N.getD q []) i
   ·rw[if_pos h2,if_pos (show d.rowOk q from ⟨h1,h2⟩)]
    simp only[way2,un]
    rw[wrap64 (by omega) (by omega)];rfl
   ·rw[if_neg h2,if_neg (show¬d.rowOk q from fun h=>h2 h.2)];rfl
  ·rw[if_neg h1,if_neg (show¬d.rowOk q from fun h=>h1 h.1)]
 ·simp only[s_semigroupref07_Validate_2L,s_semigroupref07_Validate_2,List.length_map,bif_decide]
  rw[if_neg (by omega),decide_eq_false (by omega)]
theorem refValidate7_spec:CC F_semigroupref07_Validate (dfaA d [])=some [.int .i64 d.val]:=by
 refine f_semigroupref07_Validate_of ?_
 unfold f_semigroupref07_Validate Df.val
 refine bs (MayLetters_spec d.L) ?_
 simp only[List.length_map,bif_decide,bif_bne,bif_beq,V.nth_zero,V.toBool_bool,bif_not]
 have h:=refVal_out hd (b:=d.st) (l1:=d.F.map V.bool) (l2:=d.N.map rowL)
 rw[List.length_map] at h
 by_cases h1:d.L<1∨6<d.L
 ·rw[if_pos h1,if_neg (show¬(1≤d.L∧d.L≤6) by omega)]
 rw[if_neg h1,if_pos (show 1≤d.L∧d.L≤6 by omega)]
 by_cases h3:512<d.F.length
 ·rw[if_pos (show (d.F.length:Int)>512 by omega),if_pos h3]
 rw[if_neg (show¬(d.F.length:Int)>512 by omega),if_neg h3]
 by_cases h0:d.F.length=0
 ·rw[if_pos (show (d.F.length:Int)=0 by omega),if_pos (by omega)]
 rw[if_neg (show¬(d.F.length:Int)=0 by omega)]
 by_cases h4:d.N.length=d.F.length
 ·rw[if_pos (show (d.N.length:Int)=(d.F.length:Int) by omega)]
  by_cases h5:d.st<0
  ·rw[if_pos h5,if_pos (.inr (.inl h5))]
  rw[if_neg h5]
  by_cases h6:d.st≥(d.F.length:Int)
  ·rw[if_pos h6,if_pos (.inr (.inr h6))]
  rw[if_neg h6,if_neg (show¬(d.N.length≠d.F.length∨d.st<0∨(d.F.length:Int)≤d.st) by omega)]
  refine bs h ?_
  split<;>rfl
 ·rw[if_neg (show¬(d.N.length:Int)=(d.F.length:Int) by omega),if_pos (.inl h4)]
end
def natL (r:List Nat):List Int:=r.map fun q:Nat=>(q:Int)
theorem natL_getD (r:List Nat) (i:Nat):(natL r).getD i 0=((r.getD i 0:Nat):Int):=by
 unfold natL
 by_cases h:i<r.length
 ·rw[getD_at h,getD_at (by simpa using h)];simp
 ·simp[List.getElem?_eq_none (Nat.le_of_not_lt h)]
def Da.df (a:Da):Df:=⟨a.L,a.st,a.F,a.N.map natL⟩
theorem df_of_val {d:Df} (h:d.val=0): ∃a:Da,a.Ok∧d=a.df:=by
 unfold Df.val at h
 split at h
 ·omega
 rename_i h1
 split at h
 ·omega
 rename_i h2
 split at h
 ·omega
 rename_i h3
 split at h
 case isFalse=>omega
 rename_i h4
 have hr: ∀r∈d.N,(r.length:Int)=d.L∧∀q∈r,0≤q∧q<d.F.length:=fun r hr=>by
  obtain ⟨i,hi,rfl⟩:=List.getElem_of_mem hr
  have:=h4 i hi
  unfold Df.rowOk at this
  rw[show d.N.getD i []=d.N[i] by simp[hi]] at this
  refine ⟨this.1,fun q hq=> ?_⟩
  obtain ⟨j,hj,rfl⟩:=List.getElem_of_mem hq
  have h5:=this.2 j hj
  unfold Df.cellOk at h5
  rwa [show d.N[i].getD j 0=d.N[i][j] by simp[hj]] at h5
 refine ⟨⟨d.L.toNat,d.st.toNat,d.F,d.N.map fun r=>r.map Int.toNat⟩,⟨by simp only;omega,by simp only;omega,by simp only[Da.n,List.length_map];omega,?_,by simp only[Da.n];omega,by simp only[Da.n];omega⟩,?_⟩
 ·intro r hr2
  obtain ⟨r,hr3,rfl⟩:=List.mem_map.1 hr2
  have:=hr r hr3
  refine ⟨by simp only[List.length_map];omega,fun q hq=> ?_⟩
  obtain ⟨q,hq2,rfl⟩:=List.mem_map.1 hq
  have:=this.2 q hq2
  simp only[Da.n]
  omega
 ·obtain ⟨L,st,F,N⟩:=d
  simp only[Da.df] at*
  have e1:L=(L.toNat:Int):=by omega
  have e2:st=(st.toNat:Int):=by omega
  rw[←e1,←e2]
  congr 1
  rw[List.map_map]
  calc N=N.map id:=(List.map_id N).symm
   _=_:=List.map_congr_left fun r h=>by
    have:=(hr r h).2
    simp only[Function.comp,natL,List.map_map,id]
    calc r=r.map id:=(List.map_id r).symm
     _=_:=List.map_congr_left fun q hq=>by
      have:=this q hq
      simp only[Function.comp,id];omega
theorem Da.Ok.df_ok {a:Da} (h:a.Ok):a.df.Ok:=by
 have h1:=h.l6
 have h2:=h.s
 have h3:=h.most
 have h4:=h.nN
 unfold Da.n at*
 refine ⟨by simp only[Da.df];omega,by simp only[Da.df];omega,by simp only[Da.df];omega,by simp only[Da.df];omega,by simp only[Da.df];unfold maxLen;omega,by simp only[Da.df,List.length_map];unfold maxLen;omega,fun r hr=> ?_⟩
 obtain ⟨r,hr2,rfl⟩:=List.mem_map.1 hr
 have:=h.row r hr2
 refine ⟨by simp only[natL,List.length_map];unfold maxLen;omega,fun q hq=> ?_⟩
 obtain ⟨q,hq2,rfl⟩:=List.mem_map.1 hq
 have:=this.2 q hq2
 unfold Da.n at this
 omega
theorem Da.Ok.val {a:Da} (h:a.Ok):a.df.val=0:=by
 have h0:=h.l1
 have h1:=h.l6
 have h2:=h.s
 have h3:=h.most
 have h4:=h.nN
 unfold Da.n at*
 unfold Df.val
 rw[if_neg (by simp only[Da.df];omega),if_neg (by simp only[Da.df];omega),if_neg (by simp only[Da.df,List.length_map];omega),if_pos]
 intro q hq
 simp only[Da.df,List.length_map] at hq
 have e:a.df.N.getD q []=natL (a.N.getD q []):=by simp[Da.df,hq]
 have hr:=h.row (a.N.getD q []) (by rw[show a.N.getD q []=a.N[q] by simp[hq]];exact List.getElem_mem hq)
 unfold Df.rowOk
 rw[e]
 refine ⟨by simp only[natL,List.length_map,Da.df];omega,fun i hi=> ?_⟩
 rw[natL,List.length_map] at hi
 have:=hr.2 ((a.N.getD q [])[i]) (List.getElem_mem hi)
 unfold Df.cellOk
 rw[natL_getD,getD_at hi]
 simp only[Da.df]
 unfold Da.n at this
 omega
end Go.AM
set_option maxRecDepth 100000
set_option linter.unusedSimpArgs false
namespace Go.AM
open Go.Proofs
def tab {α:Type} (n:Nat) (g:Nat→α):List α:=(List.range n).map g
section
variable {α β:Type} {n i:Nat} {g h:Nat→α}
@[simp] theorem tab_len:(tab n g).length=n:=by simp[tab]
theorem tab_get (hi:i<n):(tab n g)[i]? =some (g i):=by simp[tab,hi]
theorem tab_getD (hi:i<n) {z:α}:(tab n g).getD i z=g i:=by simp[tab,hi]
theorem tab_at (hi:i<(tab n g).length):(tab n g)[i]=g i:=by simp[tab]
theorem tab_congr (e: ∀j,j<n→g j=h j):tab n g=tab n h:=List.map_congr_left fun j hj=>e j (List.mem_range.1 hj)
theorem tab_set {v:α}:(tab n g).set i v=tab n fun j=>if j=i then v else g j:=by
 refine List.ext_getElem (by simp) fun j h1 h2=> ?_
 rw[List.getElem_set,tab_at,tab_at]
 simp only[eq_comm]
theorem tab_snoc:tab n g++[g n]=tab (n+1) g:=by simp[tab,List.range_succ]
theorem tab_succ:tab (n+1) g=tab n g++[g n]:=tab_snoc.symm
theorem tab_zero:tab 0 g=[]:=rfl
theorem tab_rep {v:α}:List.replicate n v=tab n fun _=>v:=by simp[tab,List.map_const']
theorem tab_map {f:α→β}:(tab n g).map f=tab n fun i=>f (g i):=by simp[tab,Function.comp]
theorem list_tab (l:List α) (z:α):l=tab l.length fun i=>l.getD i z:=by
 refine List.ext_getElem (by simp) fun j h1 h2=> ?_
 rw[tab_at];simp[h1]
theorem map_tab (l:List α) (z:α) {f:α→β}:l.map f=tab l.length fun i=>f (l.getD i z):=by
 rw[←tab_map,←list_tab]
theorem tab_mem {a:α}:a∈tab n g↔∃i,i<n∧g i=a:=by simp[tab]
end
section
variable {γ:Type} {n i:Nat} {g:Nat→V}
theorem idx_tab (hi:i<n):idx (tab n g) (i:Int)=some (g i):=by rw[idx_some rfl,tab_get hi]
theorem at_tab (hi:i<n) {K:V→Option γ}:(bif (decide (0≤(i:Int)))&&(decide ((i:Int)<((tab n g).length:Int))) then ((tab n g)[((i:Int)).toNat]?).bind K else none)=K (g i):=by
 rw[Int.toNat_natCast,tab_get hi,Bool.and_eq_true_iff.2 ⟨decide_eq_true (by omega),decide_eq_true (by rw[tab_len];omega)⟩]
 rfl
theorem at_list {es:List V} {v:V} (hi:es[i]? =some v) {K:V→Option γ}:(bif (decide (0≤(i:Int)))&&(decide ((i:Int)<(es.length:Int))) then (es[((i:Int)).toNat]?).bind K else none)=K v:=by
 have hl:i<es.length:=by
  rcases Nat.lt_or_ge i es.length with h|h
  ·exact h
  ·rw[List.getElem?_eq_none h] at hi;cases hi
 rw[Int.toNat_natCast,hi,Bool.and_eq_true_iff.2 ⟨decide_eq_true (by omega),decide_eq_true (by omega)⟩]
 rfl
theorem bnd_ok {m:Nat} (hi:i<m):((decide (0≤(i:Int)))&&(decide ((i:Int)<(m:Int))))=true:=Bool.and_eq_true_iff.2 ⟨decide_eq_true (by omega),decide_eq_true (by omega)⟩
end
theorem cap {a b m:Nat} (h:a+b≤10000000) (hm:m≤1000):Nat.ble ((a+b)*m) maxBytes=true:=by
 rw[Nat.ble_eq,maxB]
 have:=Nat.mul_le_mul h hm
 omega
theorem mk_ok {n m:Nat} (h:n≤10000000) (hm:m≤1000):((decide (0≤(n:Int)))&&((decide ((n:Int)≤(n:Int)))&&(Nat.ble (((n:Int).toNat)*m) maxBytes)))=true:=by
 have h2:=Nat.mul_le_mul h hm
 rw[Int.toNat_natCast]
 refine Bool.and_eq_true_iff.2 ⟨decide_eq_true (by omega),Bool.and_eq_true_iff.2 ⟨decide_eq_true (by omega),?_⟩⟩
 rw[Nat.ble_eq,maxB]
 omega
theorem wr1 {i:Nat} (h:i≤1000000000):IntKind.wrap .i64 ((i:Int)+1)=((i+1:Nat):Int):=by rw[wrap64 (by omega) (by omega)];omega
theorem lt_t {i n:Nat} (h:i<n):decide ((i:Int)<(n:Int))=true:=decide_eq_true (by omega)
theorem lt_f {i n:Nat} (h:n≤i):decide ((i:Int)<(n:Int))=false:=decide_eq_false (by omega)
section
variable {X R:Type} {step:X→Option (X ⊕ R)}
theorem Loop_st (n:Nat) (s:Nat→X) (r:R) (h: ∀i,i<n→step (s i)=some (.inl (s (i+1)))) (he:step (s n)=some (.inr r)):Loop step (s 0)=some r:=Loop_rounds s n h he
theorem Loop_rel (P:Nat→X→Prop) (Q:R→Prop): ∀(n k:Nat) (x:X),(∀i,k≤i→i<k+n→∀x,P i x→∃y,step x=some (.inl y)∧P (i+1) y)→(∀x,P (k+n) x→∃r,step x=some (.inr r)∧Q r)→P k x→∃r,Loop step x=some r∧Q r
 | 0,k,x,_,he,hx=>by
  obtain ⟨r,h1,h2⟩:=he x hx
  exact ⟨r,Loop_end h1,h2⟩
 | n+1,k,x,h,he,hx=>by
  obtain ⟨y,h1,h2⟩:=h k (Nat.le_refl _) (by omega) x hx
  obtain ⟨r,h3,h4⟩:=Loop_rel P Q n (k+1) y (fun i hi hn=>h i (by omega) (by omega)) (by rw[show k+1+n=k+(n+1) by omega];exact he) h2
  exact ⟨r,(Loop_norm h1).trans h3,h4⟩
end
end Go.AM
set_option maxRecDepth 100000
namespace Go.AM
open Go.Proofs
noncomputable abbrev B_word_Valid:Code:=bodyOf Tryd.prog (ann.fid 57)
noncomputable def s_word_Valid_1 (C:CallF) (w:List UInt8) (letters t18 t19:Int) {β:Type} (kn:Int→Option β) (kr:((Bool) ⊕ (Int × Bool))→Option β):Option β:=
 bif decide ((t19:Int)<t18) then
  (bif decide (0≤t19) then (w[(t19:Int).toNat]?).map fun b=>V.int .u8 b.toNat else none).bind fun x1=>
  bif decide ((x1.toInt:Int)<97) then
  kr (.inl false)
  else
  (bif decide (0≤t19) then (w[(t19:Int).toNat]?).map fun b=>V.int .u8 b.toNat else none).bind fun x2=>
  bif decide (((IntKind.wrap .i64 (IntKind.wrap .u8 (x2.toInt-97))):Int)≥letters) then
   kr (.inl false)
  else
   kn (IntKind.wrap .i64 (t19+1))
 else
  kr (.inr (t19,decide ((t19:Int)<t18)))
noncomputable def s_word_Valid_1L (C:CallF) (w:List UInt8) (letters t18:Int):(Int)→Option ((Int) ⊕ ((Bool) ⊕ (Int × Bool))):=fun t19=>s_word_Valid_1 C w letters t18 t19 (fun y=>some (.inl y)) (fun r=>some (.inr r))
noncomputable def LT_word_Valid (C:CallF):LTab:=fun β n ds k=>
 bif Nat.beq n 65 then loopS S57_65 [false,false,false,true] [[0],[1,2,3,0,0]] (@s_word_Valid_1 C) ds k else
 none
abbrev TS_word_Valid (C:CallF) (b:Bar):Prop:=Tells Tryd.prog ann C (LT_word_Valid C) 57 (ntmpsOf Tryd.prog (ann.fid 57)) (ann.sin 57).blks.length b
theorem t_word_Valid_1 (C:CallF):TS_word_Valid C (.loop (codeAt [1,1,0,1,0,0] B_word_Valid)):=
 tl3 S57_65 [false,false,false,true] [[0],[1,2,3,0,0]] (@s_word_Valid_1 C) (by kernel_rfl) (ltok_of (bs:=[]) (by kernel_rfl) tells_nil) (fun ds=>by kernel_rfl) (fun i x=>by kernel_rfl) (fun i x β k=>by kernel_rfl) (fun β ds k=>by kernel_rfl)
noncomputable def f_word_Valid (C:CallF) (w:List UInt8) (letters:Int):Option (List V):=
 bif decide ((letters:Int)<1) then
  some [.bool false]
 else
  bif decide ((letters:Int)>6) then
  some [.bool false]
  else
  bif decide (((w.length:Int):Int)>2048) then
   some [.bool false]
  else
   (Loop (s_word_Valid_1L C w letters (w.length:Int)) 0).bind (way2 (fun (t_3:Bool)=>
    some [.bool t_3]) (un fun (t_4:Int) (t_5:Bool)=>
    some [.bool true]))
theorem f_word_Valid_of {w:List UInt8} {letters:Int} {r:Option (List V)} (h:f_word_Valid CC w letters=r):CC F_word_Valid [.str w,.int .i64 letters]=r:=
 func_of (key:=57) (L:=LT_word_Valid CC) (bs:=[.loop (codeAt [1,1,0,1,0,0] B_word_Valid)]) (by kernel_rfl) (tells_cons (t_word_Valid_1 CC) tells_nil) (Eq.trans (by kernel_rfl) h)
end Go.AM
set_option maxRecDepth 100000
set_option linter.unusedSimpArgs false
namespace Go.AM
open Go.Proofs
def let_ (w:List UInt8) (i:Nat):Int:=((w.getD i 0).toNat:Int)-97
def wOk (w:List UInt8) (L:Int):Prop:=1≤L∧L≤6∧w.length≤2048∧∀i,i<w.length→0≤let_ w i∧let_ w i<L
instance (w:List UInt8) (L:Int):Decidable (wOk w L):=by unfold wOk;infer_instance
theorem byte_at {w:List UInt8} {i:Nat} (h:i<w.length):(bif decide (0≤(i:Int)) then (w[((i:Nat):Int).toNat]?).map (fun b=>V.int .u8 b.toNat) else none)=some (.int .u8 ((w.getD i 0).toNat:Int)):=by
 rw[bif_decide,if_pos (by omega),Int.toNat_natCast]
 simp[h]
theorem byte_lt (b:UInt8):b.toNat<256:=b.toNat_lt
theorem let_wrap {w:List UInt8} {i:Nat} (h:0≤let_ w i):IntKind.wrap .u8 (((w.getD i 0).toNat:Int)-97)=let_ w i:=by
 have:=byte_lt (w.getD i 0)
 unfold let_ at*
 exact wrap8 h (by omega)
theorem let_lt {w:List UInt8} {i:Nat}:let_ w i<256:=by
 have:=byte_lt (w.getD i 0)
 unfold let_
 omega
theorem word_loop {w:List UInt8} {L:Int} (hl:w.length≤2048):Loop (s_word_Valid_1L CC w L (w.length:Int)) 0=some (if∀i,i<w.length→0≤let_ w i∧let_ w i<L then .inr ((w.length:Int),false) else .inl false):=by
 refine Loop_all (good:=fun i=>0≤let_ w i∧let_ w i<L) w.length (fun i=>(i:Int)) (Sum.inl false:Bool ⊕ (Int × Bool)) (Sum.inr ((w.length:Int),false)) (fun i hi=> ?_) ?_
 ·simp only[s_word_Valid_1L,s_word_Valid_1,un]
  rw[bif_decide,if_pos (by omega),byte_at hi]
  simp only[Option.bind_some,V.toInt_int,bif_decide]
  by_cases h1:0≤let_ w i
  ·have h1':=h1
   unfold let_ at h1'
   rw[if_neg (by omega),let_wrap h1,wrap64 (by omega) (by have:= @let_lt w i;omega)]
   by_cases h2:let_ w i<L
   ·rw[if_neg (by omega),if_pos ⟨h1,h2⟩,wrap64 (by omega) (by omega)]
    simp
   ·rw[if_pos (by omega),if_neg (fun h=>h2 h.2)]
  ·have h1':=h1
   unfold let_ at h1'
   rw[if_pos (by omega),if_neg (fun h=>h1 h.1)]
 ·simp only[s_word_Valid_1L,s_word_Valid_1,un]
  rw[bif_decide,if_neg (by omega)]
  simp
theorem wValid_spec (w:List UInt8) (L:Int):CC F_word_Valid [.str w,.int .i64 L]=some [.bool (decide (wOk w L))]:=by
 refine f_word_Valid_of ?_
 unfold f_word_Valid
 simp only[bif_decide]
 by_cases h1:L<1
 ·rw[if_pos h1,decide_eq_false (fun h=>by have:=h.1;omega)]
 rw[if_neg h1]
 by_cases h2:L>6
 ·rw[if_pos h2,decide_eq_false (fun h=>by have:=h.2.1;omega)]
 rw[if_neg h2]
 by_cases h3:(w.length:Int)>2048
 ·rw[if_pos h3,decide_eq_false (fun h=>by have:=h.2.2.1;omega)]
 rw[if_neg h3,word_loop (by omega)]
 by_cases h4: ∀i,i<w.length→0≤let_ w i∧let_ w i<L
 ·rw[if_pos h4,decide_eq_true (show wOk w L from ⟨by omega,by omega,by omega,h4⟩)]
  simp[way2,un]
 ·rw[if_neg h4,decide_eq_false (fun h=>h4 h.2.2.2)]
  simp[way2,un]
end Go.AM
set_option maxRecDepth 100000
namespace Go.AM
open Go.Proofs
noncomputable abbrev B_dfa_Run:Code:=bodyOf Tryd.prog (ann.fid 58)
noncomputable def s_dfa_Run_1 (C:CallF) (w:List UInt8) (t30 ds_0 ds_1:Int) (ds_2 ds_3:List V) (state t31:Int) {β:Type} (kn:(Int × Int)→Option β) (kr:(Int × Int × Bool)→Option β):Option β:=
 bif decide ((t31:Int)<t30) then
  (idx ds_3 state).bind fun x3=>
  (bif decide (0≤t31) then (w[(t31:Int).toNat]?).map fun b=>V.int .u8 b.toNat else none).bind fun x4=>
  (idx x3.toList (IntKind.wrap .u8 (x4.toInt-97))).bind fun x5=>
  kn (x5.toInt,IntKind.wrap .i64 (t31+1))
 else
  kr (state,t31,decide ((t31:Int)<t30))
noncomputable def s_dfa_Run_1L (C:CallF) (w:List UInt8) (t30 ds_0 ds_1:Int) (ds_2 ds_3:List V):(Int × Int)→Option ((Int × Int) ⊕ (Int × Int × Bool)):=un fun state t31=>s_dfa_Run_1 C w t30 ds_0 ds_1 ds_2 ds_3 state t31 (fun y=>some (.inl y)) (fun r=>some (.inr r))
noncomputable def LT_dfa_Run (C:CallF):LTab:=fun β n ds k=>
 bif Nat.beq n 65 then loopS S58_65 [true,false,false,true,false,false,false,false] [[0,2,3,0,0,5,6,7,8]] (@s_dfa_Run_1 C) ds k else
 none
abbrev TS_dfa_Run (C:CallF) (b:Bar):Prop:=Tells Tryd.prog ann C (LT_dfa_Run C) 58 (ntmpsOf Tryd.prog (ann.fid 58)) (ann.sin 58).blks.length b
theorem t_dfa_Run_1 (C:CallF):TS_dfa_Run C (.loop (codeAt [1,1,0,1,0,0] B_dfa_Run)):=
 tl3 S58_65 [true,false,false,true,false,false,false,false] [[0,2,3,0,0,5,6,7,8]] (@s_dfa_Run_1 C) (by kernel_rfl) (ltok_of (bs:=[]) (by kernel_rfl) tells_nil) (fun ds=>by kernel_rfl) (fun i x=>by kernel_rfl) (fun i x β k=>by kernel_rfl) (fun β ds k=>by kernel_rfl)
noncomputable def f_dfa_Run (C:CallF) (d_0 d_1:Int) (d_2 d_3:List V) (state:Int) (w:List UInt8):Option (List V):=
 (C F_dfa_Validate [.int .i64 d_0,.int .i64 d_1,.list T_bool d_2,.list T_l_int d_3]).bind fun r1=>
 bif (((V.nth r1 0).toInt):Int) != 0 then
  some [.int .i64 (-1)]
 else
  bif decide ((state:Int)<0) then
  some [.int .i64 (-1)]
  else
  bif decide ((state:Int)≥(d_2.length:Int)) then
   some [.int .i64 (-1)]
  else
   (C F_word_Valid [.str w,.int .i64 d_0]).bind fun r2=>
   bif !((V.nth r2 0).toBool) then
   some [.int .i64 (-1)]
   else
   (Loop (s_dfa_Run_1L C w (w.length:Int) d_0 d_1 d_2 d_3) (state,0)).bind (un fun (state_6:Int)=>un fun (t_7:Int) (t_8:Bool)=>
    some [.int .i64 state_6])
theorem f_dfa_Run_of {d_0 d_1:Int} {d_2 d_3:List V} {state:Int} {w:List UInt8} {r:Option (List V)} (h:f_dfa_Run CC d_0 d_1 d_2 d_3 state w=r):CC F_dfa_Run [.int .i64 d_0,.int .i64 d_1,.list T_bool d_2,.list T_l_int d_3,.int .i64 state,.str w]=r:=
 func_of (key:=58) (L:=LT_dfa_Run CC) (bs:=[.loop (codeAt [1,1,0,1,0,0] B_dfa_Run)]) (by kernel_rfl) (tells_cons (t_dfa_Run_1 CC) tells_nil) (Eq.trans (by kernel_rfl) h)
end Go.AM
set_option maxRecDepth 100000
namespace Go.AM
open Go.Proofs
noncomputable def f_dfa_Accepts (C:CallF) (d_0 d_1:Int) (d_2 d_3:List V) (w:List UInt8):Option (List V):=
 (C F_dfa_Run [.int .i64 d_0,.int .i64 d_1,.list T_bool d_2,.list T_l_int d_3,.int .i64 d_1,.str w]).bind fun r1=>
 bif decide ((((V.nth r1 0).toInt):Int)≥0) then
  (idx d_2 ((V.nth r1 0).toInt)).bind fun x2=>
  some [.bool x2.toBool]
 else
  some [.bool false]
theorem f_dfa_Accepts_of {d_0 d_1:Int} {d_2 d_3:List V} {w:List UInt8} {r:Option (List V)} (h:f_dfa_Accepts CC d_0 d_1 d_2 d_3 w=r):CC F_dfa_Accepts [.int .i64 d_0,.int .i64 d_1,.list T_bool d_2,.list T_l_int d_3,.str w]=r:=
 func_of (key:=44) (L:=LT0) (bs:=[]) (by kernel_rfl) tells_nil (Eq.trans (by kernel_rfl) h)
end Go.AM
set_option maxRecDepth 100000
set_option linter.unusedSimpArgs false
namespace Go.AM
open Go.Proofs
def rowF (L:Nat) (f:Nat→Nat):V:= .list T_int (tab L fun x=>iV (f x))
def Da.finV (a:Da):List V:=tab a.n fun q=>V.bool (a.fin q)
def Da.nxV (a:Da):List V:=tab a.n fun q=>rowF a.L (a.nx q)
@[simp] theorem Da.finV_len {a:Da}:a.finV.length=a.n:=by simp[Da.finV]
@[simp] theorem Da.nxV_len {a:Da}:a.nxV.length=a.n:=by simp[Da.nxV]
@[simp] theorem rowF_list {L:Nat} {f:Nat→Nat}:(rowF L f).toList=tab L fun x=>iV (f x):=by simp[rowF]
def daA (a:Da) (l:List V):List V:= .int .i64 a.L:: .int .i64 a.st:: .list T_bool a.finV:: .list T_l_int a.nxV::l
def daR (a:Da):List V:=daA a []
theorem Da.Ok.leaves {a:Da} (h:a.Ok) (l:List V):dfaA a.df l=daA a l:=by
 unfold dfaA daA
 have e1:a.df.F.map V.bool=a.finV:=map_tab _ false
 have e2:a.df.N.map rowL=a.nxV:=by
  unfold Da.nxV
  rw[map_tab _ [],show a.df.N.length=a.n by simp[Da.df,h.nN]]
  refine tab_congr fun q hq=> ?_
  have hq':q<a.N.length:=by rw[h.nN];exact hq
  unfold rowL rowF
  rw[show a.df.N.getD q []=natL (a.N.getD q []) by simp[Da.df,hq'],map_tab _ 0]
  have hl:(natL (a.N.getD q [])).length=a.L:=by simp only[natL,List.length_map];exact Da.row_len h hq
  rw[hl]
  exact congrArg _ (tab_congr fun x _=>by rw[natL_getD];rfl)
 rw[e1,e2];rfl
theorem Da.finV_idx {a:Da} {q:Nat} (hq:q<a.n):idx a.finV (q:Int)=some (.bool (a.fin q)):=idx_tab hq
theorem Da.nxV_idx {a:Da} {q:Nat} (hq:q<a.n):idx a.nxV (q:Int)=some (rowF a.L (a.nx q)):=idx_tab hq
theorem rowF_idx {L x:Nat} {f:Nat→Nat} (hx:x<L):idx (tab L fun x=>iV (f x)) (x:Int)=some (iV (f x)):=idx_tab hx
theorem Validate_ok {a:Da} (h:a.Ok):CC F_dfa_Validate (daR a)=some [.int .i64 0]:=by
 have:=dfaValidate_spec h.df_ok
 rwa [h.val,h.leaves] at this
def lets (w:List UInt8):List Nat:=w.map fun b=>b.toNat-97
theorem lets_len {w:List UInt8}:(lets w).length=w.length:=by simp[lets]
theorem lets_get {w:List UInt8} {i:Nat} (hi:i<w.length) (h:0≤let_ w i):(((lets w).getD i 0:Nat):Int)=let_ w i:=by
 unfold lets let_ at*
 rw[getD_at (by simpa using hi),getD_at hi] at*
 simp only[List.getElem_map]
 omega
theorem wOk.WL {w:List UInt8} {L:Nat} (h:wOk w (L:Int)):WL L (lets w):=fun x hx=>by
 obtain ⟨i,hi,rfl⟩:=List.getElem_of_mem hx
 rw[lets_len] at hi
 obtain ⟨h1,h2⟩:=h.2.2.2 i hi
 have:=lets_get hi h1
 rw[getD_at (by rw[lets_len];exact hi)] at this
 omega
theorem run_take_succ {a:Da} {w:List UInt8} {q i:Nat} (hi:i<w.length):a.run q ((lets w).take (i+1))=a.nx (a.run q ((lets w).take i)) ((lets w).getD i 0):=by
 rw[List.take_succ_eq_append_getElem (by rw[lets_len];exact hi),Da.run_app,getD_at (by rw[lets_len];exact hi)];rfl
theorem let_lt' {w:List UInt8} {L i:Nat} (hw:wOk w (L:Int)) (hi:i<w.length):(lets w).getD i 0<L:=hw.WL _ (by rw[getD_at (by rw[lets_len];exact hi)];exact List.getElem_mem _)
section
variable {a:Da} (h:a.Ok) {w:List UInt8} (hw:wOk w (a.L:Int)) {q:Nat} (hq:q<a.n)
include h hw hq
theorem run_take {i:Nat}:a.run q ((lets w).take i)<a.n:=h.run_lt _ hq fun x hx=>hw.WL x (List.mem_of_mem_take hx)
theorem run_loop {x1 x2:Int} {l2:List V}:Loop (s_dfa_Run_1L CC w (w.length:Int) x1 x2 l2 a.nxV) ((q:Int),0)=some ((a.run q (lets w):Int),(w.length:Int),false):=by
 have hl:w.length≤2048:=hw.2.2.1
 have e:lets w=(lets w).take w.length:=by rw[List.take_of_length_le (by rw[lets_len];omega)]
 refine (Loop_st w.length (fun i=>((a.run q ((lets w).take i):Int),(i:Int))) ((a.run q ((lets w).take w.length):Int),(w.length:Int),false) (fun i hi=> ?_) ?_).trans (by rw[←e])
 ·simp only[s_dfa_Run_1L,s_dfa_Run_1,un]
  refine bT (lt_t hi) ?_
  refine bs (Da.nxV_idx (run_take h hw hq)) ?_
  refine bs (byte_at hi) ?_
  have h1:=(hw.2.2.2 i hi).1
  simp only[V.toInt_int,let_wrap h1,rowF_list]
  rw[←lets_get hi h1]
  refine bs (rowF_idx (let_lt' hw hi)) ?_
  rw[wr1 (by omega),run_take_succ hi];rfl
 ·simp only[s_dfa_Run_1L,s_dfa_Run_1,un]
  exact bF (lt_f (Nat.le_refl _)) (by rw[lt_f (Nat.le_refl _)])
end
theorem Run_spec {a:Da} (h:a.Ok) {q:Nat} (hq:q<a.n) (w:List UInt8):CC F_dfa_Run (daA a [.int .i64 (q:Int),.str w])=some [.int .i64 (if wOk w (a.L:Int) then (a.run q (lets w):Int) else-1)]:=by
 refine f_dfa_Run_of ?_
 unfold f_dfa_Run
 refine bs (Validate_ok h) ?_
 refine bF rfl ?_
 refine bF (decide_eq_false (by omega)) ?_
 refine bF (decide_eq_false (by rw[Da.finV_len];omega)) ?_
 refine bs (wValid_spec w a.L) ?_
 by_cases hw:wOk w (a.L:Int)
 ·rw[if_pos hw]
  refine bF (by simp[hw]) ?_
  exact bs (run_loop h hw hq) rfl
 ·rw[if_neg hw]
  exact bT (by simp[hw]) rfl
theorem Accepts_spec {a:Da} (h:a.Ok) {w:List UInt8} (hw:wOk w (a.L:Int)):CC F_dfa_Accepts (daA a [.str w])=some [.bool (a.acc a.st (lets w))]:=by
 refine f_dfa_Accepts_of ?_
 unfold f_dfa_Accepts
 refine bs (Run_spec h h.s w) ?_
 rw[if_pos hw]
 refine bT (decide_eq_true (by simp only[V.nth_zero,V.toInt_int];omega)) ?_
 refine bs (Da.finV_idx (h.run_lt _ h.s hw.WL)) ?_
 rfl
end Go.AM
set_option maxRecDepth 100000
set_option linter.unusedSimpArgs false
namespace Go.AM
open Go.Proofs
section
variable {α:Type} (ke:α→V)
def mapF (i:Nat):List α→List V
 | []=>[]
 | a::S=> .tup [ke a,iV (i:Int)]::mapF (i+1) S
where iV (n:Int):V:= .int .i64 n
end
theorem mapF_len {α:Type} {ke:α→V}: ∀(S:List α) (i:Nat),(mapF ke i S).length=S.length
 | [],_=>rfl
 | a::S,i=>by simp[mapF,mapF_len S (i+1)]
section
variable {α:Type} [DecidableEq α] {ke:α→V}
variable (hk: ∀a b,keyEq (ke a) (ke b)=decide (a=b))
include hk
theorem mapF_has (x:α): ∀(S:List α) (i:Nat),mHas (ke x) (mapF ke i S)=decide (x∈S)
 | [],_=>by simp[mapF,mHas]
 | a::S,i=>by
  have c: ∀(p q:V),(V.tup [p,q]).comp 0=p:=fun p q=>rfl
  rw[mapF,mHas,c,hk,mapF_has x S (i+1)]
  rw[Bool.eq_iff_iff]
  simp
theorem mapF_get (x:α) (z:V): ∀(S:List α) (i:Nat),x∈S→mGet (ke x) (mapF ke i S) z= .int .i64 ((i+S.idxOf x:Nat):Int)
 | [],_,h=>by cases h
 | a::S,i,h=>by
  have c: ∀(p q:V),(V.tup [p,q]).comp 0=p:=fun p q=>rfl
  have c1: ∀(p q:V),(V.tup [p,q]).comp 1=q:=fun p q=>rfl
  rw[mapF,mGet,c,c1,hk]
  by_cases e:x=a
  ·subst e
   rw[decide_eq_true rfl]
   simp[mapF.iV]
  ·rw[decide_eq_false e,cond_false,mapF_get x z S (i+1) ((List.mem_cons.1 h).resolve_left e),show (a::S).idxOf x=S.idxOf x+1 from by rw[List.idxOf_cons,show (a==x)=false from beq_eq_false_iff_ne.2 fun h=>e h.symm];rfl]
   congr 2
   omega
theorem mapF_put (x:α): ∀(S:List α) (i:Nat),x∉S→mPut (ke x) (.int .i64 ((i+S.length:Nat):Int)) (mapF ke i S)=mapF ke i (S++[x])
 | [],i,_=>by simp[mapF,mPut,mapF.iV]
 | a::S,i,h=>by
  have c: ∀(p q:V),(V.tup [p,q]).comp 0=p:=fun p q=>rfl
  have e:x≠a:=fun e=>h (by simp[e])
  rw[mapF,mPut,c,hk,decide_eq_false e,cond_false,List.cons_append,mapF]
  congr 1
  have:=mapF_put x S (i+1) fun hx=>h (by simp[hx])
  rw[←this]
  simp only[List.length_cons]
  congr 3
  omega
end
theorem keyEq_i64 (a b:Nat):keyEq (.int .i64 (a:Int)) (.int .i64 (b:Int))=decide (a=b):=by
 simp only[keyEq,V.cells,keyEqs,keyEq1,Bool.and_true]
 rw[Bool.eq_iff_iff]
 simp
 omega
theorem keyEq_u64 (a b:Nat):keyEq (.int .u64 (a:Int)) (.int .u64 (b:Int))=decide (a=b):=by
 simp only[keyEq,V.cells,keyEqs,keyEq1,Bool.and_true]
 rw[Bool.eq_iff_iff]
 simp
 omega
theorem keyEq_two (a b:Nat × Nat):keyEq (.agg [.int .i64 (a.1:Int),.int .i64 (a.2:Int)]) (.agg [.int .i64 (b.1:Int),.int .i64 (b.2:Int)])=decide (a=b):=by
 simp only[keyEq,V.cells,keyEqs,keyEq1,Bool.and_true]
 rw[Bool.eq_iff_iff]
 simp[Prod.ext_iff]
 omega
theorem inKind_i64 {n:Nat} (h:n≤1000000000000):inKind .i64 (n:Int)=true:=by
 have e1:IntKind.min .i64= -9223372036854775808:=by decide
 have e2:IntKind.max .i64=9223372036854775807:=by decide
 unfold inKind
 rw[e1,e2]
 exact Bool.and_eq_true_iff.2 ⟨decide_eq_true (by omega),decide_eq_true (by omega)⟩
theorem inKind_u64 {n:Nat} (h:n<2^64):inKind .u64 (n:Int)=true:=by
 have e1:IntKind.min .u64=0:=by decide
 have e2:IntKind.max .u64=18446744073709551615:=by decide
 unfold inKind
 rw[e1,e2]
 exact Bool.and_eq_true_iff.2 ⟨decide_eq_true (by omega),decide_eq_true (by omega)⟩
theorem idx_addB {α:Type} [DecidableEq α] {S:List α} {a:α}:(addB S a).idxOf a=if a∈S then S.idxOf a else S.length:=by
 unfold addB
 split
 ·rfl
 ·rename_i h
  rw[List.idxOf_append,if_neg h]
  simp
end Go.AM
set_option maxRecDepth 100000
namespace Go.AM
open Go.Proofs
noncomputable def f_dfa_Trim_1 (C:CallF) (q x t2s_0 t2s_1:Int) (t2s_2 t2s_3:List V):Option (List V):=
 (idx t2s_3 q).bind fun x1=>
 (idx x1.toList x).bind fun x2=>
 some [.int .i64 x2.toInt,.int .i64 t2s_0,.int .i64 t2s_1,.list T_bool t2s_2,.list T_l_int t2s_3]
theorem f_dfa_Trim_1_of {q x t2s_0 t2s_1:Int} {t2s_2 t2s_3:List V} {r:Option (List V)} (h:f_dfa_Trim_1 CC q x t2s_0 t2s_1 t2s_2 t2s_3=r):CC F_dfa_Trim_1 [.int .i64 q,.int .i64 x,.int .i64 t2s_0,.int .i64 t2s_1,.list T_bool t2s_2,.list T_l_int t2s_3]=r:=
 func_of (key:=123) (L:=LT0) (bs:=[]) (by kernel_rfl) tells_nil (Eq.trans (by kernel_rfl) h)
end Go.AM
set_option maxRecDepth 100000
namespace Go.AM
open Go.Proofs
noncomputable def f_dfa_Trim_2 (C:CallF) (q t1s_0 t1s_1:Int) (t1s_2 t1s_3:List V):Option (List V):=
 (idx t1s_2 q).bind fun x1=>
 some [.bool x1.toBool,.int .i64 t1s_0,.int .i64 t1s_1,.list T_bool t1s_2,.list T_l_int t1s_3]
theorem f_dfa_Trim_2_of {q t1s_0 t1s_1:Int} {t1s_2 t1s_3:List V} {r:Option (List V)} (h:f_dfa_Trim_2 CC q t1s_0 t1s_1 t1s_2 t1s_3=r):CC F_dfa_Trim_2 [.int .i64 q,.int .i64 t1s_0,.int .i64 t1s_1,.list T_bool t1s_2,.list T_l_int t1s_3]=r:=
 func_of (key:=124) (L:=LT0) (bs:=[]) (by kernel_rfl) tells_nil (Eq.trans (by kernel_rfl) h)
end Go.AM
set_option maxRecDepth 100000
namespace Go.AM
open Go.Proofs
noncomputable def f_dfa_numbering_int__of (C:CallF) (x:Int) (b1_:List V):Option (List V):=
 bif inKind .i64 x&&true then
  bif inKind .i64 x&&true then
  bif Nat.ble ((b1_.length+([.int .i64 x]:List V).length)*8) maxBytes then
   some [.int .i64 (b1_.length:Int),.list T_int (b1_++([.int .i64 x]:List V)),.list T_map_int_int (mPut (.int .i64 x) (.int .i64 (b1_.length:Int)) ([]:List V))]
  else none
  else none
 else none
theorem f_dfa_numbering_int__of_of {x:Int} {b1_:List V} {r:Option (List V)} (h:f_dfa_numbering_int__of CC x b1_=r):CC F_dfa_numbering_int__of [.int .i64 x,.list T_int b1_]=r:=
 func_of (key:=140) (L:=LT0) (bs:=[]) (by kernel_rfl) tells_nil (Eq.trans (by kernel_rfl) h)
end Go.AM
set_option maxRecDepth 100000
namespace Go.AM
open Go.Proofs
noncomputable def f_dfa_numbering_int__of_k167 (C:CallF) (x:Int) (b1_ b2_:List V):Option (List V):=
 bif inKind .i64 x&&true then
  bif !(mHas (.int .i64 x) b2_) then
  bif inKind .i64 x&&true then
   bif Nat.ble ((b1_.length+([.int .i64 x]:List V).length)*8) maxBytes then
   some [.int .i64 (b1_.length:Int),.list T_map_int_int (mPut (.int .i64 x) (.int .i64 (b1_.length:Int)) b2_),.list T_int (b1_++([.int .i64 x]:List V))]
   else none
  else none
  else
  some [.int .i64 ((mGet (.int .i64 x) b2_ (.int .i64 0)).toInt),.list T_map_int_int b2_,.list T_int b1_]
 else none
theorem f_dfa_numbering_int__of_k167_of {x:Int} {b1_ b2_:List V} {r:Option (List V)} (h:f_dfa_numbering_int__of_k167 CC x b1_ b2_=r):CC K_dfa_numbering_int__of_k167 [.int .i64 x,.list T_int b1_,.list T_map_int_int b2_]=r:=
 func_of (key:=167) (L:=LT0) (bs:=[]) (by kernel_rfl) tells_nil (Eq.trans (by kernel_rfl) h)
end Go.AM
set_option maxRecDepth 100000
namespace Go.AM
open Go.Proofs
noncomputable abbrev B_dfa_explore_int_:Code:=bodyOf Tryd.prog (ann.fid 122)
noncomputable def s_dfa_explore_int__1 (C:CallF) (letters i state t36 t8s_0 t8s_1 ds_0 ds_1:Int) (b5_ b6_ b9_ b10_:List V) (t37 next's_0 next's_1:Int) (next's_2 next's_3 rows b7_ b8_:List V) {β:Type} (kn:(Int × Int × Int × (List V) × (List V) × (List V) × (List V) × (List V))→Option β) (kr:(Int × Bool × Int × Int × (List V) × (List V) × (List V) × (List V) × (List V))→Option β):Option β:=
 bif decide ((t37:Int)<t36) then
  (C F_dfa_Trim_1 [.int .i64 state,.int .i64 t37,.int .i64 next's_0,.int .i64 next's_1,.list T_bool next's_2,.list T_l_int next's_3]).bind fun r3=>
  (C K_dfa_numbering_int__of_k167 [.int .i64 ((V.nth r3 0).toInt),.list T_int b7_,.list T_map_int_int b8_]).bind fun r4=>
  bif (decide (0≤t37))&&(decide (t37<(rows.length:Int))) then
  (rows[(t37:Int).toNat]?).bind fun x5=>
  kn (IntKind.wrap .i64 (t37+1),(V.nth (r3.drop 1) 0).toInt,(V.nth ((r3.drop 1).drop 1) 0).toInt,(V.nth (((r3.drop 1).drop 1).drop 1) 0).toList,(V.nth ((((r3.drop 1).drop 1).drop 1).drop 1) 0).toList,rows.set ((t37:Int).toNat) (.int .i64 ((V.nth r4 0).toInt)),(V.nth ((r4.drop 1).drop 1) 0).toList,(V.nth (r4.drop 1) 0).toList)
  else none
 else
  kr (t37,decide ((t37:Int)<t36),next's_0,next's_1,next's_2,next's_3,rows,b7_,b8_)
noncomputable def s_dfa_explore_int__1L (C:CallF) (letters i state t36 t8s_0 t8s_1 ds_0 ds_1:Int) (b5_ b6_ b9_ b10_:List V):(Int × Int × Int × (List V) × (List V) × (List V) × (List V) × (List V))→Option ((Int × Int × Int × (List V) × (List V) × (List V) × (List V) × (List V)) ⊕ (Int × Bool × Int × Int × (List V) × (List V) × (List V) × (List V) × (List V))):=un fun t37=>un fun next's_0=>un fun next's_1=>un fun next's_2=>un fun next's_3=>un fun rows=>un fun b7_ b8_=>s_dfa_explore_int__1 C letters i state t36 t8s_0 t8s_1 ds_0 ds_1 b5_ b6_ b9_ b10_ t37 next's_0 next's_1 next's_2 next's_3 rows b7_ b8_ (fun y=>some (.inl y)) (fun r=>some (.inr r))
noncomputable def s_dfa_explore_int__2 (C:CallF) (letters t8s_0 t8s_1 ds_0 ds_1:Int) (b4_ b5_:List V) (i next's_0 next's_1:Int) (next's_2 next's_3 b6_ b7_ b8_ b9_:List V) {β:Type} (kn:(Int × Int × Int × (List V) × (List V) × (List V) × (List V) × (List V) × (List V))→Option β) (kr:((Int × Int × Int × (List V) × (List V) × Int × Int × (List V) × (List V) × (List V)) ⊕ (Int × Bool × Int × Int × (List V) × (List V) × (List V) × (List V) × (List V) × (List V)))→Option β):Option β:=
 bif decide ((i:Int)<(b6_.length:Int)) then
  bif (decide (0≤i))&&(decide (i<(b6_.length:Int))) then
  (b6_[(i:Int).toNat]?).bind fun x2=>
  bif (decide (0≤letters))&&((decide (letters≤letters))&&(Nat.ble (((letters:Int).toNat)*8) maxBytes)) then
   (Loop (s_dfa_explore_int__1L C letters i x2.toInt ((List.replicate ((letters:Int).toNat) (V.int .i64 0)).length:Int) t8s_0 t8s_1 ds_0 ds_1 b4_ b5_ b8_ b9_) (0,next's_0,next's_1,next's_2,next's_3,List.replicate ((letters:Int).toNat) (V.int .i64 0),b6_,b7_)).bind (un fun (t_6:Int)=>un fun (t_7:Bool)=>un fun (next's_8:Int)=>un fun (next's_9:Int)=>un fun (next's_10:List V)=>un fun (next's_11:List V)=>un fun (rows_12:List V)=>un fun (b_13:List V) (b_14:List V)=>
    bif decide (((b_13.length:Int):Int)>512) then
    kr (.inl (3,next's_8,next's_9,next's_10,next's_11,0,0,([]:List V),([]:List V),([]:List V)))
    else
    bif Nat.ble ((b9_.length+([.list T_int rows_12]:List V).length)*24) maxBytes then
     (C F_dfa_Trim_2 [.int .i64 x2.toInt,.int .i64 next's_8,.int .i64 next's_9,.list T_bool next's_10,.list T_l_int next's_11]).bind fun r15=>
     bif Nat.ble ((b8_.length+([.bool ((V.nth r15 0).toBool)]:List V).length)*1) maxBytes then
     kn (IntKind.wrap .i64 (i+1),(V.nth (r15.drop 1) 0).toInt,(V.nth ((r15.drop 1).drop 1) 0).toInt,(V.nth (((r15.drop 1).drop 1).drop 1) 0).toList,(V.nth ((((r15.drop 1).drop 1).drop 1).drop 1) 0).toList,b_13,b_14,b8_++([.bool ((V.nth r15 0).toBool)]:List V),b9_++([.list T_int rows_12]:List V))
     else none
    else none)
  else none
  else none
 else
  kr (.inr (i,decide ((i:Int)<(b6_.length:Int)),next's_0,next's_1,next's_2,next's_3,b6_,b7_,b8_,b9_))
noncomputable def s_dfa_explore_int__2L (C:CallF) (letters t8s_0 t8s_1 ds_0 ds_1:Int) (b4_ b5_:List V):(Int × Int × Int × (List V) × (List V) × (List V) × (List V) × (List V) × (List V))→Option ((Int × Int × Int × (List V) × (List V) × (List V) × (List V) × (List V) × (List V)) ⊕ ((Int × Int × Int × (List V) × (List V) × Int × Int × (List V) × (List V) × (List V)) ⊕ (Int × Bool × Int × Int × (List V) × (List V) × (List V) × (List V) × (List V) × (List V)))):=un fun i=>un fun next's_0=>un fun next's_1=>un fun next's_2=>un fun next's_3=>un fun b6_=>un fun b7_=>un fun b8_ b9_=>s_dfa_explore_int__2 C letters t8s_0 t8s_1 ds_0 ds_1 b4_ b5_ i next's_0 next's_1 next's_2 next's_3 b6_ b7_ b8_ b9_ (fun y=>some (.inl y)) (fun r=>some (.inr r))
noncomputable def LT_dfa_explore_int_ (C:CallF):LTab:=fun β n ds k=>
 bif Nat.beq n 161 then loopS S122_161 [false,false,false,false,true,true,true,true,true,false,false,false,false,true,false,false,true,true,false,false] [[1,2,3,4,0,0,0,0,0,0,10,11,12,13,0,15,16,0,0,19,20]] (@s_dfa_explore_int__1 C) ds k else
 bif Nat.beq n 81 then loopS S122_81 [false,true,true,true,true,true,false,false,false,false,false,false,true,true,true,true] [[0,0,0,0,0,0,0,0,0,0],[1,0,0,0,0,0,0,7,8,9,10,11,12,0,0,0,0]] (@s_dfa_explore_int__2 C) ds k else
 none
abbrev TS_dfa_explore_int_ (C:CallF) (b:Bar):Prop:=Tells Tryd.prog ann C (LT_dfa_explore_int_ C) 122 (ntmpsOf Tryd.prog (ann.fid 122)) (ann.sin 122).blks.length b
theorem t_dfa_explore_int__1 (C:CallF):TS_dfa_explore_int_ C (.loop (codeAt [1,1,1,1,0,1,0,0,1,0,0,1,1,0,1,0,0] B_dfa_explore_int_)):=
 tl3 S122_161 [false,false,false,false,true,true,true,true,true,false,false,false,false,true,false,false,true,true,false,false] [[1,2,3,4,0,0,0,0,0,0,10,11,12,13,0,15,16,0,0,19,20]] (@s_dfa_explore_int__1 C) (by kernel_rfl) (ltok_of (bs:=[]) (by kernel_rfl) tells_nil) (fun ds=>by kernel_rfl) (fun i x=>by kernel_rfl) (fun i x β k=>by kernel_rfl) (fun β ds k=>by kernel_rfl)
theorem t_dfa_explore_int__2 (C:CallF):TS_dfa_explore_int_ C (.loop (codeAt [1,1,1,1,0,1,0,0] B_dfa_explore_int_)):=
 tl3 S122_81 [false,true,true,true,true,true,false,false,false,false,false,false,true,true,true,true] [[0,0,0,0,0,0,0,0,0,0],[1,0,0,0,0,0,0,7,8,9,10,11,12,0,0,0,0]] (@s_dfa_explore_int__2 C) (by kernel_rfl) (ltok_of (bs:=[.loop (codeAt [1,1,1,1,0,1,0,0,1,0,0,1,1,0,1,0,0] B_dfa_explore_int_)]) (by kernel_rfl) (tells_cons (t_dfa_explore_int__1 C) tells_nil)) (fun ds=>by kernel_rfl) (fun i x=>by kernel_rfl) (fun i x β k=>by kernel_rfl) (fun β ds k=>by kernel_rfl)
noncomputable def f_dfa_explore_int_ (C:CallF) (letters start next's_0 next's_1:Int) (next's_2 next's_3:List V):Option (List V):=
 (C F_dfa_numbering_int__of [.int .i64 start,.list T_int ([]:List V)]).bind fun r1=>
 (Loop (s_dfa_explore_int__2L C letters 0 0 letters 0 ([]:List V) ([]:List V)) (0,next's_0,next's_1,next's_2,next's_3,(V.nth (r1.drop 1) 0).toList,(V.nth ((r1.drop 1).drop 1) 0).toList,([]:List V),([]:List V))).bind (way2 (un fun (t_16:Int)=>un fun (b_17:Int)=>un fun (b_18:Int)=>un fun (b_19:List V)=>un fun (b_20:List V)=>un fun (t8s_21:Int)=>un fun (t8s_22:Int)=>un fun (b_23:List V)=>un fun (b_24:List V) (t9s_25:List V)=>
  some [.int .i64 t8s_21,.int .i64 t8s_22,.int .i64 t_16,.int .i64 b_17,.int .i64 b_18,.list T_bool b_19,.list T_l_int b_20,.list T_bool b_23,.list T_l_int b_24,.list T_int t9s_25]) (un fun (i_26:Int)=>un fun (t_27:Bool)=>un fun (next's_28:Int)=>un fun (next's_29:Int)=>un fun (next's_30:List V)=>un fun (next's_31:List V)=>un fun (b_32:List V)=>un fun (b_33:List V)=>un fun (b_34:List V) (b_35:List V)=>
  some [.int .i64 letters,.int .i64 0,.int .i64 0,.int .i64 next's_28,.int .i64 next's_29,.list T_bool next's_30,.list T_l_int next's_31,.list T_bool b_34,.list T_l_int b_35,.list T_int b_32]))
theorem f_dfa_explore_int__of {letters start next's_0 next's_1:Int} {next's_2 next's_3:List V} {r:Option (List V)} (h:f_dfa_explore_int_ CC letters start next's_0 next's_1 next's_2 next's_3=r):CC F_dfa_explore_int_ [.int .i64 letters,.int .i64 start,.int .i64 next's_0,.int .i64 next's_1,.list T_bool next's_2,.list T_l_int next's_3]=r:=
 func_of (key:=122) (L:=LT_dfa_explore_int_ CC) (bs:=[.loop (codeAt [1,1,1,1,0,1,0,0] B_dfa_explore_int_)]) (by kernel_rfl) (tells_cons (t_dfa_explore_int__2 CC) tells_nil) (Eq.trans (by kernel_rfl) h)
end Go.AM
set_option maxRecDepth 100000
namespace Go.AM
open Go.Proofs
noncomputable abbrev B_dfa_Trim:Code:=bodyOf Tryd.prog (ann.fid 108)
noncomputable def s_dfa_Trim_1 (C:CallF) (t31 t2s_0 t2s_1 ts_0 ts_1:Int) (statess b4_ b5_ b6_ b7_:List V) (t32:Int) (numbers:List V) {β:Type} (kn:(Int × (List V))→Option β) (kr:(Int × Bool × (List V))→Option β):Option β:=
 bif decide ((t32:Int)<t31) then
  bif (decide (0≤t32))&&(decide (t32<(numbers.length:Int))) then
  (numbers[(t32:Int).toNat]?).bind fun x3=>
  kn (IntKind.wrap .i64 (t32+1),numbers.set ((t32:Int).toNat) (.int .i64 (-1)))
  else none
 else
  kr (t32,decide ((t32:Int)<t31),numbers)
noncomputable def s_dfa_Trim_1L (C:CallF) (t31 t2s_0 t2s_1 ts_0 ts_1:Int) (statess b4_ b5_ b6_ b7_:List V):(Int × (List V))→Option ((Int × (List V)) ⊕ (Int × Bool × (List V))):=un fun t32 numbers=>s_dfa_Trim_1 C t31 t2s_0 t2s_1 ts_0 ts_1 statess b4_ b5_ b6_ b7_ t32 numbers (fun y=>some (.inl y)) (fun r=>some (.inr r))
noncomputable def s_dfa_Trim_2 (C:CallF) (t40 t2s_0 t2s_1 ts_0 ts_1:Int) (t39s b4_ b5_ b6_ b7_:List V) (t41:Int) (numbers:List V) {β:Type} (kn:(Int × (List V))→Option β) (kr:(Int × Bool × (List V))→Option β):Option β:=
 bif decide ((t41:Int)<t40) then
  bif (decide (0≤t41))&&(decide (t41<(t39s.length:Int))) then
  (t39s[(t41:Int).toNat]?).bind fun x7=>
  bif (decide (0≤x7.toInt))&&(decide (x7.toInt<(numbers.length:Int))) then
   (numbers[(x7.toInt:Int).toNat]?).bind fun x8=>
   kn (IntKind.wrap .i64 (t41+1),numbers.set ((x7.toInt:Int).toNat) (.int .i64 t41))
  else none
  else none
 else
  kr (t41,decide ((t41:Int)<t40),numbers)
noncomputable def s_dfa_Trim_2L (C:CallF) (t40 t2s_0 t2s_1 ts_0 ts_1:Int) (t39s b4_ b5_ b6_ b7_:List V):(Int × (List V))→Option ((Int × (List V)) ⊕ (Int × Bool × (List V))):=un fun t41 numbers=>s_dfa_Trim_2 C t40 t2s_0 t2s_1 ts_0 ts_1 t39s b4_ b5_ b6_ b7_ t41 numbers (fun y=>some (.inl y)) (fun r=>some (.inr r))
noncomputable def LT_dfa_Trim (C:CallF):LTab:=fun β n ds k=>
 bif Nat.beq n 97 then loopS S108_97 [false,true,false,false,false,false,false,true,false,false,false,false] [[1,0,0,3,4,5,6,7,0,9,10,11,12]] (@s_dfa_Trim_1 C) ds k else
 bif Nat.beq n 177 then loopS S108_177 [false,true,false,false,false,false,true,false,false,false,false,false] [[1,0,0,3,4,5,6,0,8,9,10,11,12]] (@s_dfa_Trim_2 C) ds k else
 none
abbrev TS_dfa_Trim (C:CallF) (b:Bar):Prop:=Tells Tryd.prog ann C (LT_dfa_Trim C) 108 (ntmpsOf Tryd.prog (ann.fid 108)) (ann.sin 108).blks.length b
theorem t_dfa_Trim_1 (C:CallF):TS_dfa_Trim C (.loop (codeAt [1,1,1,1,0,1,0,0] B_dfa_Trim)):=
 tl3 S108_97 [false,true,false,false,false,false,false,true,false,false,false,false] [[1,0,0,3,4,5,6,7,0,9,10,11,12]] (@s_dfa_Trim_1 C) (by kernel_rfl) (ltok_of (bs:=[]) (by kernel_rfl) tells_nil) (fun ds=>by kernel_rfl) (fun i x=>by kernel_rfl) (fun i x β k=>by kernel_rfl) (fun β ds k=>by kernel_rfl)
theorem t_dfa_Trim_2 (C:CallF):TS_dfa_Trim C (.loop (codeAt [1,1,1,1,1,0,1,0,0] B_dfa_Trim)):=
 tl3 S108_177 [false,true,false,false,false,false,true,false,false,false,false,false] [[1,0,0,3,4,5,6,0,8,9,10,11,12]] (@s_dfa_Trim_2 C) (by kernel_rfl) (ltok_of (bs:=[]) (by kernel_rfl) tells_nil) (fun ds=>by kernel_rfl) (fun i x=>by kernel_rfl) (fun i x β k=>by kernel_rfl) (fun β ds k=>by kernel_rfl)
noncomputable def f_dfa_Trim (C:CallF) (d_0 d_1:Int) (d_2 d_3:List V):Option (List V):=
 (C F_dfa_Validate [.int .i64 d_0,.int .i64 d_1,.list T_bool d_2,.list T_l_int d_3]).bind fun r1=>
 bif (((V.nth r1 0).toInt):Int) != 0 then
  some [.int .i64 0,.int .i64 0,.list T_bool ([]:List V),.list T_l_int ([]:List V),.list T_int ([]:List V)]
 else
  (C F_dfa_explore_int_ [.int .i64 d_0,.int .i64 d_1,.int .i64 d_0,.int .i64 d_1,.list T_bool d_2,.list T_l_int d_3]).bind fun r2=>
  bif (decide (0≤(((V.nth (((r2.drop 3).drop 1).drop 1) 0).toList).length:Int)))&&((decide ((((V.nth (((r2.drop 3).drop 1).drop 1) 0).toList).length:Int)≤(((V.nth (((r2.drop 3).drop 1).drop 1) 0).toList).length:Int)))&&(Nat.ble ((((((V.nth (((r2.drop 3).drop 1).drop 1) 0).toList).length:Int):Int).toNat)*8) maxBytes)) then
  (Loop (s_dfa_Trim_1L C ((List.replicate (((((V.nth (((r2.drop 3).drop 1).drop 1) 0).toList).length:Int):Int).toNat) (V.int .i64 0)).length:Int) 0 0 ((V.nth r2 0).toInt) ((V.nth (r2.drop 1) 0).toInt) ((V.nth ((((r2.drop 3).drop 4).drop 1).drop 1) 0).toList) ([]:List V) ([]:List V) ((V.nth ((r2.drop 3).drop 4) 0).toList) ((V.nth (((r2.drop 3).drop 4).drop 1) 0).toList)) (0,List.replicate (((((V.nth (((r2.drop 3).drop 1).drop 1) 0).toList).length:Int):Int).toNat) (V.int .i64 0))).bind (un fun (t_4:Int)=>un fun (t_5:Bool) (numbers_6:List V)=>
   (Loop (s_dfa_Trim_2L C (((V.nth ((((r2.drop 3).drop 4).drop 1).drop 1) 0).toList).length:Int) 0 0 ((V.nth r2 0).toInt) ((V.nth (r2.drop 1) 0).toInt) ((V.nth ((((r2.drop 3).drop 4).drop 1).drop 1) 0).toList) ([]:List V) ([]:List V) ((V.nth ((r2.drop 3).drop 4) 0).toList) ((V.nth (((r2.drop 3).drop 4).drop 1) 0).toList)) (0,numbers_6)).bind (un fun (t_9:Int)=>un fun (t_10:Bool) (numbers_11:List V)=>
    some [.int .i64 ((V.nth r2 0).toInt),.int .i64 ((V.nth (r2.drop 1) 0).toInt),.list T_bool ((V.nth ((r2.drop 3).drop 4) 0).toList),.list T_l_int ((V.nth (((r2.drop 3).drop 4).drop 1) 0).toList),.list T_int numbers_11]))
  else none
theorem f_dfa_Trim_of {d_0 d_1:Int} {d_2 d_3:List V} {r:Option (List V)} (h:f_dfa_Trim CC d_0 d_1 d_2 d_3=r):CC F_dfa_Trim [.int .i64 d_0,.int .i64 d_1,.list T_bool d_2,.list T_l_int d_3]=r:=
 func_of (key:=108) (L:=LT_dfa_Trim CC) (bs:=[.loop (codeAt [1,1,1,1,0,1,0,0] B_dfa_Trim),.loop (codeAt [1,1,1,1,1,0,1,0,0] B_dfa_Trim)]) (by kernel_rfl) (tells_cons (t_dfa_Trim_1 CC) (tells_cons (t_dfa_Trim_2 CC) tells_nil)) (Eq.trans (by kernel_rfl) h)
end Go.AM
set_option maxRecDepth 100000
set_option linter.unusedSimpArgs false
namespace Go.AM
open Go.Proofs
def nV (q:Nat):V:= .int .i64 (q:Int)
def nS (S:List Nat):List V:=S.map nV
def mS (S:List Nat):List V:=mapF nV 0 S
theorem nV_key (a b:Nat):keyEq (nV a) (nV b)=decide (a=b):=keyEq_i64 a b
theorem nS_len {S:List Nat}:(nS S).length=S.length:=by simp[nS]
theorem nS_get {S:List Nat} {i:Nat} (h:i<S.length):(nS S)[i]? =some (nV S[i]):=by simp[nS,h]
theorem num_nil {x:Nat} (hx:x≤1000000):CC F_dfa_numbering_int__of [nV x,.list T_int []]=some [nV 0,.list T_int (nS [x]),.list T_map_int_int (mS [x])]:=by
 refine f_dfa_numbering_int__of_of ?_
 unfold f_dfa_numbering_int__of
 rw[inKind_i64 (by omega)]
 exact bT rfl (bT rfl (bT (cap (by simp) (by omega)) rfl))
theorem num_some {S:List Nat} {x:Nat} (hx:x≤1000000) (hl:S.length≤1000000):CC K_dfa_numbering_int__of_k167 [nV x,.list T_int (nS S),.list T_map_int_int (mS S)]=some [nV ((addB S x).idxOf x),.list T_map_int_int (mS (addB S x)),.list T_int (nS (addB S x))]:=by
 refine f_dfa_numbering_int__of_k167_of ?_
 unfold f_dfa_numbering_int__of_k167
 have e1:=mapF_has nV_key x S 0
 rw[inKind_i64 (by omega)]
 refine bT rfl ?_
 rw[idx_addB]
 by_cases h:x∈S
 ·refine bF (by rw[show mHas (.int .i64 (x:Int)) (mS S)=true from e1.trans (decide_eq_true h)];rfl) ?_
  have e2:=mapF_get nV_key x (.int .i64 0) S 0 h
  rw[show mGet (.int .i64 (x:Int)) (mS S) (.int .i64 0)=_ from e2,if_pos h,Nat.zero_add,show addB S x=S by unfold addB;rw[if_pos h]]
  rfl
 ·refine bT (by rw[show mHas (.int .i64 (x:Int)) (mS S)=false from e1.trans (decide_eq_false h)];rfl) ?_
  refine bT rfl ?_
  refine bT (cap (by rw[nS_len];simp;omega) (by omega)) ?_
  have e2:=mapF_put nV_key x S 0 h
  rw[Nat.zero_add] at e2
  rw[nS_len,show mPut (.int .i64 (x:Int)) (.int .i64 (S.length:Int)) (mS S)=_ from e2,if_neg h,show addB S x=S++[x] by unfold addB;rw[if_neg h]]
  simp[nS,nV,mS]
theorem trim1 {a:Da} {q x:Nat} (hq:q<a.n) (hx:x<a.L):CC F_dfa_Trim_1 (nV q::nV x::daR a)=some (nV (a.nx q x)::daR a):=by
 refine f_dfa_Trim_1_of ?_
 unfold f_dfa_Trim_1
 refine bs (Da.nxV_idx hq) ?_
 rw[rowF_list]
 exact bs (rowF_idx hx) rfl
theorem trim2 {a:Da} {q:Nat} (hq:q<a.n):CC F_dfa_Trim_2 (nV q::daR a)=some (.bool (a.fin q)::daR a):=by
 refine f_dfa_Trim_2_of ?_
 unfold f_dfa_Trim_2
 exact bs (Da.finV_idx hq) rfl
section
variable {a:Da} (h:a.Ok)
include h
theorem expl_in {S U:List Nat} {q:Nat} (hq:q<a.n) (hS: ∀s∈S,s<a.n) (hSn:S.length≤1000) (hp:rowB a.nx S q a.L <+: U) {i c1 c2:Int} {l1 l2 l3 l4:List V}:
  Loop (s_dfa_explore_int__1L CC (a.L:Int) i (q:Int) ((List.replicate (((a.L:Nat):Int).toNat) (V.int .i64 0)).length:Int) c1 c2 (a.L:Int) 0 l1 l2 l3 l4) (0,(a.L:Int),(a.st:Int),a.finV,a.nxV,List.replicate (((a.L:Nat):Int).toNat) (V.int .i64 0),nS S,mS S)=
   some ((a.L:Int),false,(a.L:Int),(a.st:Int),a.finV,a.nxV,(tab a.L fun x=>nV (U.idxOf (a.nx q x))),nS (rowB a.nx S q a.L),mS (rowB a.nx S q a.L)):=by
 have h6:=h.l6
 rw[Int.toNat_natCast,tab_rep,tab_len]
 refine (Loop_st a.L (fun x=>((x:Int),(a.L:Int),(a.st:Int),a.finV,a.nxV,(tab a.L fun j=>if j<x then nV (U.idxOf (a.nx q j)) else nV 0),nS (rowB a.nx S q x),mS (rowB a.nx S q x))) _ (fun x hx=> ?_) ?_)
 ·simp only[s_dfa_explore_int__1L,s_dfa_explore_int__1,un]
  refine bT (lt_t hx) ?_
  refine bs (trim1 hq hx) ?_
  have hT:(rowB a.nx S q x).length≤1000000:=by
   have: ∀x,(rowB a.nx S q x).length≤S.length+x:=by
    intro x
    induction x with
    | zero=>exact Nat.le_refl _
    | succ x ih=>rw[rowB,addB_len];split<;>omega
   have:=this x
   omega
  refine bs (num_some (S:=rowB a.nx S q x) (by have:=h.nx_lt hq hx;have:=h.most;omega) hT) ?_
  refine (at_tab hx).trans ?_
  rw[wr1 (by omega),Int.toNat_natCast,tab_set]
  have e:(addB (rowB a.nx S q x) (a.nx q x)).idxOf (a.nx q x)=U.idxOf (a.nx q x):=(idx_pre ((rowB_mono S q (show x+1≤a.L by omega)).trans hp) addB_mem).symm
  show some (Sum.inl _)=some (Sum.inl _)
  refine congrArg (fun x=>some (Sum.inl x)) ?_
  refine Prod.ext rfl (Prod.ext rfl (Prod.ext rfl (Prod.ext rfl (Prod.ext rfl (Prod.ext ?_ (Prod.ext rfl rfl))))))
  refine tab_congr fun j _=> ?_
  by_cases hj:j=x
  ·rw[if_pos hj,if_pos (by omega),hj,←e];rfl
  ·rw[if_neg hj]
   by_cases hj2:j<x
   ·rw[if_pos hj2,if_pos (by omega)]
   ·rw[if_neg hj2,if_neg (by omega)]
 ·simp only[s_dfa_explore_int__1L,s_dfa_explore_int__1,un]
  refine bF (lt_f (Nat.le_refl _)) ?_
  rw[lt_f (Nat.le_refl _)]
  have:(tab a.L fun j=>if j<a.L then nV (U.idxOf (a.nx q j)) else nV 0)=tab a.L fun j=>nV (U.idxOf (a.nx q j)):=tab_congr fun j hj=>if_pos hj
  rw[this]
theorem expl_out:CC F_dfa_explore_int_ ([nV a.L,nV a.st]++daR a)=some ([nV a.L,nV 0,.int .i64 0]++(daR a++[.list T_bool a.trim.finV,.list T_l_int a.trim.nxV,.list T_int (nS (bfs a.L a.nx a.st a.n))])):=by
 have h6:=h.l6
 have hm:=h.most
 have hd:=h.bfs_le a.n
 refine f_dfa_explore_int__of ?_
 unfold f_dfa_explore_int_
 refine bs (num_nil (by have:=h.s;omega)) ?_
 have key:Loop (s_dfa_explore_int__2L CC (a.L:Int) 0 0 (a.L:Int) 0 ([]:List V) ([]:List V)) (0,(a.L:Int),(a.st:Int),a.finV,a.nxV,nS [a.st],mS [a.st],([]:List V),([]:List V))=
   some (.inr (((bfs a.L a.nx a.st a.n).length:Int),false,(a.L:Int),(a.st:Int),a.finV,a.nxV,nS (bfs a.L a.nx a.st a.n),mS (bfs a.L a.nx a.st a.n),a.trim.finV,a.trim.nxV)):=by
  refine (Loop_st (bfs a.L a.nx a.st a.n).length (fun i=>((i:Int),(a.L:Int),(a.st:Int),a.finV,a.nxV,nS (bfs a.L a.nx a.st i),mS (bfs a.L a.nx a.st i),(tab i fun j=>V.bool (a.trim.fin j)),(tab i fun j=>rowF a.L (a.trim.nx j)))) _ (fun i hi=> ?_) ?_)
  ·have hi1:=bfs_known hd hi
   have hUi:(bfs a.L a.nx a.st i)[i]=(bfs a.L a.nx a.st a.n)[i]:=(bfs_mono (show i≤a.n by omega)).getElem hi1
   have hq:(bfs a.L a.nx a.st a.n)[i]<a.n:=h.bfs_lt _ _ (List.getElem_mem hi)
   have hlen:(bfs a.L a.nx a.st i).length≤512:=Nat.le_trans (h.bfs_le i) hm
   have hlen1:(bfs a.L a.nx a.st (i+1)).length≤512:=Nat.le_trans (h.bfs_le (i+1)) hm
   have hstep:=bfs_next hd hi
   simp only[s_dfa_explore_int__2L,s_dfa_explore_int__2,un]
   refine bT (decide_eq_true (by rw[nS_len];omega)) ?_
   refine (at_list (nS_get hi1)).trans ?_
   refine bT (mk_ok (by omega) (by omega)) ?_
   rw[hUi]
   refine bs (expl_in h hq (h.bfs_lt i) (by omega) (U:=bfs a.L a.nx a.st a.n) (by rw[←hstep];exact bfs_mono (by omega))) ?_
   rw[←hstep]
   refine bF (decide_eq_false (by rw[nS_len];omega)) ?_
   refine bT (cap (by rw[tab_len];simp;omega) (by omega)) ?_
   refine bs (trim2 hq) ?_
   refine bT (cap (by rw[tab_len];simp;omega) (by omega)) ?_
   rw[wr1 (by omega),tab_succ,tab_succ]
   have e1:a.trim.fin i=a.fin (bfs a.L a.nx a.st a.n)[i]:=daOf_fin hi
   have e2:rowF a.L (a.trim.nx i)= .list T_int (tab a.L fun x=>nV ((bfs a.L a.nx a.st a.n).idxOf (a.nx (bfs a.L a.nx a.st a.n)[i] x))):=by
    unfold rowF
    refine congrArg _ (tab_congr fun x hx=> ?_)
    rw[show a.trim.nx i x=_ from daOf_nx hi hx];rfl
   rw[e1,e2]
   rfl
  ·simp only[s_dfa_explore_int__2L,s_dfa_explore_int__2,un]
   rw[bfs_len hd,nS_len]
   refine bF (lt_f (Nat.le_refl _)) ?_
   rw[lt_f (Nat.le_refl _)]
   have e3:a.trim.n=(bfs a.L a.nx a.st a.n).length:=daOf_n
   unfold Da.finV Da.nxV
   rw[e3];rfl
 refine bs key ?_
 rfl
end
def placeV (U:List Nat) (n:Nat):List V:=tab n fun q=>if q∈U then nV (U.idxOf q) else .int .i64 (-1)
theorem place_step {U:List Nat} {n i:Nat} (hU:U.Nodup) (hi:i<U.length):(tab n fun q=>if q∈U.take i then nV (U.idxOf q) else V.int .i64 (-1)).set U[i] (.int .i64 (i:Int))=tab n fun q=>if q∈U.take (i+1) then nV (U.idxOf q) else V.int .i64 (-1):=by
 rw[tab_set]
 refine tab_congr fun q _=> ?_
 have e:q∈U.take (i+1)↔q∈U.take i∨q=U[i]:=by rw[List.take_succ_eq_append_getElem hi,List.mem_append,List.mem_singleton]
 by_cases hq:q=U[i]
 ·rw[if_pos hq,if_pos (e.2 (.inr hq)),hq,hU.idxOf_getElem i hi];rfl
 ·rw[if_neg hq]
  by_cases h2:q∈U.take i
  ·rw[if_pos h2,if_pos (e.2 (.inl h2))]
  ·rw[if_neg h2,if_neg fun h3=>(e.1 h3).elim h2 hq]
theorem Trim_spec {a:Da} (h:a.Ok):CC F_dfa_Trim (daR a)=some (daR a.trim++[.list T_int (placeV (bfs a.L a.nx a.st a.n) a.n)]):=by
 have hm:=h.most
 have hU:=h.bfs_lt a.n
 have hle:=h.bfs_le a.n
 refine f_dfa_Trim_of ?_
 unfold f_dfa_Trim
 refine bs (Validate_ok h) ?_
 refine bF rfl ?_
 refine bs (expl_out h) ?_
 have e0:((V.nth (((([nV a.L,nV 0,V.int .i64 0]++(daR a++[V.list T_bool a.trim.finV,V.list T_l_int a.trim.nxV,V.list T_int (nS (bfs a.L a.nx a.st a.n))])).drop 3).drop 1).drop 1) 0).toList)=a.finV:=rfl
 rw[e0,Da.finV_len]
 refine bT (mk_ok (by omega) (by omega)) ?_
 rw[Int.toNat_natCast,tab_rep,tab_len]
 generalize hUd:bfs a.L a.nx a.st a.n=U at*
 have l1: ∀{c1 c2 c3 c4:Int} {s1 s2 s3 s4 s5:List V},Loop (s_dfa_Trim_1L CC (a.n:Int) c1 c2 c3 c4 s1 s2 s3 s4 s5) (0,tab a.n fun _=>V.int .i64 0)=some ((a.n:Int),false,tab a.n fun q=>if q∈U.take 0 then nV (U.idxOf q) else V.int .i64 (-1)):=by
  intro c1 c2 c3 c4 s1 s2 s3 s4 s5
  refine (Loop_st a.n (fun i=>((i:Int),(tab a.n fun j=>if j<i then V.int .i64 (-1) else V.int .i64 0))) _ (fun i hi=> ?_) ?_)
  ·simp only[s_dfa_Trim_1L,s_dfa_Trim_1,un]
   refine bT (lt_t hi) ?_
   refine (at_tab hi).trans ?_
   rw[wr1 (by omega),Int.toNat_natCast,tab_set]
   refine congrArg (fun x=>some (Sum.inl (((i+1:Nat):Int),x))) (tab_congr fun j _=> ?_)
   by_cases hj:j=i
   ·rw[if_pos hj,if_pos (by omega)]
   ·rw[if_neg hj]
    by_cases hj2:j<i
    ·rw[if_pos hj2,if_pos (by omega)]
    ·rw[if_neg hj2,if_neg (by omega)]
  ·simp only[s_dfa_Trim_1L,s_dfa_Trim_1,un]
   refine bF (lt_f (Nat.le_refl _)) ?_
   rw[lt_f (Nat.le_refl _)]
   refine congrArg (fun x=>some (Sum.inr ((a.n:Int),false,x))) (tab_congr fun j hj=> ?_)
   rw[if_pos hj,List.take_zero,if_neg (by simp)]
 refine bs l1 ?_
 simp only[un]
 have hUn:U.Nodup:=by rw[←hUd];exact bfs_nodup _
 have l2: ∀{c1 c2 c3 c4:Int} {s2 s3 s4 s5:List V},Loop (s_dfa_Trim_2L CC ((nS U).length:Int) c1 c2 c3 c4 (nS U) s2 s3 s4 s5) (0,tab a.n fun q=>if q∈U.take 0 then nV (U.idxOf q) else V.int .i64 (-1))=some ((U.length:Int),false,placeV U a.n):=by
  intro c1 c2 c3 c4 s2 s3 s4 s5
  rw[nS_len]
  refine (Loop_st U.length (fun i=>((i:Int),(tab a.n fun q=>if q∈U.take i then nV (U.idxOf q) else V.int .i64 (-1)))) _ (fun i hi=> ?_) ?_)
  ·have hq:=hU U[i] (List.getElem_mem hi)
   simp only[s_dfa_Trim_2L,s_dfa_Trim_2,un]
   refine bT (lt_t hi) ?_
   refine (at_list (nS_get hi)).trans ?_
   refine (at_tab (i:=U[i]) hq).trans ?_
   rw[wr1 (by omega)]
   refine congrArg (fun x=>some (Sum.inl (((i+1:Nat):Int),x))) ?_
   exact place_step hUn hi
  ·simp only[s_dfa_Trim_2L,s_dfa_Trim_2,un]
   refine bF (lt_f (Nat.le_refl _)) ?_
   rw[lt_f (Nat.le_refl _),List.take_length]
   rfl
 refine bs l2 ?_
 rfl
end Go.AM
set_option maxRecDepth 100000
set_option linter.unusedSimpArgs false
namespace Go.AM
section
variable {β:Type} [DecidableEq β]
def ded (g:Nat→β):Nat→List β
 | 0=>[]
 | n+1=>addB (ded g n) (g n)
theorem ded_nodup (g:Nat→β): ∀n,(ded g n).Nodup
 | 0=>List.nodup_nil
 | n+1=>addB_nodup (ded_nodup g n)
theorem ded_mem {g:Nat→β} {v:β}: ∀{n},v∈ded g n↔∃q,q<n∧g q=v
 | 0=>⟨fun h=>(by cases h),fun ⟨q,h,_⟩=>(by omega)⟩
 | n+1=>by
  have ih:=ded_mem (g:=g) (v:=v) (n:=n)
  rw[ded]
  unfold addB
  constructor
  ·intro h
   split at h
   ·obtain ⟨q,h1,h2⟩:=ih.1 h;exact ⟨q,by omega,h2⟩
   ·rcases List.mem_append.1 h with h|h
    ·obtain ⟨q,h1,h2⟩:=ih.1 h;exact ⟨q,by omega,h2⟩
    ·exact ⟨n,by omega,(List.mem_singleton.1 h).symm⟩
  ·rintro ⟨q,h1,h2⟩
   rcases Nat.lt_or_ge q n with c|c
   ·exact (addB_pre (ded g n) (g n)).subset (ih.2 ⟨q,c,h2⟩)
   ·obtain rfl:q=n:=by omega
    rw[←h2];exact addB_mem
theorem ded_pre {g:Nat→β} {m n:Nat} (h:m≤n):ded g m <+: ded g n:=by
 induction n with
 | zero=>rw[Nat.le_zero.1 h];exact List.prefix_refl _
 | succ n ih=>
  rcases Nat.lt_or_ge m (n+1) with c|c
  ·exact (ih (by omega)).trans (addB_pre _ _)
  ·rw[show m=n+1 by omega];exact List.prefix_refl _
theorem ded_le (g:Nat→β): ∀n,(ded g n).length≤n
 | 0=>Nat.le_refl _
 | n+1=>by
  have:=ded_le g n
  rw[ded,addB_len]
  split<;>omega
def numb (g:Nat→β) (n q:Nat):Nat:=(ded g n).idxOf (g q)
theorem numb_lt {g:Nat→β} {n q:Nat} (h:q<n):numb g n q<(ded g n).length:=List.idxOf_lt_length_of_mem (ded_mem.2 ⟨q,h,rfl⟩)
theorem numb_eq {g:Nat→β} {n p q:Nat} (hp:p<n) (hq:q<n):numb g n p=numb g n q↔g p=g q:=by
 constructor
 ·intro h
  have h1:=List.getElem_idxOf (numb_lt (g:=g) hp)
  have h2:=List.getElem_idxOf (numb_lt (g:=g) hq)
  rw[←h1,←h2]
  exact getElem_congr_idx h
 ·intro h;unfold numb;rw[h]
theorem numb_pre {g:Nat→β} {m n q:Nat} (h:q<m) (hm:m≤n):numb g n q=numb g m q:=idx_pre (ded_pre hm) (ded_mem.2 ⟨q,h,rfl⟩)
theorem ded_in {g:Nat→β} {q:Nat} (h:g q∈ded g q):ded g (q+1)=ded g q:=by rw[ded];unfold addB;rw[if_pos h]
theorem ded_new {g:Nat→β} {q:Nat} (h:g q∉ded g q):ded g (q+1)=ded g q++[g q]:=by rw[ded];unfold addB;rw[if_neg h]
theorem numb_in {g:Nat→β} {n q:Nat} (hq:q<n) (h:g q∈ded g q):numb g n q=(ded g q).idxOf (g q):=by
 rw[numb_pre (show q<q+1 by omega) (by omega)]
 unfold numb
 rw[ded_in h]
theorem numb_new {g:Nat→β} {n q:Nat} (hq:q<n) (h:g q∉ded g q):numb g n q=(ded g q).length:=by
 rw[numb_pre (show q<q+1 by omega) (by omega)]
 unfold numb
 rw[ded_new h,List.idxOf_append,if_neg h]
 simp
def Ordn (p:Nat→Nat) (n:Nat):Prop:= ∀m,m≤n→ded p m=List.range (ded p m).length
theorem numb_ord (g:Nat→β) (n:Nat): ∀m,m≤n→ded (numb g n) m=List.range (ded g m).length:=by
 intro m
 induction m with
 | zero=>intro _;rfl
 | succ m ih=>
  intro hm
  have ih:=ih (by omega)
  have e1:numb g n m=numb g (m+1) m:=numb_pre (by omega) hm
  have e2:numb g (m+1) m=if g m∈ded g m then (ded g m).idxOf (g m) else (ded g m).length:=by
   unfold numb
   rw[ded]
   unfold addB
   split
   ·rfl
   ·rename_i h
    rw[List.idxOf_append,if_neg h]
    simp
  rw[ded,ih,ded,addB_len]
  unfold addB
  by_cases h:g m∈ded g m
  ·have:=List.idxOf_lt_length_of_mem h
   rw[if_pos h] at e2
   rw[if_pos h,if_pos (by rw[e1,e2];exact List.mem_range.2 this)]
  ·rw[if_neg h] at e2
   rw[if_neg h,if_neg (by rw[e1,e2];simp),e1,e2,List.range_succ]
theorem numb_ordn (g:Nat→β) (n:Nat):Ordn (numb g n) n:=fun m hm=>by
 rw[numb_ord g n m hm,List.length_range]
theorem same_count {γ:Type} [DecidableEq γ] {f:Nat→β} {c:Nat→γ} {n:Nat} (hr: ∀q q',q<n→q'<n→f q=f q'→c q=c q') (hl:(ded f n).length≤(ded c n).length):
  ∀q q',q<n→q'<n→c q=c q'→f q=f q':=by
 intro q q' hq hq' hc
 refine Decidable.byContradiction fun hf=> ?_
 have rep: ∀v∈ded f n,∃q,q<n∧f q=v:=fun v hv=>ded_mem.1 hv
 have: ∃R:β→Nat,∀v∈ded f n,R v<n∧f (R v)=v:=by
  classical
  refine ⟨fun v=>if h:v∈ded f n then Classical.choose (rep v h) else 0,fun v hv=> ?_⟩
  simp only[hv,dif_pos]
  exact Classical.choose_spec (rep v hv)
 obtain ⟨R,hR⟩:=this
 have hsub:ded c n ⊆ ((ded f n).filter fun v=>decide (v≠f q')).map fun v=>c (R v):=by
  intro u hu
  obtain ⟨s,hs,rfl⟩:=ded_mem.1 hu
  by_cases h:f s=f q'
  ·refine List.mem_map.2 ⟨f q,List.mem_filter.2 ⟨ded_mem.2 ⟨q,hq,rfl⟩,decide_eq_true hf⟩,?_⟩
   have h1:=hR (f q) (ded_mem.2 ⟨q,hq,rfl⟩)
   rw[hr _ _ h1.1 hq h1.2,hc,hr _ _ hs hq' h]
  ·refine List.mem_map.2 ⟨f s,List.mem_filter.2 ⟨ded_mem.2 ⟨s,hs,rfl⟩,decide_eq_true h⟩,?_⟩
   have h1:=hR (f s) (ded_mem.2 ⟨s,hs,rfl⟩)
   exact hr _ _ h1.1 hs h1.2
 have h1:=List.Nodup.length_le_of_subset (ded_nodup c n) hsub
 rw[List.length_map] at h1
 have h2:((ded f n).filter fun v=>decide (v≠f q')).length<(ded f n).length:=by
  have hm:f q'∈ded f n:=ded_mem.2 ⟨q',hq',rfl⟩
  have hlt:=List.length_filter_lt_length_iff_exists (p:=fun v=>decide (v≠f q')) (l:=ded f n)
  exact hlt.2 ⟨f q',hm,by simp⟩
 omega
theorem finer_count {γ:Type} [DecidableEq γ] {f:Nat→β} {c:Nat→γ} {n:Nat} (hr: ∀q q',q<n→q'<n→f q=f q'→c q=c q'):(ded c n).length≤(ded f n).length:=by
 rcases Nat.lt_or_ge (ded f n).length (ded c n).length with h|h
 ·have:=same_count hr (by omega)
  have rep: ∀v∈ded f n,∃q,q<n∧f q=v:=fun v hv=>ded_mem.1 hv
  have: ∃R:β→Nat,∀v∈ded f n,R v<n∧f (R v)=v:=by
   classical
   refine ⟨fun v=>if h:v∈ded f n then Classical.choose (rep v h) else 0,fun v hv=> ?_⟩
   simp only[hv,dif_pos]
   exact Classical.choose_spec (rep v hv)
  obtain ⟨R,hR⟩:=this
  have hsub:ded c n ⊆ (ded f n).map fun v=>c (R v):=by
   intro u hu
   obtain ⟨s,hs,rfl⟩:=ded_mem.1 hu
   have h1:=hR (f s) (ded_mem.2 ⟨s,hs,rfl⟩)
   exact List.mem_map.2 ⟨f s,ded_mem.2 ⟨s,hs,rfl⟩,hr _ _ h1.1 hs h1.2⟩
  have h1:=List.Nodup.length_le_of_subset (ded_nodup c n) hsub
  rw[List.length_map] at h1
  omega
 ·exact h
theorem numb_same {γ:Type} [DecidableEq γ] {f:Nat→β} {c:Nat→γ} {n:Nat} (h: ∀q q',q<n→q'<n→(f q=f q'↔c q=c q')): ∀q,q<n→numb f n q=numb c n q:=by
 have key: ∀m,m≤n→(ded f m).length=(ded c m).length∧∀q,q<m→numb f m q=numb c m q:=by
  intro m
  induction m with
  | zero=>intro _;exact ⟨rfl,fun q hq=>by omega⟩
  | succ m ih=>
   intro hm
   obtain ⟨i1,i2⟩:=ih (by omega)
   have hmem:f m∈ded f m↔c m∈ded c m:=by
    rw[ded_mem,ded_mem]
    exact ⟨fun ⟨q,h1,h2⟩=>⟨q,h1,(h q m (by omega) (by omega)).1 h2⟩,fun ⟨q,h1,h2⟩=>⟨q,h1,(h q m (by omega) (by omega)).2 h2⟩⟩
   refine ⟨?_,fun q hq=> ?_⟩
   ·rw[ded,ded,addB_len,addB_len,i1]
    by_cases hx:f m∈ded f m
    ·rw[if_pos hx,if_pos (hmem.1 hx)]
    ·rw[if_neg hx,if_neg fun h=>hx (hmem.2 h)]
   ·rcases Nat.lt_or_ge q m with c1|c1
    ·exact (numb_pre (g:=f) c1 (by omega)).trans ((i2 q c1).trans (numb_pre (g:=c) c1 (by omega)).symm)
    ·obtain rfl:q=m:=by omega
     unfold numb
     rw[ded,ded]
     by_cases hx:f q∈ded f q
     ·obtain ⟨r,h1,h2⟩:=ded_mem.1 hx
      have h3:=(h r q (by omega) (by omega)).1 h2
      have:=i2 r h1
      unfold numb at this
      unfold addB
      rw[if_pos hx,if_pos (hmem.1 hx),←h2,←h3,this]
     ·unfold addB
      rw[if_neg hx,if_neg fun h=>hx (hmem.2 h),List.idxOf_append,List.idxOf_append,if_neg hx,if_neg fun h=>hx (hmem.2 h)]
      simp[i1]
 exact (key n (Nat.le_refl _)).2
end
namespace Da
structure Part (a:Da) (c:Nat→Nat):Prop where
 coarse: ∀q q',q<a.n→q'<a.n→a.Eqv q a q'→c q=c q'
 fin: ∀q q',q<a.n→q'<a.n→c q=c q'→a.fin q=a.fin q'
def sig (a:Da) (c:Nat→Nat) (q:Nat):List Nat:=c q::(List.range a.L).map fun x=>c (a.nx q x)
theorem sig_eq {a:Da} {c:Nat→Nat} {q q':Nat}:a.sig c q=a.sig c q'↔c q=c q'∧∀x,x<a.L→c (a.nx q x)=c (a.nx q' x):=by
 unfold sig
 rw[List.cons.injEq]
 refine and_congr Iff.rfl ⟨fun h x hx=> ?_,fun h=>List.map_congr_left fun x hx=>h x (List.mem_range.1 hx)⟩
 have:=congrArg (fun l=>l.getD x 0) h
 simpa[hx] using this
def Finer (a:Da) (c f:Nat→Nat):Prop:= ∀q q',q<a.n→q'<a.n→(f q=f q'↔a.sig c q=a.sig c q')
theorem Finer.part {a:Da} {c f:Nat→Nat} (h:a.Finer c f) (ha:a.Ok) (hc:a.Part c):a.Part f where
 coarse q q' hq hq' he:=(h q q' hq hq').2 (sig_eq.2 ⟨hc.coarse q q' hq hq' he,fun x hx=>hc.coarse _ _ (ha.nx_lt hq hx) (ha.nx_lt hq' hx) (he.nx hx)⟩)
 fin q q' hq hq' he:=hc.fin q q' hq hq' (sig_eq.1 ((h q q' hq hq').1 he)).1
def Cls (a:Da) (p:Nat→Nat):Prop:=(∀q q',q<a.n→q'<a.n→(p q=p q'↔a.Eqv q a q'))∧Ordn p a.n
theorem Part.stable {a:Da} {c:Nat→Nat} (hc:a.Part c) (ha:a.Ok) (hs: ∀q q',q<a.n→q'<a.n→c q=c q'→a.sig c q=a.sig c q'): ∀q q',q<a.n→q'<a.n→(c q=c q'↔a.Eqv q a q'):=by
 intro q q' hq hq'
 refine ⟨fun h w=> ?_,hc.coarse q q' hq hq'⟩
 induction w generalizing q q' with
 | nil=>intro _;rw[acc_nil,acc_nil];exact hc.fin q q' hq hq' h
 | cons x w ih=>
  intro hw
  rw[acc_cons,acc_cons]
  exact ih _ _ (ha.nx_lt hq hw.head) (ha.nx_lt hq' hw.head) ((sig_eq.1 (hs q q' hq hq' h)).2 x hw.head) hw.tail
def reps (p:Nat→Nat):Nat→List Nat
 | 0=>[]
 | n+1=>if p n∈ded p n then reps p n else reps p n++[n]
theorem reps_map {p:Nat→Nat}: ∀n,(reps p n).map p=ded p n
 | 0=>rfl
 | n+1=>by
  rw[reps,ded]
  unfold addB
  split
  ·exact reps_map n
  ·rw[List.map_append,reps_map n];rfl
theorem reps_len {p:Nat→Nat} {n:Nat}:(reps p n).length=(ded p n).length:=by rw[←reps_map,List.length_map]
theorem reps_lt {p:Nat→Nat}: ∀{n q},q∈reps p n→q<n
 | 0,q,h=>by cases h
 | n+1,q,h=>by
  rw[reps] at h
  split at h
  ·have:=reps_lt h;omega
  ·rcases List.mem_append.1 h with h|h
   ·have:=reps_lt h;omega
   ·rw[List.mem_singleton.1 h];omega
theorem reps_at {p:Nat→Nat} {n:Nat} (ho:Ordn p n) {c:Nat} (hc:c<(reps p n).length):p (reps p n)[c]=c:=by
 have h1:=ho n (Nat.le_refl _)
 have h2:((reps p n).map p)[c]? =some c:=by rw[reps_map,h1,List.getElem?_range (by rw[reps_len] at hc;exact hc)]
 rw[List.getElem?_map,List.getElem?_eq_getElem hc] at h2
 exact Option.some.inj h2
theorem ord_lt {p:Nat→Nat} {n q:Nat} (ho:Ordn p n) (hq:q<n):p q<(reps p n).length:=by
 have h1:p q∈ded p n:=ded_mem.2 ⟨q,hq,rfl⟩
 rw[ho n (Nat.le_refl _),List.mem_range] at h1
 rw[reps_len];exact h1
def quo (a:Da) (p:Nat→Nat):Da where
 L:=a.L
 st:=p a.st
 F:=(reps p a.n).map a.fin
 N:=(reps p a.n).map fun q=>tab a.L fun x=>p (a.nx q x)
theorem quo_n {a:Da} {p:Nat→Nat}:(a.quo p).n=(reps p a.n).length:=by simp[quo,n]
theorem quo_fin {a:Da} {p:Nat→Nat} {c:Nat} (hc:c<(reps p a.n).length):(a.quo p).fin c=a.fin (reps p a.n)[c]:=by
 show ((reps p a.n).map a.fin).getD c false=_
 rw[getD_at (by simpa using hc),List.getElem_map]
theorem quo_nx {a:Da} {p:Nat→Nat} {c x:Nat} (hc:c<(reps p a.n).length) (hx:x<a.L):(a.quo p).nx c x=p (a.nx (reps p a.n)[c] x):=by
 show (((reps p a.n).map fun q=>tab a.L fun x=>p (a.nx q x)).getD c []).getD x 0=_
 rw[getD_at (l:=(reps p a.n).map fun q=>tab a.L fun x=>p (a.nx q x)) (by simpa using hc),List.getElem_map,tab_getD hx]
section
variable {a:Da} {p:Nat→Nat} (ha:a.Ok) (hp:a.Cls p)
include ha hp
theorem quo_ok:(a.quo p).Ok where
 l1:=ha.l1
 l6:=ha.l6
 nN:=by rw[quo_n];simp[quo]
 row r hr:=by
  rw[quo_n]
  obtain ⟨q,hq,rfl⟩:=List.mem_map.1 (show r∈(reps p a.n).map _ from hr)
  refine ⟨by simp[quo],fun s hs=> ?_⟩
  obtain ⟨x,hx,rfl⟩:=tab_mem.1 hs
  exact ord_lt hp.2 (ha.nx_lt (reps_lt hq) hx)
 s:=by rw[quo_n];exact ord_lt hp.2 ha.s
 most:=by
  rw[quo_n,reps_len]
  have:=ded_le p a.n
  have:=ha.most
  omega
theorem quo_acc: ∀(w:List Nat) {q:Nat},q<a.n→WL a.L w→(a.quo p).acc (p q) w=a.acc q w
 | [],q,hq,_=>by
  have hc:=ord_lt hp.2 hq
  rw[acc_nil,acc_nil,quo_fin hc]
  have h1:=(hp.1 _ _ (reps_lt (List.getElem_mem hc)) hq).1 (reps_at hp.2 hc)
  have:=h1 [] WL.nil
  rwa [acc_nil,acc_nil] at this
 | x::w,q,hq,hw=>by
  have hc:=ord_lt hp.2 hq
  have hr:=reps_lt (List.getElem_mem hc)
  have h1:=(hp.1 _ _ hr hq).1 (reps_at hp.2 hc)
  have h2:=(hp.1 _ _ (ha.nx_lt hr hw.head) (ha.nx_lt hq hw.head)).2 (h1.nx hw.head)
  rw[acc_cons,acc_cons,quo_nx hc hw.head,h2]
  exact quo_acc w (ha.nx_lt hq hw.head) hw.tail
theorem quo_red: ∀c d,c<(a.quo p).n→d<(a.quo p).n→(a.quo p).Eqv c (a.quo p) d→c=d:=by
 intro c d hc hd he
 rw[quo_n] at hc hd
 have r1:=reps_lt (List.getElem_mem hc)
 have r2:=reps_lt (List.getElem_mem hd)
 rw[←reps_at hp.2 hc,←reps_at hp.2 hd]
 refine (hp.1 _ _ r1 r2).2 fun w hw=> ?_
 rw[←quo_acc ha hp w r1 hw,←quo_acc ha hp w r2 hw,reps_at hp.2 hc,reps_at hp.2 hd]
 exact he w hw
theorem quo_canon:(a.quo p).trim.Canon a.L (a.acc a.st):=by
 have h:=(quo_ok ha hp).trim_canon (quo_red ha hp)
 exact ⟨h.ok,h.hL,h.st,h.num,h.red,fun w hw=>(h.lang w hw).trans (quo_acc ha hp w ha.s hw)⟩
end
end Da
end Go.AM
set_option maxRecDepth 100000
namespace Go.AM
open Go.Proofs
noncomputable abbrev B_minimize_Classes:Code:=bodyOf Tryd.prog (ann.fid 109)
noncomputable def s_minimize_Classes_1 (C:CallF) (t24:List V) (t25 ds_0 ds_1:Int) (ds_2 ds_3:List V) (count t26:Int) (classess:List V) {β:Type} (kn:(Int × Int × (List V))→Option β) (kr:(Int × Int × Bool × (List V))→Option β):Option β:=
 bif decide ((t26:Int)<t25) then
  (idx t24 t26).bind fun x2=>
  (ds_2[0]?).bind fun x3=>
  bif !(x2.toBool==x3.toBool) then
  bif (decide (0≤t26))&&(decide (t26<(classess.length:Int))) then
   (classess[(t26:Int).toNat]?).bind fun x4=>
   kn (2,IntKind.wrap .i64 (t26+1),classess.set ((t26:Int).toNat) (.int .i64 1))
  else none
  else
  kn (count,IntKind.wrap .i64 (t26+1),classess)
 else
  kr (count,t26,decide ((t26:Int)<t25),classess)
noncomputable def s_minimize_Classes_1L (C:CallF) (t24:List V) (t25 ds_0 ds_1:Int) (ds_2 ds_3:List V):(Int × Int × (List V))→Option ((Int × Int × (List V)) ⊕ (Int × Int × Bool × (List V))):=un fun count=>un fun t26 classess=>s_minimize_Classes_1 C t24 t25 ds_0 ds_1 ds_2 ds_3 count t26 classess (fun y=>some (.inl y)) (fun r=>some (.inr r))
noncomputable def s_minimize_Classes_2 (C:CallF) (count q:Int) (t46:List V) (t47 t48:Int) (t58:List V) (t59 ds_0 ds_1:Int) (ds_2 ds_3 classess numbers finers:List V) (t60 keys_0 keys_1 keys_2 keys_3 keys_4 keys_5 keys_6:Int) {β:Type} (kn:(Int × Int × Int × Int × Int × Int × Int × Int)→Option β) (kr:(Int × Bool × Int × Int × Int × Int × Int × Int × Int)→Option β):Option β:=
 bif decide ((t60:Int)<t59) then
  (idx t58 t60).bind fun x11=>
  bif (decide (0≤x11.toInt))&&(decide (x11.toInt<(classess.length:Int))) then
  (classess[(x11.toInt:Int).toNat]?).bind fun x12=>
  bif (decide (0≤(IntKind.wrap .i64 (1+t60))))&&(decide ((IntKind.wrap .i64 (1+t60))<7)) then
   bif Nat.blt (0+(((IntKind.wrap .i64 (1+t60):Int).toNat)*1)) 7 then
   kn (IntKind.wrap .i64 (t60+1),bif Nat.beq (0+(((IntKind.wrap .i64 (1+t60):Int).toNat)*1)) 0 then x12.toInt else keys_0,bif Nat.beq (0+(((IntKind.wrap .i64 (1+t60):Int).toNat)*1)) 1 then x12.toInt else keys_1,bif Nat.beq (0+(((IntKind.wrap .i64 (1+t60):Int).toNat)*1)) 2 then x12.toInt else keys_2,bif Nat.beq (0+(((IntKind.wrap .i64 (1+t60):Int).toNat)*1)) 3 then x12.toInt else keys_3,bif Nat.beq (0+(((IntKind.wrap .i64 (1+t60):Int).toNat)*1)) 4 then x12.toInt else keys_4,bif Nat.beq (0+(((IntKind.wrap .i64 (1+t60):Int).toNat)*1)) 5 then x12.toInt else keys_5,bif Nat.beq (0+(((IntKind.wrap .i64 (1+t60):Int).toNat)*1)) 6 then x12.toInt else keys_6)
   else none
  else none
  else none
 else
  kr (t60,decide ((t60:Int)<t59),keys_0,keys_1,keys_2,keys_3,keys_4,keys_5,keys_6)
noncomputable def s_minimize_Classes_2L (C:CallF) (count q:Int) (t46:List V) (t47 t48:Int) (t58:List V) (t59 ds_0 ds_1:Int) (ds_2 ds_3 classess numbers finers:List V):(Int × Int × Int × Int × Int × Int × Int × Int)→Option ((Int × Int × Int × Int × Int × Int × Int × Int) ⊕ (Int × Bool × Int × Int × Int × Int × Int × Int × Int)):=un fun t60=>un fun keys_0=>un fun keys_1=>un fun keys_2=>un fun keys_3=>un fun keys_4=>un fun keys_5 keys_6=>s_minimize_Classes_2 C count q t46 t47 t48 t58 t59 ds_0 ds_1 ds_2 ds_3 classess numbers finers t60 keys_0 keys_1 keys_2 keys_3 keys_4 keys_5 keys_6 (fun y=>some (.inl y)) (fun r=>some (.inr r))
noncomputable def s_minimize_Classes_3 (C:CallF) (count:Int) (t46:List V) (t47 ds_0 ds_1:Int) (ds_2 ds_3 classess:List V) (t48:Int) (numbers finers:List V) {β:Type} (kn:(Int × (List V) × (List V))→Option β) (kr:(Int × Bool × (List V) × (List V))→Option β):Option β:=
 bif decide ((t48:Int)<t47) then
  (idx t46 t48).bind fun x9=>
  bif (decide (0≤t48))&&(decide (t48<(classess.length:Int))) then
  (classess[(t48:Int).toNat]?).bind fun x10=>
  (Loop (s_minimize_Classes_2L C count t48 t46 t47 t48 x9.toList (x9.toList.length:Int) ds_0 ds_1 ds_2 ds_3 classess numbers finers) (0,x10.toInt,0,0,0,0,0,0)).bind (un fun (t_13:Int)=>un fun (t_14:Bool)=>un fun (keys_15:Int)=>un fun (keys_16:Int)=>un fun (keys_17:Int)=>un fun (keys_18:Int)=>un fun (keys_19:Int)=>un fun (keys_20:Int) (keys_21:Int)=>
   bif (inKind .i64 keys_15&&(inKind .i64 keys_16&&(inKind .i64 keys_17&&(inKind .i64 keys_18&&(inKind .i64 keys_19&&(inKind .i64 keys_20&&(inKind .i64 keys_21&&true)))))))&&true then
    bif !(mHas (.agg [.int .i64 keys_15,.int .i64 keys_16,.int .i64 keys_17,.int .i64 keys_18,.int .i64 keys_19,.int .i64 keys_20,.int .i64 keys_21]) numbers) then
    bif (inKind .i64 keys_15&&(inKind .i64 keys_16&&(inKind .i64 keys_17&&(inKind .i64 keys_18&&(inKind .i64 keys_19&&(inKind .i64 keys_20&&(inKind .i64 keys_21&&true)))))))&&true then
     bif (decide (0≤t48))&&(decide (t48<(finers.length:Int))) then
     (finers[(t48:Int).toNat]?).bind fun x22=>
     kn (IntKind.wrap .i64 (t48+1),mPut (.agg [.int .i64 keys_15,.int .i64 keys_16,.int .i64 keys_17,.int .i64 keys_18,.int .i64 keys_19,.int .i64 keys_20,.int .i64 keys_21]) (.int .i64 (numbers.length:Int)) numbers,finers.set ((t48:Int).toNat) (.int .i64 (numbers.length:Int)))
     else none
    else none
    else
    bif (decide (0≤t48))&&(decide (t48<(finers.length:Int))) then
     (finers[(t48:Int).toNat]?).bind fun x23=>
     kn (IntKind.wrap .i64 (t48+1),numbers,finers.set ((t48:Int).toNat) (.int .i64 ((mGet (.agg [.int .i64 keys_15,.int .i64 keys_16,.int .i64 keys_17,.int .i64 keys_18,.int .i64 keys_19,.int .i64 keys_20,.int .i64 keys_21]) numbers (.int .i64 0)).toInt)))
    else none
   else none)
  else none
 else
  kr (t48,decide ((t48:Int)<t47),numbers,finers)
noncomputable def s_minimize_Classes_3L (C:CallF) (count:Int) (t46:List V) (t47 ds_0 ds_1:Int) (ds_2 ds_3 classess:List V):(Int × (List V) × (List V))→Option ((Int × (List V) × (List V)) ⊕ (Int × Bool × (List V) × (List V))):=un fun t48=>un fun numbers finers=>s_minimize_Classes_3 C count t46 t47 ds_0 ds_1 ds_2 ds_3 classess t48 numbers finers (fun y=>some (.inl y)) (fun r=>some (.inr r))
noncomputable def s_minimize_Classes_4 (C:CallF) (ds_0 ds_1:Int) (ds_2 ds_3:List V) (count:Int) (classess:List V) {β:Type} (kn:(Int × (List V))→Option β) (kr:(List V)→Option β):Option β:=
 bif (decide (0≤(classess.length:Int)))&&((decide ((classess.length:Int)≤(classess.length:Int)))&&(Nat.ble ((((classess.length:Int):Int).toNat)*8) maxBytes)) then
  (Loop (s_minimize_Classes_3L C count ds_3 (ds_3.length:Int) ds_0 ds_1 ds_2 ds_3 classess) (0,([]:List V),List.replicate (((classess.length:Int):Int).toNat) (V.int .i64 0))).bind (un fun (t_24:Int)=>un fun (t_25:Bool)=>un fun (numbers_26:List V) (finers_27:List V)=>
   bif ((numbers_26.length:Int):Int)==count then
   kr finers_27
   else
   kn ((numbers_26.length:Int),finers_27))
 else none
noncomputable def s_minimize_Classes_4L (C:CallF) (ds_0 ds_1:Int) (ds_2 ds_3:List V):(Int × (List V))→Option ((Int × (List V)) ⊕ (List V)):=un fun count classess=>s_minimize_Classes_4 C ds_0 ds_1 ds_2 ds_3 count classess (fun y=>some (.inl y)) (fun r=>some (.inr r))
noncomputable def LT_minimize_Classes (C:CallF):LTab:=fun β n ds k=>
 bif Nat.beq n 81 then loopS S109_81 [true,false,false,true,false,false,false,false,true] [[0,2,3,0,0,5,6,7,8,0]] (@s_minimize_Classes_1 C) ds k else
 bif Nat.beq n 273 then loopS S109_273 [false,false,false,false,false,false,false,true,false,false,false,false,false,false,false,true,true,true,true,true,true,true] [[1,2,3,4,5,6,7,0,0,9,10,11,12,13,14,15,0,0,0,0,0,0,0]] (@s_minimize_Classes_2 C) ds k else
 bif Nat.beq n 209 then loopS S109_209 [false,false,false,true,false,false,false,false,false,true,true] [[1,2,3,0,0,5,6,7,8,9,0,0]] (@s_minimize_Classes_3 C) ds k else
 bif Nat.beq n 161 then loopS S109_161 [true,false,false,false,false,true] [[0]] (@s_minimize_Classes_4 C) ds k else
 none
abbrev TS_minimize_Classes (C:CallF) (b:Bar):Prop:=Tells Tryd.prog ann C (LT_minimize_Classes C) 109 (ntmpsOf Tryd.prog (ann.fid 109)) (ann.sin 109).blks.length b
theorem t_minimize_Classes_1 (C:CallF):TS_minimize_Classes C (.loop (codeAt [1,1,1,0,1,0,0] B_minimize_Classes)):=
 tl3 S109_81 [true,false,false,true,false,false,false,false,true] [[0,2,3,0,0,5,6,7,8,0]] (@s_minimize_Classes_1 C) (by kernel_rfl) (ltok_of (bs:=[]) (by kernel_rfl) tells_nil) (fun ds=>by kernel_rfl) (fun i x=>by kernel_rfl) (fun i x β k=>by kernel_rfl) (fun β ds k=>by kernel_rfl)
theorem t_minimize_Classes_2 (C:CallF):TS_minimize_Classes C (.loop (codeAt [1,1,1,1,0,0,0,1,1,0,1,0,0,1,1,0,0,1,1,0,1,0,0] B_minimize_Classes)):=
 tl3 S109_273 [false,false,false,false,false,false,false,true,false,false,false,false,false,false,false,true,true,true,true,true,true,true] [[1,2,3,4,5,6,7,0,0,9,10,11,12,13,14,15,0,0,0,0,0,0,0]] (@s_minimize_Classes_2 C) (by kernel_rfl) (ltok_of (bs:=[]) (by kernel_rfl) tells_nil) (fun ds=>by kernel_rfl) (fun i x=>by kernel_rfl) (fun i x β k=>by kernel_rfl) (fun β ds k=>by kernel_rfl)
theorem t_minimize_Classes_3 (C:CallF):TS_minimize_Classes C (.loop (codeAt [1,1,1,1,0,0,0,1,1,0,1,0,0] B_minimize_Classes)):=
 tl3 S109_209 [false,false,false,true,false,false,false,false,false,true,true] [[1,2,3,0,0,5,6,7,8,9,0,0]] (@s_minimize_Classes_3 C) (by kernel_rfl) (ltok_of (bs:=[.loop (codeAt [1,1,1,1,0,0,0,1,1,0,1,0,0,1,1,0,0,1,1,0,1,0,0] B_minimize_Classes)]) (by kernel_rfl) (tells_cons (t_minimize_Classes_2 C) tells_nil)) (fun ds=>by kernel_rfl) (fun i x=>by kernel_rfl) (fun i x β k=>by kernel_rfl) (fun β ds k=>by kernel_rfl)
theorem t_minimize_Classes_4 (C:CallF):TS_minimize_Classes C (.loop (codeAt [1,1,1,1,0,0] B_minimize_Classes)):=
 tl3 S109_161 [true,false,false,false,false,true] [[0]] (@s_minimize_Classes_4 C) (by kernel_rfl) (ltok_of (bs:=[.loop (codeAt [1,1,1,1,0,0,0,1,1,0,1,0,0] B_minimize_Classes)]) (by kernel_rfl) (tells_cons (t_minimize_Classes_3 C) tells_nil)) (fun ds=>by kernel_rfl) (fun i x=>by kernel_rfl) (fun i x β k=>by kernel_rfl) (fun β ds k=>by kernel_rfl)
noncomputable def f_minimize_Classes (C:CallF) (d_0 d_1:Int) (d_2 d_3:List V):Option (List V):=
 (C F_dfa_Validate [.int .i64 d_0,.int .i64 d_1,.list T_bool d_2,.list T_l_int d_3]).bind fun r1=>
 bif (((V.nth r1 0).toInt):Int) != 0 then
  some [.list T_int ([]:List V)]
 else
  bif (decide (0≤(d_2.length:Int)))&&((decide ((d_2.length:Int)≤(d_2.length:Int)))&&(Nat.ble ((((d_2.length:Int):Int).toNat)*8) maxBytes)) then
  (Loop (s_minimize_Classes_1L C d_2 (d_2.length:Int) d_0 d_1 d_2 d_3) (1,0,List.replicate (((d_2.length:Int):Int).toNat) (V.int .i64 0))).bind (un fun (count_5:Int)=>un fun (t_6:Int)=>un fun (t_7:Bool) (classess_8:List V)=>
   (Loop (s_minimize_Classes_4L C d_0 d_1 d_2 d_3) (count_5,classess_8)).bind (fun (t2s_28:List V)=>
    some [.list T_int t2s_28]))
  else none
theorem f_minimize_Classes_of {d_0 d_1:Int} {d_2 d_3:List V} {r:Option (List V)} (h:f_minimize_Classes CC d_0 d_1 d_2 d_3=r):CC F_minimize_Classes [.int .i64 d_0,.int .i64 d_1,.list T_bool d_2,.list T_l_int d_3]=r:=
 func_of (key:=109) (L:=LT_minimize_Classes CC) (bs:=[.loop (codeAt [1,1,1,0,1,0,0] B_minimize_Classes),.loop (codeAt [1,1,1,1,0,0] B_minimize_Classes)]) (by kernel_rfl) (tells_cons (t_minimize_Classes_1 CC) (tells_cons (t_minimize_Classes_4 CC) tells_nil)) (Eq.trans (by kernel_rfl) h)
end Go.AM
set_option maxRecDepth 100000
set_option linter.unusedSimpArgs false
namespace Go.AM
open Go.Proofs
def keyK (a:Da) (c:Nat→Nat) (q t j:Nat):Nat:=if j=0 then c q else if j≤t then c (a.nx q (j-1)) else 0
def sgK (a:Da) (c:Nat→Nat) (q:Nat):List Nat:=tab 7 (keyK a c q a.L)
def skV (s:List Nat):V:= .agg (s.map nV)
theorem skV_keys: ∀s t:List Nat,keyEqs (s.map nV) (t.map nV)=decide (s=t)
 | [],[]=>rfl
 | [],b::t=>rfl
 | a::s,[]=>rfl
 | a::s,b::t=>by
  simp only[List.map_cons,keyEqs]
  rw[skV_keys s t,Bool.eq_iff_iff]
  simp only[nV,keyEq1]
  simp only[Bool.and_eq_true,beq_iff_eq,decide_eq_true_eq,List.cons.injEq]
  exact and_congr (by omega) Iff.rfl
theorem skV_key (s t:List Nat):keyEq (skV s) (skV t)=decide (s=t):=skV_keys s t
theorem sgK_eq {a:Da} (h:a.Ok) {c:Nat→Nat} {q q':Nat}:sgK a c q=sgK a c q'↔a.sig c q=a.sig c q':=by
 rw[Da.sig_eq]
 have h6:=h.l6
 constructor
 ·intro e
  have g:=fun j (hj:j<7)=>congrArg (fun l:List Nat=>l.getD j 0) e
  unfold sgK at g
  refine ⟨?_,fun x hx=> ?_⟩
  ·have:=g 0 (by omega)
   rw[tab_getD (by omega),tab_getD (by omega)] at this
   exact this
  ·have:=g (x+1) (by omega)
   rw[tab_getD (by omega),tab_getD (by omega)] at this
   unfold keyK at this
   rwa [if_neg (by omega),if_pos (by omega),if_neg (by omega),if_pos (by omega)] at this
 ·rintro ⟨h1,h2⟩
  refine tab_congr fun j _=> ?_
  unfold keyK
  by_cases hj:j=0
  ·rw[if_pos hj,if_pos hj,h1]
  ·rw[if_neg hj,if_neg hj]
   by_cases hj2:j≤a.L
   ·rw[if_pos hj2,if_pos hj2,h2 (j-1) (by omega)]
   ·rw[if_neg hj2,if_neg hj2]
theorem keyK_succ {a:Da} {c:Nat→Nat} {q t:Nat} (j:Nat):(bif Nat.beq (0+(t+1)*1) j then ((c (a.nx q t):Nat):Int) else ((keyK a c q t j:Nat):Int))=((keyK a c q (t+1) j:Nat):Int):=by
 by_cases hj:t+1=j
 ·rw[show Nat.beq (0+(t+1)*1) j=true from by rw[Nat.beq_eq];omega,cond_true,←hj]
  unfold keyK
  rw[if_neg (by omega),if_pos (by omega)]
  rfl
 ·rw[show Nat.beq (0+(t+1)*1) j=false from by rw[←Bool.not_eq_true,Nat.beq_eq];omega,cond_false]
  unfold keyK
  by_cases h0:j=0
  ·rw[if_pos h0,if_pos h0]
  ·rw[if_neg h0,if_neg h0]
   by_cases h1:j≤t
   ·rw[if_pos h1,if_pos (by omega)]
   ·rw[if_neg h1,if_neg (by omega)]
def cV (n:Nat) (c:Nat→Nat):List V:=tab n fun q=>nV (c q)
section
variable {a:Da} (h:a.Ok) {c:Nat→Nat}
include h
theorem cls_key {q:Nat} (hq:q<a.n) {k1 k2 k3 k4 k5 k6:Int} {l1 l2 l3 l4 l5:List V}:
  Loop (s_minimize_Classes_2L CC k1 k2 l1 k3 k4 (tab a.L fun x=>iV (a.nx q x)) ((tab a.L fun x=>iV (a.nx q x)).length:Int) k5 k6 l2 l3 (cV a.n c) l4 l5) (0,(c q:Int),0,0,0,0,0,0)=
   some ((a.L:Int),false,(keyK a c q a.L 0:Int),(keyK a c q a.L 1:Int),(keyK a c q a.L 2:Int),(keyK a c q a.L 3:Int),(keyK a c q a.L 4:Int),(keyK a c q a.L 5:Int),(keyK a c q a.L 6:Int)):=by
 have h6:=h.l6
 rw[tab_len]
 refine (Loop_st a.L (fun t=>((t:Int),(keyK a c q t 0:Int),(keyK a c q t 1:Int),(keyK a c q t 2:Int),(keyK a c q t 3:Int),(keyK a c q t 4:Int),(keyK a c q t 5:Int),(keyK a c q t 6:Int))) _ (fun t ht=> ?_) ?_)
 ·simp only[s_minimize_Classes_2L,s_minimize_Classes_2,un]
  refine bT (lt_t ht) ?_
  refine bs (rowF_idx ht) ?_
  refine (at_tab (i:=a.nx q t) (h.nx_lt hq ht)).trans ?_
  have w:IntKind.wrap .i64 (1+(t:Int))=((t+1:Nat):Int):=by rw[wrap64 (by omega) (by omega)];omega
  rw[w,wr1 (by omega),Int.toNat_natCast]
  refine bT (Bool.and_eq_true_iff.2 ⟨decide_eq_true (by omega),decide_eq_true (by omega)⟩) ?_
  refine bT (show Nat.ble (0+(t+1)*1+1) 7=true by rw[Nat.ble_eq];omega) ?_
  show some (Sum.inl _)=some (Sum.inl _)
  refine congrArg (fun x=>some (Sum.inl x)) ?_
  exact Prod.ext rfl (Prod.ext (keyK_succ 0) (Prod.ext (keyK_succ 1) (Prod.ext (keyK_succ 2) (Prod.ext (keyK_succ 3) (Prod.ext (keyK_succ 4) (Prod.ext (keyK_succ 5) (keyK_succ 6)))))))
 ·simp only[s_minimize_Classes_2L,s_minimize_Classes_2,un]
  refine bF (lt_f (Nat.le_refl _)) ?_
  rw[lt_f (Nat.le_refl _)]
theorem keyK_le (hc: ∀q,q<a.n→c q≤1000) {q:Nat} (hq:q<a.n) (j:Nat):keyK a c q a.L j≤1000:=by
 unfold keyK
 split
 ·exact hc q hq
 ·split
  ·exact hc _ (h.nx_lt hq (by omega))
  ·omega
theorem cls_round (hc: ∀q,q<a.n→c q≤1000) {k1 k2 k3:Int} {l2:List V}:
  Loop (s_minimize_Classes_3L CC k1 a.nxV (a.nxV.length:Int) k2 k3 l2 a.nxV (cV a.n c)) (0,([]:List V),List.replicate ((((cV a.n c).length:Int):Int).toNat) (V.int .i64 0))=
   some ((a.n:Int),false,mapF skV 0 (ded (sgK a c) a.n),cV a.n (numb (sgK a c) a.n)):=by
 have hm:=h.most
 have hl:(cV a.n c).length=a.n:=by simp[cV]
 rw[hl,Int.toNat_natCast,tab_rep,Da.nxV_len]
 refine (Loop_st a.n (fun i=>((i:Int),mapF skV 0 (ded (sgK a c) i),(tab a.n fun q=>if q<i then nV (numb (sgK a c) a.n q) else nV 0))) _ (fun q hq=> ?_) ?_)
 ·have hle:=ded_le (sgK a c) q
  simp only[s_minimize_Classes_3L,s_minimize_Classes_3,un]
  refine bT (lt_t hq) ?_
  refine bs (Da.nxV_idx hq) ?_
  refine (at_tab (i:=q) hq).trans ?_
  simp only[rowF_list]
  refine bs (cls_key h hq) ?_
  have k0:=keyK_le h hc hq
  have kk: ∀j,inKind .i64 ((keyK a c q a.L j:Nat):Int)=true:=fun j=>inKind_i64 (by have:=k0 j;omega)
  have kall:((inKind .i64 ((keyK a c q a.L 0:Nat):Int)&&(inKind .i64 ((keyK a c q a.L 1:Nat):Int)&&(inKind .i64 ((keyK a c q a.L 2:Nat):Int)&&(inKind .i64 ((keyK a c q a.L 3:Nat):Int)&&(inKind .i64 ((keyK a c q a.L 4:Nat):Int)&&(inKind .i64 ((keyK a c q a.L 5:Nat):Int)&&(inKind .i64 ((keyK a c q a.L 6:Nat):Int)&&true)))))))&&true)=true:=by
   simp only[kk,Bool.and_self]
  refine bT kall ?_
  have ek:V.agg [V.int .i64 (keyK a c q a.L 0:Int),V.int .i64 (keyK a c q a.L 1:Int),V.int .i64 (keyK a c q a.L 2:Int),V.int .i64 (keyK a c q a.L 3:Int),V.int .i64 (keyK a c q a.L 4:Int),V.int .i64 (keyK a c q a.L 5:Int),V.int .i64 (keyK a c q a.L 6:Int)]=skV (sgK a c q):=rfl
  simp only[un,ek]
  have e1:=mapF_has skV_key (sgK a c q) (ded (sgK a c) q) 0
  have fin: ∀v,v=nV (numb (sgK a c) a.n q)→(tab a.n fun j=>if j<q then nV (numb (sgK a c) a.n j) else nV 0).set q v=tab a.n fun j=>if j<q+1 then nV (numb (sgK a c) a.n j) else nV 0:=by
   rintro v rfl
   rw[tab_set]
   refine tab_congr fun j _=> ?_
   by_cases hj:j=q
   ·rw[if_pos hj,if_pos (by omega),hj]
   ·rw[if_neg hj]
    by_cases hj2:j<q
    ·rw[if_pos hj2,if_pos (by omega)]
    ·rw[if_neg hj2,if_neg (by omega)]
  rw[wr1 (by omega)]
  by_cases hx:sgK a c q∈ded (sgK a c) q
  ·refine bF (by rw[e1];simpa using hx) ?_
   refine (at_tab hq).trans ?_
   have e2:=mapF_get skV_key (sgK a c q) (.int .i64 0) (ded (sgK a c) q) 0 hx
   rw[Nat.zero_add,←numb_in hq hx] at e2
   rw[e2,V.toInt_int,Int.toNat_natCast,show (V.int .i64 (numb (sgK a c) a.n q:Int))=nV (numb (sgK a c) a.n q) from rfl,fin _ rfl,ded_in hx]
  ·refine bT (by rw[e1];simpa using hx) ?_
   refine bT kall ?_
   refine (at_tab hq).trans ?_
   have e2:=mapF_put skV_key (sgK a c q) (ded (sgK a c) q) 0 hx
   rw[Nat.zero_add] at e2
   rw[mapF_len,e2,Int.toNat_natCast,←numb_new hq hx,show (V.int .i64 (numb (sgK a c) a.n q:Int))=nV (numb (sgK a c) a.n q) from rfl,fin _ rfl,ded_new hx]
 ·simp only[s_minimize_Classes_3L,s_minimize_Classes_3,un]
  refine bF (lt_f (Nat.le_refl _)) ?_
  rw[lt_f (Nat.le_refl _)]
  have:(tab a.n fun q=>if q<a.n then nV (numb (sgK a c) a.n q) else nV 0)=cV a.n (numb (sgK a c) a.n):=tab_congr fun q hq=>if_pos hq
  rw[this]
def cn0 (a:Da):Nat→Nat
 | 0=>1
 | i+1=>if a.fin i=a.fin 0 then cn0 a i else 2
def cl0 (a:Da) (q:Nat):Nat:=if a.fin q=a.fin 0 then 0 else 1
theorem cn0_ded:(ded (cl0 a) a.n).length=cn0 a a.n:=by
 have key: ∀m,(ded (cl0 a) (m+1)=[0]∧cn0 a (m+1)=1)∨(ded (cl0 a) (m+1)=[0,1]∧cn0 a (m+1)=2):=by
  intro m
  induction m with
  | zero=>left;simp[ded,addB,cl0,cn0]
  | succ m ih=>
   rw[ded,cn0]
   unfold cl0 addB
   by_cases hf:a.fin (m+1)=a.fin 0
   ·rw[if_pos hf,if_pos hf]
    rcases ih with ⟨i1,i2⟩|⟨i1,i2⟩
    ·left;refine ⟨?_,i2⟩;unfold cl0 at i1;rw[i1];rfl
    ·right;refine ⟨?_,i2⟩;unfold cl0 at i1;rw[i1];rfl
   ·rw[if_neg hf,if_neg hf]
    rcases ih with ⟨i1,i2⟩|⟨i1,i2⟩
    ·right;refine ⟨?_,rfl⟩;unfold cl0 at i1;rw[i1];rfl
    ·right;refine ⟨?_,rfl⟩;unfold cl0 at i1;rw[i1];rfl
 have hs:=h.s
 obtain ⟨m,hm⟩: ∃m,a.n=m+1:=⟨a.n-1,by omega⟩
 rw[hm]
 rcases key m with ⟨e1,e2⟩|⟨e1,e2⟩<;>rw[e1,e2]<;>rfl
theorem cls_first {k2 k3:Int} {l2:List V}:Loop (s_minimize_Classes_1L CC a.finV (a.finV.length:Int) k2 k3 a.finV l2) (1,0,List.replicate ((((a.finV.length:Nat):Int)).toNat) (V.int .i64 0))=some ((cn0 a a.n:Int),(a.n:Int),false,cV a.n (cl0 a)):=by
 have hm:=h.most
 have hs:=h.s
 rw[Da.finV_len,Int.toNat_natCast,tab_rep]
 refine (Loop_st a.n (fun i=>((cn0 a i:Int),(i:Int),(tab a.n fun q=>if q<i then nV (cl0 a q) else nV 0))) _ (fun q hq=> ?_) ?_)
 ·simp only[s_minimize_Classes_1L,s_minimize_Classes_1,un]
  refine bT (lt_t hq) ?_
  refine bs (Da.finV_idx hq) ?_
  refine bs (a:= .bool (a.fin 0)) (by unfold Da.finV;exact tab_get (by omega)) ?_
  rw[wr1 (by omega)]
  have fin:(tab a.n fun j=>if j<q then nV (cl0 a j) else nV 0).set q (nV (cl0 a q))=tab a.n fun j=>if j<q+1 then nV (cl0 a j) else nV 0:=by
   rw[tab_set]
   refine tab_congr fun j _=> ?_
   by_cases hj:j=q
   ·rw[if_pos hj,if_pos (by omega),hj]
   ·rw[if_neg hj]
    by_cases hj2:j<q
    ·rw[if_pos hj2,if_pos (by omega)]
    ·rw[if_neg hj2,if_neg (by omega)]
  simp only[V.toBool_bool]
  by_cases hf:a.fin q=a.fin 0
  ·refine bF (by rw[hf];simp) ?_
   have e:cn0 a (q+1)=cn0 a q:=by rw[cn0,if_pos hf]
   have e2:(tab a.n fun j=>if j<q then nV (cl0 a j) else nV 0)=tab a.n fun j=>if j<q+1 then nV (cl0 a j) else nV 0:=tab_congr fun j _=>by
    by_cases hj:j=q
    ·rw[if_neg (by omega),if_pos (by omega),hj];unfold cl0;rw[if_pos hf]
    ·by_cases hj2:j<q
     ·rw[if_pos hj2,if_pos (by omega)]
     ·rw[if_neg hj2,if_neg (by omega)]
   rw[e,e2]
  ·refine bT (by simpa using hf) ?_
   refine (at_tab hq).trans ?_
   have e:cn0 a (q+1)=2:=by rw[cn0,if_neg hf]
   have e3:cl0 a q=1:=by unfold cl0;rw[if_neg hf]
   rw[e3] at fin
   rw[e,Int.toNat_natCast,show (V.int .i64 1)=nV 1 from rfl,fin];rfl
 ·simp only[s_minimize_Classes_1L,s_minimize_Classes_1,un]
  refine bF (lt_f (Nat.le_refl _)) ?_
  rw[lt_f (Nat.le_refl _)]
  have:(tab a.n fun q=>if q<a.n then nV (cl0 a q) else nV 0)=cV a.n (cl0 a):=tab_congr fun q hq=>if_pos hq
  rw[this]
theorem cls_main {k2 k3:Int} {l2:List V}: ∃p,Loop (s_minimize_Classes_4L CC k2 k3 l2 a.nxV) ((cn0 a a.n:Int),cV a.n (cl0 a))=some (cV a.n p)∧a.Cls p∧∀q,q<a.n→p q≤1000:=by
 have hm:=h.most
 have:=Loop_inv (step:=s_minimize_Classes_4L CC k2 k3 l2 a.nxV)
  (fun x=> ∃c,x=(((ded c a.n).length:Int),cV a.n c)∧a.Part c∧∀q,q<a.n→c q≤1000)
  (fun x=>a.n-x.1.toNat)
  (fun r=> ∃p,r=cV a.n p∧a.Cls p∧∀q,q<a.n→p q≤1000) (fun x hx=> ?_) ((cn0 a a.n:Int),cV a.n (cl0 a)) ⟨cl0 a,by rw[cn0_ded h],⟨?_,?_⟩,?_⟩
 ·obtain ⟨r,h1,p,rfl,h2,h3⟩:=this
  exact ⟨p,h1,h2,h3⟩
 ·obtain ⟨c,rfl,hp,hc⟩:=hx
  have hl:(cV a.n c).length=a.n:=by simp[cV]
  have hfin:a.Finer c (numb (sgK a c) a.n):=fun q q' hq hq'=>(numb_eq hq hq').trans (sgK_eq h)
  have hle:=ded_le (sgK a c) a.n
  have hb: ∀q,q<a.n→numb (sgK a c) a.n q≤1000:=fun q hq=>by have:=numb_lt (g:=sgK a c) hq;omega
  have hrf: ∀q q',q<a.n→q'<a.n→sgK a c q=sgK a c q'→c q=c q':=fun q q' hq hq' e=>(Da.sig_eq.1 ((sgK_eq h).1 e)).1
  have hcnt:=finer_count hrf
  have cr:=cls_round h hc (k1:=((ded c a.n).length:Int)) (k2:=k2) (k3:=k3) (l2:=l2)
  by_cases he:(ded (sgK a c) a.n).length=(ded c a.n).length
  ·right
   refine ⟨_,?_,numb (sgK a c) a.n,rfl,⟨fun q q' hq hq'=> ?_,numb_ordn _ _⟩,hb⟩
   ·simp only[s_minimize_Classes_4L,s_minimize_Classes_4,un]
    refine bT (by rw[hl];exact mk_ok (by omega) (by omega)) ?_
    refine bs cr ?_
    refine bT (by rw[mapF_len];simp[he]) ?_
    rfl
   ·have hst:=same_count hrf (by omega)
    rw[numb_eq hq hq',←hp.stable h (fun s s' hs hs' e=>(sgK_eq h).1 (hst s s' hs hs' e)) q q' hq hq']
    exact ⟨hrf q q' hq hq',hst q q' hq hq'⟩
  ·left
   have e2:(ded (numb (sgK a c) a.n) a.n).length=(ded (sgK a c) a.n).length:=by rw[numb_ord _ _ _ (Nat.le_refl _),List.length_range]
   refine ⟨(((ded (sgK a c) a.n).length:Int),cV a.n (numb (sgK a c) a.n)),?_,⟨numb (sgK a c) a.n,by rw[e2],hfin.part h hp,hb⟩,?_⟩
   ·simp only[s_minimize_Classes_4L,s_minimize_Classes_4,un]
    refine bT (by rw[hl];exact mk_ok (by omega) (by omega)) ?_
    refine bs cr ?_
    refine bF (by rw[mapF_len];simpa using fun e=>he (by omega)) ?_
    rw[mapF_len]
   ·simp only[Int.toNat_natCast]
    omega
 ·intro q q' hq hq' he
  have:=he [] WL.nil
  rw[Da.acc_nil,Da.acc_nil] at this
  unfold cl0;rw[this]
 ·intro q q' hq hq' he
  unfold cl0 at he
  split at he<;>split at he
  ·rename_i h1 h2;rw[h1,h2]
  ·omega
  ·omega
  ·rename_i h1 h2
   revert h1 h2
   cases a.fin q<;>cases a.fin q'<;>cases a.fin 0<;>simp
 ·intro q _
  unfold cl0;split<;>omega
theorem Classes_spec: ∃p,CC F_minimize_Classes (daR a)=some [.list T_int (cV a.n p)]∧a.Cls p∧∀q,q<a.n→p q≤1000:=by
 have hm:=h.most
 obtain ⟨p,h1,h2,h3⟩:=cls_main h (k2:=(a.L:Int)) (k3:=(a.st:Int)) (l2:=a.finV)
 refine ⟨p,f_minimize_Classes_of ?_,h2,h3⟩
 unfold f_minimize_Classes
 refine bs (Validate_ok h) ?_
 refine bF rfl ?_
 refine bT (by rw[Da.finV_len];exact mk_ok (by omega) (by omega)) ?_
 refine bs (cls_first h) ?_
 refine bs h1 ?_
 rfl
end
end Go.AM
set_option maxRecDepth 100000
namespace Go.AM
open Go.Proofs
noncomputable abbrev B_minimize_minimal:Code:=bodyOf Tryd.prog (ann.fid 86)
noncomputable def s_minimize_minimal_1 (C:CallF) (q t29 t30:Int) (t47:List V) (t48 ds_0 ds_1:Int) (ds_2 ds_3:List V) (t2s_0 t2s_1 trimmeds_0 trimmeds_1:Int) (places classess:List V) (quotients_0 quotients_1:Int) (b7_ b8_ b9_ b10_ b11_ b12_:List V) (t49:Int) (rows:List V) {β:Type} (kn:(Int × (List V))→Option β) (kr:(Int × Bool × (List V))→Option β):Option β:=
 bif decide ((t49:Int)<t48) then
  (idx t47 t49).bind fun x5=>
  bif (decide (0≤x5.toInt))&&(decide (x5.toInt<(classess.length:Int))) then
  (classess[(x5.toInt:Int).toNat]?).bind fun x6=>
  bif (decide (0≤t49))&&(decide (t49<(rows.length:Int))) then
   (rows[(t49:Int).toNat]?).bind fun x7=>
   kn (IntKind.wrap .i64 (t49+1),rows.set ((t49:Int).toNat) (.int .i64 x6.toInt))
  else none
  else none
 else
  kr (t49,decide ((t49:Int)<t48),rows)
noncomputable def s_minimize_minimal_1L (C:CallF) (q t29 t30:Int) (t47:List V) (t48 ds_0 ds_1:Int) (ds_2 ds_3:List V) (t2s_0 t2s_1 trimmeds_0 trimmeds_1:Int) (places classess:List V) (quotients_0 quotients_1:Int) (b7_ b8_ b9_ b10_ b11_ b12_:List V):(Int × (List V))→Option ((Int × (List V)) ⊕ (Int × Bool × (List V))):=un fun t49 rows=>s_minimize_minimal_1 C q t29 t30 t47 t48 ds_0 ds_1 ds_2 ds_3 t2s_0 t2s_1 trimmeds_0 trimmeds_1 places classess quotients_0 quotients_1 b7_ b8_ b9_ b10_ b11_ b12_ t49 rows (fun y=>some (.inl y)) (fun r=>some (.inr r))
noncomputable def s_minimize_minimal_2 (C:CallF) (t29 ds_0 ds_1:Int) (ds_2 ds_3:List V) (t2s_0 t2s_1 trimmeds_0 trimmeds_1:Int) (places classess:List V) (quotients_0 quotients_1:Int) (b6_ b7_ b8_ b9_:List V) (t30:Int) (b10_ b11_:List V) {β:Type} (kn:(Int × (List V) × (List V))→Option β) (kr:(Int × Bool × (List V) × (List V))→Option β):Option β:=
 bif decide ((t30:Int)<t29) then
  bif (decide (0≤t30))&&(decide (t30<(classess.length:Int))) then
  (classess[(t30:Int).toNat]?).bind fun x3=>
  bif decide ((x3.toInt:Int)<(b10_.length:Int)) then
   kn (IntKind.wrap .i64 (t30+1),b10_,b11_)
  else
   bif (decide (0≤ds_0))&&((decide (ds_0≤ds_0))&&(Nat.ble (((ds_0:Int).toNat)*8) maxBytes)) then
   bif (decide (0≤t30))&&(decide (t30<(b9_.length:Int))) then
    (b9_[(t30:Int).toNat]?).bind fun x4=>
    (Loop (s_minimize_minimal_1L C t30 t29 t30 x4.toList (x4.toList.length:Int) ds_0 ds_1 ds_2 ds_3 t2s_0 t2s_1 trimmeds_0 trimmeds_1 places classess quotients_0 quotients_1 b6_ b7_ b8_ b9_ b10_ b11_) (0,List.replicate ((ds_0:Int).toNat) (V.int .i64 0))).bind (un fun (t_8:Int)=>un fun (t_9:Bool) (rows_10:List V)=>
     bif (decide (0≤t30))&&(decide (t30<(b8_.length:Int))) then
     (b8_[(t30:Int).toNat]?).bind fun x11=>
     bif Nat.ble ((b10_.length+([.bool x11.toBool]:List V).length)*1) maxBytes then
      bif Nat.ble ((b11_.length+([.list T_int rows_10]:List V).length)*24) maxBytes then
      kn (IntKind.wrap .i64 (t30+1),b10_++([.bool x11.toBool]:List V),b11_++([.list T_int rows_10]:List V))
      else none
     else none
     else none)
   else none
   else none
  else none
 else
  kr (t30,decide ((t30:Int)<t29),b10_,b11_)
noncomputable def s_minimize_minimal_2L (C:CallF) (t29 ds_0 ds_1:Int) (ds_2 ds_3:List V) (t2s_0 t2s_1 trimmeds_0 trimmeds_1:Int) (places classess:List V) (quotients_0 quotients_1:Int) (b6_ b7_ b8_ b9_:List V):(Int × (List V) × (List V))→Option ((Int × (List V) × (List V)) ⊕ (Int × Bool × (List V) × (List V))):=un fun t30=>un fun b10_ b11_=>s_minimize_minimal_2 C t29 ds_0 ds_1 ds_2 ds_3 t2s_0 t2s_1 trimmeds_0 trimmeds_1 places classess quotients_0 quotients_1 b6_ b7_ b8_ b9_ t30 b10_ b11_ (fun y=>some (.inl y)) (fun r=>some (.inr r))
noncomputable def s_minimize_minimal_3 (C:CallF) (t88 t2s_0 t2s_1:Int) (classess:List V) (ms_0 ms_1:Int) (numbers t87s b6_ b7_ b8_ b9_:List V) (t89:Int) (statess:List V) {β:Type} (kn:(Int × (List V))→Option β) (kr:(Int × Bool × (List V))→Option β):Option β:=
 bif decide ((t89:Int)<t88) then
  bif (decide (0≤t89))&&(decide (t89<(t87s.length:Int))) then
  (t87s[(t89:Int).toNat]?).bind fun x17=>
  bif (decide (0≤t89))&&(decide (t89<(statess.length:Int))) then
   (statess[(t89:Int).toNat]?).bind fun x18=>
   bif decide ((x17.toInt:Int)≥0) then
   bif (decide (0≤x17.toInt))&&(decide (x17.toInt<(classess.length:Int))) then
    (classess[(x17.toInt:Int).toNat]?).bind fun x19=>
    bif (decide (0≤x19.toInt))&&(decide (x19.toInt<(numbers.length:Int))) then
    (numbers[(x19.toInt:Int).toNat]?).bind fun x20=>
    bif (decide (0≤t89))&&(decide (t89<((statess.set ((t89:Int).toNat) (.int .i64 (-1))).length:Int))) then
     ((statess.set ((t89:Int).toNat) (.int .i64 (-1)))[(t89:Int).toNat]?).bind fun x21=>
     kn (IntKind.wrap .i64 (t89+1),(statess.set ((t89:Int).toNat) (.int .i64 (-1))).set ((t89:Int).toNat) (.int .i64 x20.toInt))
    else none
    else none
   else none
   else
   kn (IntKind.wrap .i64 (t89+1),statess.set ((t89:Int).toNat) (.int .i64 (-1)))
  else none
  else none
 else
  kr (t89,decide ((t89:Int)<t88),statess)
noncomputable def s_minimize_minimal_3L (C:CallF) (t88 t2s_0 t2s_1:Int) (classess:List V) (ms_0 ms_1:Int) (numbers t87s b6_ b7_ b8_ b9_:List V):(Int × (List V))→Option ((Int × (List V)) ⊕ (Int × Bool × (List V))):=un fun t89 statess=>s_minimize_minimal_3 C t88 t2s_0 t2s_1 classess ms_0 ms_1 numbers t87s b6_ b7_ b8_ b9_ t89 statess (fun y=>some (.inl y)) (fun r=>some (.inr r))
noncomputable def LT_minimize_minimal (C:CallF):LTab:=fun β n ds k=>
 bif Nat.beq n 161 then loopS S86_161 [false,false,false,false,false,true,false,false,false,false,false,false,false,false,false,false,false,false,true,false,false,false,false,false,false] [[1,2,3,4,5,0,0,7,8,9,10,11,12,13,14,15,16,17,18,0,20,21,22,23,24,25]] (@s_minimize_minimal_1 C) ds k else
 bif Nat.beq n 81 then loopS S86_81 [false,true,false,false,false,false,false,false,false,false,false,false,false,false,false,false,false,false,true,true] [[1,0,0,3,4,5,6,7,8,9,10,11,12,13,14,15,16,17,18,0,0]] (@s_minimize_minimal_2 C) ds k else
 bif Nat.beq n 321 then loopS S86_321 [false,true,false,false,false,false,false,false,true,false,false,false,false,false] [[1,0,0,3,4,5,6,7,8,0,10,11,12,13,14]] (@s_minimize_minimal_3 C) ds k else
 none
abbrev TS_minimize_minimal (C:CallF) (b:Bar):Prop:=Tells Tryd.prog ann C (LT_minimize_minimal C) 86 (ntmpsOf Tryd.prog (ann.fid 86)) (ann.sin 86).blks.length b
theorem t_minimize_minimal_1 (C:CallF):TS_minimize_minimal C (.loop (codeAt [1,1,1,1,0,1,0,0,1,1,0,0,1,1,1,0,1,0,0] B_minimize_minimal)):=
 tl3 S86_161 [false,false,false,false,false,true,false,false,false,false,false,false,false,false,false,false,false,false,true,false,false,false,false,false,false] [[1,2,3,4,5,0,0,7,8,9,10,11,12,13,14,15,16,17,18,0,20,21,22,23,24,25]] (@s_minimize_minimal_1 C) (by kernel_rfl) (ltok_of (bs:=[]) (by kernel_rfl) tells_nil) (fun ds=>by kernel_rfl) (fun i x=>by kernel_rfl) (fun i x β k=>by kernel_rfl) (fun β ds k=>by kernel_rfl)
theorem t_minimize_minimal_2 (C:CallF):TS_minimize_minimal C (.loop (codeAt [1,1,1,1,0,1,0,0] B_minimize_minimal)):=
 tl3 S86_81 [false,true,false,false,false,false,false,false,false,false,false,false,false,false,false,false,false,false,true,true] [[1,0,0,3,4,5,6,7,8,9,10,11,12,13,14,15,16,17,18,0,0]] (@s_minimize_minimal_2 C) (by kernel_rfl) (ltok_of (bs:=[.loop (codeAt [1,1,1,1,0,1,0,0,1,1,0,0,1,1,1,0,1,0,0] B_minimize_minimal)]) (by kernel_rfl) (tells_cons (t_minimize_minimal_1 C) tells_nil)) (fun ds=>by kernel_rfl) (fun i x=>by kernel_rfl) (fun i x β k=>by kernel_rfl) (fun β ds k=>by kernel_rfl)
theorem t_minimize_minimal_3 (C:CallF):TS_minimize_minimal C (.loop (codeAt [1,1,1,1,1,1,1,0,1,0,0] B_minimize_minimal)):=
 tl3 S86_321 [false,true,false,false,false,false,false,false,true,false,false,false,false,false] [[1,0,0,3,4,5,6,7,8,0,10,11,12,13,14]] (@s_minimize_minimal_3 C) (by kernel_rfl) (ltok_of (bs:=[]) (by kernel_rfl) tells_nil) (fun ds=>by kernel_rfl) (fun i x=>by kernel_rfl) (fun i x β k=>by kernel_rfl) (fun β ds k=>by kernel_rfl)
noncomputable def f_minimize_minimal (C:CallF) (d_0 d_1:Int) (d_2 d_3:List V):Option (List V):=
 (C F_dfa_Trim [.int .i64 d_0,.int .i64 d_1,.list T_bool d_2,.list T_l_int d_3]).bind fun r1=>
 (C F_minimize_Classes [.int .i64 ((V.nth r1 0).toInt),.int .i64 ((V.nth (r1.drop 1) 0).toInt),.list T_bool ((V.nth (r1.drop 2) 0).toList),.list T_l_int ((V.nth ((r1.drop 2).drop 1) 0).toList)]).bind fun r2=>
 (Loop (s_minimize_minimal_2L C (((V.nth r2 0).toList).length:Int) d_0 d_1 d_2 d_3 0 0 ((V.nth r1 0).toInt) ((V.nth (r1.drop 1) 0).toInt) ((V.nth (((r1.drop 2).drop 1).drop 1) 0).toList) ((V.nth r2 0).toList) d_0 0 ([]:List V) ([]:List V) ((V.nth (r1.drop 2) 0).toList) ((V.nth ((r1.drop 2).drop 1) 0).toList)) (0,([]:List V),([]:List V))).bind (un fun (t_12:Int)=>un fun (t_13:Bool)=>un fun (b_14:List V) (b_15:List V)=>
  (C F_dfa_Trim [.int .i64 d_0,.int .i64 0,.list T_bool b_14,.list T_l_int b_15]).bind fun r16=>
  bif (decide (0≤(((V.nth (((r1.drop 2).drop 1).drop 1) 0).toList).length:Int)))&&((decide ((((V.nth (((r1.drop 2).drop 1).drop 1) 0).toList).length:Int)≤(((V.nth (((r1.drop 2).drop 1).drop 1) 0).toList).length:Int)))&&(Nat.ble ((((((V.nth (((r1.drop 2).drop 1).drop 1) 0).toList).length:Int):Int).toNat)*8) maxBytes)) then
   (Loop (s_minimize_minimal_3L C (((V.nth (((r1.drop 2).drop 1).drop 1) 0).toList).length:Int) 0 0 ((V.nth r2 0).toList) ((V.nth r16 0).toInt) ((V.nth (r16.drop 1) 0).toInt) ((V.nth (((r16.drop 2).drop 1).drop 1) 0).toList) ((V.nth (((r1.drop 2).drop 1).drop 1) 0).toList) ([]:List V) ([]:List V) ((V.nth (r16.drop 2) 0).toList) ((V.nth ((r16.drop 2).drop 1) 0).toList)) (0,List.replicate (((((V.nth (((r1.drop 2).drop 1).drop 1) 0).toList).length:Int):Int).toNat) (V.int .i64 0))).bind (un fun (t_22:Int)=>un fun (t_23:Bool) (statess_24:List V)=>
    some [.int .i64 ((V.nth r16 0).toInt),.int .i64 ((V.nth (r16.drop 1) 0).toInt),.list T_bool ((V.nth (r16.drop 2) 0).toList),.list T_l_int ((V.nth ((r16.drop 2).drop 1) 0).toList),.list T_int statess_24])
  else none)
theorem f_minimize_minimal_of {d_0 d_1:Int} {d_2 d_3:List V} {r:Option (List V)} (h:f_minimize_minimal CC d_0 d_1 d_2 d_3=r):CC F_minimize_minimal [.int .i64 d_0,.int .i64 d_1,.list T_bool d_2,.list T_l_int d_3]=r:=
 func_of (key:=86) (L:=LT_minimize_minimal CC) (bs:=[.loop (codeAt [1,1,1,1,0,1,0,0] B_minimize_minimal),.loop (codeAt [1,1,1,1,1,1,1,0,1,0,0] B_minimize_minimal)]) (by kernel_rfl) (tells_cons (t_minimize_minimal_2 CC) (tells_cons (t_minimize_minimal_3 CC) tells_nil)) (Eq.trans (by kernel_rfl) h)
end Go.AM
set_option maxRecDepth 100000
namespace Go.AM
open Go.Proofs
noncomputable def f_minimize_Minimal (C:CallF) (d_0 d_1:Int) (d_2 d_3:List V):Option (List V):=
 (C F_dfa_Validate [.int .i64 d_0,.int .i64 d_1,.list T_bool d_2,.list T_l_int d_3]).bind fun r1=>
 bif (((V.nth r1 0).toInt):Int) != 0 then
  some [.int .i64 0,.int .i64 0,.list T_bool ([]:List V),.list T_l_int ([]:List V)]
 else
  (C F_minimize_minimal [.int .i64 d_0,.int .i64 d_1,.list T_bool d_2,.list T_l_int d_3]).bind fun r2=>
  some [.int .i64 ((V.nth r2 0).toInt),.int .i64 ((V.nth (r2.drop 1) 0).toInt),.list T_bool ((V.nth (r2.drop 2) 0).toList),.list T_l_int ((V.nth ((r2.drop 2).drop 1) 0).toList)]
theorem f_minimize_Minimal_of {d_0 d_1:Int} {d_2 d_3:List V} {r:Option (List V)} (h:f_minimize_Minimal CC d_0 d_1 d_2 d_3=r):CC F_minimize_Minimal [.int .i64 d_0,.int .i64 d_1,.list T_bool d_2,.list T_l_int d_3]=r:=
 func_of (key:=54) (L:=LT0) (bs:=[]) (by kernel_rfl) tells_nil (Eq.trans (by kernel_rfl) h)
end Go.AM
