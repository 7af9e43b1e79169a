/-
  Functions of the program, lifted to plain data.
-/
import Derived.Test.YtffbfcncnleiaaaProg
import Derived.Test.YtffbfcncnleiaaaP2
set_option linter.unusedVariables false
set_option maxRecDepth 100000
namespace Go.AM
open Go.Proofs
abbrev F_gosem_cut_init : FuncId := 2
abbrev F_semigrouplaw31_StarfreeBoolean : FuncId := 3
abbrev F_semigrouplaw31_StarfreeCuts : FuncId := 4
abbrev F_semigrouplaw31_StarfreeRaw : FuncId := 5
abbrev F_semigrouplaw31_StarfreeMade : FuncId := 6
abbrev F_semigroupmade_New : FuncId := 7
abbrev F_semigroupmade_Tape_Next : FuncId := 8
abbrev F_semigroupmade_Tape_Graph : FuncId := 9
abbrev F_semigroupmade_Tape_Word : FuncId := 10
abbrev F_semigrouplaw31_at : FuncId := 11
abbrev F_semigrouplaw31_known : FuncId := 12
abbrev F_semigroupmade_Mod : FuncId := 13
abbrev F_starfree_Cut : FuncId := 14
abbrev F_semigroupref31_Same : FuncId := 15
abbrev F_starfree_Accepts : FuncId := 16
abbrev F_starfree_Depth : FuncId := 17
abbrev F_semigrouplaw31_all : FuncId := 18
abbrev F_semigrouplaw31_example : FuncId := 19
abbrev F_starfree_Validate : FuncId := 20
abbrev F_starfree_reached : FuncId := 21
abbrev F_starfree_parts : FuncId := 22
abbrev F_word_Valid : FuncId := 23
abbrev F_starfree_evaluate : FuncId := 24
abbrev F_starfree_cuts_has : FuncId := 25
abbrev F_semigroupref31_Cut : FuncId := 26
abbrev F_starfree_ToExpr : FuncId := 27
abbrev F_semigroupref31_ToExpr : FuncId := 28
abbrev F_semigroupref31_Validate : FuncId := 29
abbrev F_semigroupref31_Accepts : FuncId := 30
abbrev F_semigroupref31_Depth : FuncId := 31
abbrev F_semigroupref04_Compare : FuncId := 32
abbrev F_starfree_validNode : FuncId := 33
abbrev F_starfree_cuts_with : FuncId := 34
abbrev F_starfree_between : FuncId := 35
abbrev F_starfree_cuts_union : FuncId := 36
abbrev F_starfree_cuts_meet : FuncId := 37
abbrev F_starfree_cuts_without : FuncId := 38
abbrev F_starfree_measure : FuncId := 39
abbrev F_starfree_expression : FuncId := 40
abbrev F_semigroupref31_Measure : FuncId := 41
abbrev F_semigroupref31_expression : FuncId := 42
abbrev F_semigroupref01_MayLetters : FuncId := 43
abbrev F_semigroupref01_Valid : FuncId := 44
abbrev F_semigroupref31_Holds : FuncId := 45
abbrev F_semigroupref04_sign : FuncId := 46
abbrev F_starfree_validPart : FuncId := 47
abbrev F_starfree_operation : FuncId := 48
abbrev T_int64 : TypeId := 2
abbrev T_int : TypeId := 3
abbrev T_bool : TypeId := 4
abbrev T_uint8 : TypeId := 5
abbrev T_abi_BoundsErrorCode : TypeId := 6
abbrev T_runtime_boundsError : TypeId := 8
abbrev T_string : TypeId := 9
abbrev T_runtime_errorString : TypeId := 10
abbrev T_runtime_plainError : TypeId := 11
abbrev T_uintptr : TypeId := 12
abbrev T_runtime_errorAddressString : TypeId := 14
abbrev T_maps_unhashableTypeError : TypeId := 19
abbrev T_int32 : TypeId := 21
abbrev T_l_int : TypeId := 22
abbrev T_l_api_SfNode : TypeId := 26
abbrev T_api_SfGraph : TypeId := 28
abbrev T_api_SfNode : TypeId := 31
abbrev T_api_Errno : TypeId := 37
abbrev T_semigroupmade_Tape : TypeId := 47
abbrev T_l_uint8 : TypeId := 48
abbrev T_l_bool : TypeId := 51
abbrev T_l_starfree_table : TypeId := 54
abbrev T_l_starfree_cuts : TypeId := 55
abbrev T_starfree_table : TypeId := 56
abbrev T_uint64 : TypeId := 58
abbrev T__2_uint64 : TypeId := 59
abbrev T_starfree_cuts : TypeId := 60
abbrev T_l_api_Expr : TypeId := 62
abbrev T_api_Expr : TypeId := 64
abbrev T_l_l_l_bool : TypeId := 79
abbrev T_l_l_bool : TypeId := 80
abbrev T_runtime_TypeAssertionError : TypeId := 83
abbrev T__0_p_runtime_PanicNilError : TypeId := 84
abbrev T_runtime_PanicNilError : TypeId := 86
abbrev T_uint32 : TypeId := 88
abbrev T_abi_TFlag : TypeId := 89
abbrev T_abi_Kind : TypeId := 90
abbrev T_abi_NameOff : TypeId := 93
abbrev T_abi_TypeOff : TypeId := 94
abbrev T_abi_Type : TypeId := 96
def annLive : List (Nat × List (Nat × List Nat)) := [(2, [(0, [])]),
    (3, [(0, [0, 1, 2]), (1, [1, 2, 7]), (2, [1, 2, 7, 8]), (3, [1, 2, 7, 8, 9]), (4, [1, 2, 7, 8, 9, 10]), (5, [1, 2, 8, 9, 10, 11, 12]), (6, [1, 2, 8, 9, 10, 11, 12]), (7, [9, 10, 11, 12, 13, 14]), (8, [9, 10, 12, 13, 14, 15, 16]), (9, [6])]),
    (4, [(0, [0, 1, 2]), (1, [1, 2, 7]), (2, [1, 2, 7, 8]), (3, [1, 2, 8, 9]), (4, [2, 8, 9]), (5, [9, 10]), (6, [9, 10, 11, 12]), (7, [9, 10, 11, 12, 13, 14]), (8, [6])]),
    (5, [(0, [1, 2, 3]), (1, [1, 2, 3, 15]), (2, [6]), (3, [6])]),
    (6, [(0, [0, 1, 2, 3]), (1, [1, 2, 3, 9]), (2, [1, 2, 3, 9, 10]), (3, [1, 2, 3, 9, 10, 11]), (4, [1, 2, 3, 10, 11, 12]), (5, [1, 2, 3, 10, 11, 12, 29]), (6, [8]), (7, [1, 3, 10, 11, 12, 13]), (8, [1, 3, 10, 11, 12, 13]), (9, [3, 10, 11, 12, 13, 42]), (10, [3, 10, 11, 12, 13, 42, 43]), (11, [10, 11, 12]), (12, [3, 10, 11, 12, 13, 42, 49]), (13, [10, 11, 12]), (14, [3, 10, 11, 12, 13, 42, 55]), (15, [10, 11, 12]), (16, [3, 10, 11, 12, 13, 42, 61]), (17, [10, 11, 12]), (18, [3, 10, 11, 12, 67]), (19, [10, 11, 12]), (20, [8])]),
    (7, [(0, [0]), (1, [0, 5]), (2, [0]), (3, [2])]),
    (8, [(0, [0, 1]), (1, [0, 1, 14]), (2, [4]), (3, [0, 1]), (4, [4])]),
    (9, [(0, [0, 1, 2, 6]), (1, [0, 1, 2, 6, 7]), (2, [0, 1, 6, 7, 8]), (3, [0, 1, 6, 7, 8, 9]), (4, [0, 1, 6, 7, 8, 9, 17]), (5, [0, 1, 6, 7, 8, 9]), (6, [0, 1, 6, 7, 8, 9, 10]), (7, [0, 1, 6, 7, 8, 9, 10, 25]), (8, [0, 1, 6, 7, 8, 9, 10]), (9, [0, 1, 6, 7, 8, 9, 10, 33]), (10, [0, 1, 6, 7, 8, 9, 10]), (11, [0, 1, 6, 7, 8, 9, 10, 40]), (12, [0, 1, 6, 7, 8, 9, 10]), (13, [0, 1, 6, 7, 8, 9, 10, 52]), (14, [0, 1, 6, 7, 8, 9, 10]), (15, [0, 1, 6, 7, 8, 9]), (16, [6, 7]), (17, [6])]),
    (10, [(0, [0, 1, 2]), (1, [0, 1, 2, 7]), (2, [0, 1, 7, 8]), (3, [0, 1, 7, 8, 14]), (4, [0, 1, 7, 8]), (5, [0, 1, 7, 8]), (6, [6])]),
    (11, [(0, [1, 2, 3]), (1, [2, 3]), (2, [6])]),
    (12, [(0, []), (1, [1]), (2, [0])]),
    (13, [(0, [0, 1]), (1, [0, 1, 6]), (2, [4]), (3, [0, 1]), (4, [0, 1, 11]), (5, [0]), (6, [4])]),
    (14, [(0, [1, 2]), (1, [1, 2, 4]), (2, [1, 2, 4, 13]), (3, [2, 3]), (4, [1, 2, 5]), (5, [1, 2, 5, 6]), (6, [1, 2, 5, 6, 21, 22, 23]), (7, [1, 2, 5, 6, 21, 22, 23, 24]), (8, [1, 2, 5, 6, 7, 8, 21, 22, 23]), (9, [1, 2, 5, 6, 7, 21, 22, 23, 29]), (10, [1, 2, 5, 6, 7, 9, 21, 22, 23]), (11, [1, 2, 5, 6, 7, 9, 21, 22, 23, 38]), (12, [1, 2, 5, 6, 7, 9, 21, 22, 23]), (13, [1, 2, 5, 6, 7, 9, 21, 22, 23, 48]), (14, [1, 2, 5, 6, 7, 9, 21, 22, 23]), (15, [1, 2, 5, 6, 9, 21, 22, 23]), (16, [1, 2, 5, 6, 21, 22, 23]), (17, [1, 2, 5, 6, 21, 22, 23]), (18, [2, 5]), (19, [2, 3])]),
    (15, [(0, [2, 3]), (1, [2, 3, 19]), (2, [4]), (3, [2, 3, 22, 23]), (4, [2, 3, 22, 23, 24]), (5, [2, 3, 5, 22, 23]), (6, [2, 3, 22, 23, 36]), (7, [4]), (8, [2, 3, 22, 23]), (9, [4])]),
    (16, [(0, [1, 2]), (1, [1, 2, 20]), (2, [4]), (3, [1, 2, 5]), (4, [1, 2, 5, 26, 27, 28]), (5, [1, 2, 5, 26, 27, 28, 29]), (6, [1, 2, 5, 6, 7, 26, 27, 28]), (7, [1, 2, 5, 6, 26, 27, 28, 33]), (8, [1, 2, 5, 26, 27, 28]), (9, [1, 2, 5, 26, 27, 28]), (10, [4])]),
    (17, [(0, [1]), (1, [1, 8]), (2, [2]), (3, [1, 3]), (4, [1, 3, 18, 19, 20]), (5, [1, 3, 18, 19, 20, 21]), (6, [1, 3, 4, 5, 18, 19, 20]), (7, [1, 3, 4, 5, 18, 19, 20, 28]), (8, [1, 3, 4, 5, 18, 19, 20]), (9, [1, 3, 4, 5, 18, 19, 20, 40]), (10, [1, 3, 4, 5, 18, 19, 20]), (11, [1, 3, 4, 18, 19, 20, 56]), (12, [1, 3, 18, 19, 20]), (13, [1, 3, 18, 19, 20]), (14, [2])]),
    (18, [(0, [1, 2, 3]), (1, [1, 2, 3, 7, 8]), (2, [1, 2, 3, 7, 8, 9, 10]), (3, [1, 2, 3, 7, 8, 9, 10, 11, 12]), (4, [1, 2, 3, 7, 8, 9, 10, 11, 12, 13, 14]), (5, [6])]),
    (19, [(0, [0]), (1, [0])]),
    (20, [(0, [1, 2]), (1, [1, 2, 12]), (2, [4]), (3, [1, 2, 16]), (4, [4]), (5, [1, 2, 18, 19, 20]), (6, [1, 2, 18, 19, 20, 21]), (7, [1, 2, 5, 6, 18, 19, 20]), (8, [1, 2, 18, 19, 20, 29]), (9, [4]), (10, [1, 2, 18, 19, 20]), (11, [41]), (12, [4]), (13, [4])]),
    (21, [(0, [1]), (1, [1, 3]), (2, [1, 3]), (3, [1, 3, 4]), (4, [1, 3, 4, 17]), (5, [1, 3, 4]), (6, [1, 3, 4, 24]), (7, [1, 3, 4, 5]), (8, [1, 3, 4, 5, 33]), (9, [1, 3, 4, 5]), (10, [1, 3, 4, 5, 41]), (11, [1, 3, 4]), (12, [2])]),
    (22, [(0, [0]), (1, [3]), (2, [3, 4]), (3, [3, 4]), (4, [3, 4]), (5, [2]), (6, [8]), (7, [2]), (8, [2])]),
    (23, [(0, [0, 1]), (1, [0, 1, 16]), (2, [4]), (3, [0, 1, 18, 19]), (4, [0, 1, 18, 19, 20]), (5, [0, 1, 5, 18, 19]), (6, [0, 1, 18, 19, 34]), (7, [4]), (8, [0, 1, 18, 19]), (9, [4])]),
    (24, [(0, [1, 2, 3]), (1, [1, 2, 3, 7]), (2, [1, 2, 3, 7, 15, 16]), (3, [1, 2, 3, 7, 15, 16, 17]), (4, [1, 2, 3, 7, 8, 15, 16]), (5, [1, 2, 3, 7, 8, 15, 16, 20]), (6, [1, 2, 3, 7, 8, 15, 16, 20, 21]), (7, [1, 2, 3, 7, 15, 16]), (8, [1, 2, 3, 7, 8, 15, 16, 20, 32]), (9, [1, 2, 3, 7, 8, 15, 16, 47]), (10, [1, 2, 3, 7, 15, 16]), (11, [1, 2, 3, 7, 8, 15, 16, 20, 58]), (12, [1, 2, 3, 7, 15, 16]), (13, [1, 2, 3, 7, 8, 15, 16, 20, 67]), (14, [1, 2, 3, 7, 15, 16]), (15, [1, 2, 3, 7, 8, 15, 16, 20, 89]), (16, [1, 2, 3, 7, 15, 16]), (17, [1, 2, 3, 7, 8, 15, 16, 20, 111]), (18, [1, 2, 3, 7, 8, 9, 15, 16]), (19, [1, 2, 3, 7, 8, 9, 15, 16, 117]), (20, [1, 2, 3, 7, 8, 9, 15, 16]), (21, [1, 2, 3, 7, 8, 9, 15, 16, 129]), (22, [1, 2, 3, 7, 8, 9, 15, 16]), (23, [1, 2, 3, 7, 8, 15, 16, 146]), (24, [1, 2, 3, 7, 15, 16]), (25, [1, 2, 3, 7, 15, 16]), (26, [6])]),
    (25, [(0, [1, 2]), (1, [4])]),
    (26, [(0, [1, 2]), (1, [1, 2, 4]), (2, [1, 2, 4, 15]), (3, [2, 3]), (4, [1, 2, 5]), (5, [1, 2, 5]), (6, [1, 2, 5, 6]), (7, [1, 2, 5, 6, 29]), (8, [1, 2, 5, 6]), (9, [1, 2, 5, 6, 7]), (10, [1, 2, 5, 6, 7, 45]), (11, [1, 2, 5, 6, 7]), (12, [1, 2, 5, 6, 7, 52]), (13, [1, 2, 5, 6]), (14, [1, 2, 5, 8]), (15, [1, 2, 5, 8, 9]), (16, [2, 5, 8, 9, 62, 63, 64]), (17, [2, 5, 8, 9, 62, 63, 64, 65]), (18, [2, 5, 8, 9, 10, 11, 62, 63, 64]), (19, [2, 5, 8, 9, 10, 11, 62, 63, 64, 73]), (20, [2, 5, 8, 9, 10, 11, 62, 63, 64, 76]), (21, [2, 5, 8, 9, 10, 11, 62, 63, 64]), (22, [2, 5, 8, 9, 10, 11, 62, 63, 64, 85]), (23, [2, 5, 8, 9, 10, 11, 62, 63, 64]), (24, [2, 5, 8, 9, 11, 62, 63, 64]), (25, [2, 5, 8, 9, 62, 63, 64]), (26, [2, 5, 8, 9, 62, 63, 64]), (27, [2, 8]), (28, [2, 3])]),
    (27, [(0, [1, 2, 4]), (1, [2, 4, 6]), (2, [2, 4, 6, 13]), (3, [4, 5]), (4, [2, 4, 7, 8]), (5, [2, 4, 26]), (6, [4, 5]), (7, [4, 5])]),
    (28, [(0, [1, 2, 4]), (1, [2, 4, 6]), (2, [2, 4, 6, 13]), (3, [4, 5]), (4, [2, 4, 7, 8]), (5, [2, 4, 26]), (6, [4, 5]), (7, [4, 5])]),
    (29, [(0, [1, 2]), (1, [1, 2, 11]), (2, [4]), (3, [1, 2, 15]), (4, [4]), (5, [1, 2, 17, 18, 19]), (6, [1, 2, 17, 18, 19, 20]), (7, [1, 2, 5, 6, 17, 18, 19]), (8, [1, 2, 5, 6, 7, 8, 17, 18, 19]), (9, [1, 2, 5, 6, 7, 8, 17, 18, 19, 55]), (10, [4]), (11, [1, 2, 5, 6, 7, 8, 17, 18, 19, 64]), (12, [4]), (13, [1, 2, 17, 18, 19, 89]), (14, [4]), (15, [1, 2, 17, 18, 19]), (16, [145]), (17, [4]), (18, [4])]),
    (30, [(0, [1, 2]), (1, [4])]),
    (31, [(0, [1]), (1, [1, 8]), (2, [2]), (3, [1, 3]), (4, [1, 3, 14, 15, 16]), (5, [1, 3, 14, 15, 16, 17]), (6, [1, 3, 4, 5, 14, 15, 16]), (7, [1, 3, 4, 5, 14, 15, 16, 23]), (8, [1, 3, 4, 5, 14, 15, 16]), (9, [1, 3, 4, 5, 14, 15, 16, 39]), (10, [1, 3, 4, 5, 14, 15, 16]), (11, [1, 3, 4, 14, 15, 16, 55]), (12, [1, 3, 14, 15, 16]), (13, [1, 3, 14, 15, 16]), (14, [2])]),
    (32, [(0, [2, 3]), (1, [2, 3, 7]), (2, [4]), (3, [2, 3, 19]), (4, [4]), (5, [2, 3, 5]), (6, [2, 3, 5, 42]), (7, [2, 3, 5]), (8, [2, 3, 5, 6]), (9, [2, 3, 5, 6, 57]), (10, [4]), (11, [2, 3, 65]), (12, [4]), (13, [4])]),
    (33, [(0, [1, 2, 3]), (1, [1, 2, 3, 14]), (2, [6]), (3, [1, 2, 3, 17]), (4, [1, 3, 26]), (5, [6]), (6, [1, 3, 29]), (7, [6]), (8, [6])]),
    (34, [(0, [1, 2, 4]), (1, [2, 4]), (2, [4])]),
    (35, [(0, [0, 1, 4]), (1, [0, 1, 4, 5]), (2, [1, 4, 5, 6]), (3, [1, 4, 5, 6, 10]), (4, [1, 4, 5, 6]), (5, [1, 4, 5, 6]), (6, [4])]),
    (36, [(0, [2, 3, 4]), (1, [4])]),
    (37, [(0, [2, 3, 4]), (1, [4])]),
    (38, [(0, [2, 3, 4]), (1, [4])]),
    (39, [(0, [1]), (1, [1, 4]), (2, [1, 4, 5]), (3, [1, 4, 5, 21, 22, 23]), (4, [1, 4, 5, 21, 22, 23, 24]), (5, [1, 4, 5, 6, 7, 21, 22, 23]), (6, [1, 4, 5, 6, 7, 21, 22, 23]), (7, [1, 4, 5, 6, 7, 21, 22, 23, 36]), (8, [1, 4, 5, 6, 7, 21, 22, 23]), (9, [1, 4, 5, 6, 7, 21, 22, 23, 46]), (10, [1, 4, 5, 6, 7, 21, 22, 23]), (11, [1, 4, 5, 6, 7, 21, 22, 23]), (12, [1, 4, 5, 6, 7, 21, 22, 23, 70]), (13, [1, 4, 5, 6, 7, 21, 22, 23]), (14, [1, 4, 5, 6, 21, 22, 23]), (15, [1, 4, 5, 21, 22, 23]), (16, [1, 4, 5, 21, 22, 23]), (17, [2, 3])]),
    (40, [(0, [0, 1, 4]), (1, [0, 4, 5]), (2, [0, 4, 5, 6]), (3, [0, 4, 5, 6, 19]), (4, [0, 4, 5, 6]), (5, [0, 4, 5, 6, 26]), (6, [0, 4, 5, 6]), (7, [0, 4, 5, 6, 39]), (8, [4, 6]), (9, [4])]),
    (41, [(0, [1]), (1, [1, 4, 5]), (2, [1, 4, 5, 17, 18, 19]), (3, [1, 4, 5, 17, 18, 19, 20]), (4, [1, 4, 5, 6, 7, 17, 18, 19]), (5, [1, 4, 5, 6, 7, 17, 18, 19]), (6, [1, 4, 5, 6, 7, 17, 18, 19, 32]), (7, [1, 4, 5, 6, 7, 17, 18, 19]), (8, [1, 4, 5, 6, 7, 17, 18, 19, 41]), (9, [1, 4, 5, 6, 7, 17, 18, 19]), (10, [1, 4, 5, 6, 7, 17, 18, 19, 67]), (11, [1, 4, 5, 6, 17, 18, 19]), (12, [1, 4, 5, 17, 18, 19]), (13, [1, 4, 5, 17, 18, 19]), (14, [2, 3])]),
    (42, [(0, [1, 2, 4]), (1, [2, 4, 5]), (2, [2, 4, 5, 13]), (3, [2, 4, 5, 13, 14]), (4, [4]), (5, [2, 4, 5, 13, 17]), (6, [4]), (7, [2, 4, 5, 13, 20]), (8, [4]), (9, [2, 4, 5, 13, 25]), (10, [4]), (11, [2, 4, 5, 30]), (12, [4]), (13, [2, 4, 5, 6]), (14, [2, 4, 5, 6, 40]), (15, [2, 4, 5, 6]), (16, [2, 4, 5, 6, 43]), (17, [2, 4, 5, 6]), (18, [4])]),
    (43, [(0, [0]), (1, [2])]),
    (44, [(0, [0, 1]), (1, [0, 1, 13]), (2, [4]), (3, [0, 1, 5]), (4, [0, 1, 5, 17]), (5, [0, 1, 5]), (6, [0, 1, 5, 32]), (7, [4]), (8, [4])]),
    (45, [(0, [1, 2]), (1, [1, 2, 5]), (2, [1, 2, 5, 6]), (3, [1, 2, 5, 6, 22, 23, 24]), (4, [1, 2, 5, 6, 22, 23, 24, 25]), (5, [1, 2, 5, 6, 7, 8, 22, 23, 24]), (6, [1, 2, 5, 6, 7, 8, 22, 23, 24]), (7, [1, 2, 5, 6, 7, 8, 22, 23, 24, 39, 40]), (8, [1, 2, 5, 6, 7, 8, 22, 23, 24, 39, 40, 41]), (9, [1, 2, 5, 6, 7, 8, 9, 22, 23, 24, 39, 40]), (10, [1, 2, 5, 6, 7, 8, 9, 22, 23, 24, 39, 40]), (11, [1, 2, 5, 6, 7, 8, 9, 10, 22, 23, 24, 39, 40]), (12, [1, 2, 5, 6, 7, 8, 9, 10, 22, 23, 24, 39, 40, 55]), (13, [1, 2, 5, 6, 7, 8, 9, 10, 22, 23, 24, 39, 40]), (14, [1, 2, 5, 6, 7, 8, 9, 10, 11, 22, 23, 24, 39, 40]), (15, [1, 2, 5, 6, 7, 8, 9, 10, 11, 22, 23, 24, 39, 40, 59]), (16, [1, 2, 5, 6, 7, 8, 9, 10, 11, 22, 23, 24, 39, 40, 59, 60]), (17, [1, 2, 5, 6, 7, 8, 9, 10, 11, 22, 23, 24, 39, 40]), (18, [1, 2, 5, 6, 7, 8, 9, 10, 11, 22, 23, 24, 39, 40, 59, 65]), (19, [1, 2, 5, 6, 7, 8, 9, 10, 11, 22, 23, 24, 39, 40]), (20, [1, 2, 5, 6, 7, 8, 9, 10, 11, 22, 23, 24, 39, 40, 59, 81]), (21, [1, 2, 5, 6, 7, 8, 9, 10, 11, 22, 23, 24, 39, 40]), (22, [1, 2, 5, 6, 7, 8, 9, 10, 11, 22, 23, 24, 39, 40, 59, 83]), (23, [1, 2, 5, 6, 7, 8, 9, 10, 11, 22, 23, 24, 39, 40]), (24, [1, 2, 5, 6, 7, 8, 9, 10, 11, 22, 23, 24, 39, 40, 59, 109]), (25, [1, 2, 5, 6, 7, 8, 9, 10, 11, 22, 23, 24, 39, 40]), (26, [1, 2, 5, 6, 7, 8, 9, 10, 11, 22, 23, 24, 39, 40, 59, 135]), (27, [1, 2, 5, 6, 7, 8, 9, 10, 11, 12, 22, 23, 24, 39, 40]), (28, [1, 2, 5, 6, 7, 8, 9, 10, 11, 12, 22, 23, 24, 39, 40, 144]), (29, [1, 2, 5, 6, 7, 8, 9, 10, 11, 12, 22, 23, 24, 39, 40]), (30, [1, 2, 5, 6, 7, 8, 9, 10, 11, 12, 22, 23, 24, 39, 40]), (31, [1, 2, 5, 6, 7, 8, 9, 10, 11, 22, 23, 24, 39, 40, 171]), (32, [1, 2, 5, 6, 7, 8, 9, 10, 11, 22, 23, 24, 39, 40]), (33, [1, 2, 5, 6, 7, 8, 9, 10, 22, 23, 24, 39, 40]), (34, [1, 2, 5, 6, 7, 8, 22, 23, 24, 39, 40]), (35, [1, 2, 5, 6, 22, 23, 24]), (36, [5, 6, 13]), (37, [5, 6, 13, 202, 203]), (38, [5, 6, 13, 202, 203, 204]), (39, [5, 6, 13, 14, 202, 203]), (40, [5, 6, 13, 202, 203]), (41, [5, 6, 13, 202, 203]), (42, [4])]),
    (46, [(0, [0]), (1, [3]), (2, [2]), (3, [2])]),
    (47, [(0, [0, 1, 2]), (1, [0, 1, 7]), (2, [6]), (3, [6])]),
    (48, [(0, [0]), (1, [3]), (2, [3, 4]), (3, [2]), (4, [3, 6]), (5, [2]), (6, [3, 8]), (7, [2]), (8, [3, 10]), (9, [2]), (10, [3, 12]), (11, [2]), (12, [14]), (13, [2]), (14, [2])])]
def annJoin : List (Nat × List (Nat × List Nat)) := [(2, []),
    (3, []),
    (4, []),
    (5, [(15, [1, 2, 3])]),
    (6, [(29, [1, 2, 3, 10, 11, 12]), (43, [10, 11, 12]), (49, [10, 11, 12]), (55, [10, 11, 12]), (61, [10, 11, 12]), (67, [10, 11, 12])]),
    (7, [(5, [0])]),
    (8, [(14, [0, 1])]),
    (9, [(17, [0, 1, 6, 7, 8, 9]), (25, [0, 1, 6, 7, 8, 9, 10]), (33, [0, 1, 6, 7, 8, 9, 10]), (40, [0, 1, 6, 7, 8, 9, 10]), (52, [0, 1, 6, 7, 8, 9, 10])]),
    (10, [(14, [0, 1, 7, 8])]),
    (11, []),
    (12, []),
    (13, [(6, [0, 1]), (11, [0])]),
    (14, [(13, [1, 2]), (24, [1, 2, 5, 6, 21, 22, 23]), (29, [1, 2, 5, 6, 7, 21, 22, 23]), (38, [1, 2, 5, 6, 7, 9, 21, 22, 23]), (48, [1, 2, 5, 6, 7, 9, 21, 22, 23])]),
    (15, [(19, [2, 3]), (24, [2, 3, 22, 23]), (36, [2, 3, 22, 23])]),
    (16, [(20, [1, 2]), (29, [1, 2, 5, 26, 27, 28]), (33, [1, 2, 5, 26, 27, 28])]),
    (17, [(8, [1]), (21, [1, 3, 18, 19, 20]), (28, [1, 3, 4, 5, 18, 19, 20]), (40, [1, 3, 4, 5, 18, 19, 20]), (56, [1, 3, 18, 19, 20])]),
    (18, []),
    (19, []),
    (20, [(12, [1, 2]), (16, [1, 2]), (21, [1, 2, 18, 19, 20]), (29, [1, 2, 18, 19, 20]), (41, [])]),
    (21, [(17, [1, 3, 4]), (24, [1, 3, 4]), (33, [1, 3, 4, 5]), (41, [1, 3, 4])]),
    (22, [(4, [3, 4]), (8, [])]),
    (23, [(16, [0, 1]), (20, [0, 1, 18, 19]), (34, [0, 1, 18, 19])]),
    (24, [(17, [1, 2, 3, 7, 15, 16]), (21, [1, 2, 3, 7, 15, 16]), (32, [1, 2, 3, 7, 15, 16]), (47, [1, 2, 3, 7, 15, 16]), (58, [1, 2, 3, 7, 15, 16]), (67, [1, 2, 3, 7, 15, 16]), (89, [1, 2, 3, 7, 15, 16]), (111, [1, 2, 3, 7, 15, 16]), (117, [1, 2, 3, 7, 8, 9, 15, 16]), (129, [1, 2, 3, 7, 8, 9, 15, 16]), (146, [1, 2, 3, 7, 15, 16])]),
    (25, []),
    (26, [(15, [1, 2]), (29, [1, 2, 5, 6]), (45, [1, 2, 5, 6]), (52, [1, 2, 5, 6]), (65, [2, 5, 8, 9, 62, 63, 64]), (73, [2, 5, 8, 9, 10, 11, 62, 63, 64]), (76, [2, 5, 8, 9, 10, 11, 62, 63, 64]), (85, [2, 5, 8, 9, 10, 11, 62, 63, 64])]),
    (27, [(13, [2, 4]), (26, [2, 4])]),
    (28, [(13, [2, 4]), (26, [2, 4])]),
    (29, [(11, [1, 2]), (15, [1, 2]), (20, [1, 2, 17, 18, 19]), (55, [1, 2, 17, 18, 19]), (64, [1, 2, 17, 18, 19]), (89, [1, 2, 17, 18, 19]), (145, [])]),
    (30, []),
    (31, [(8, [1]), (17, [1, 3, 14, 15, 16]), (23, [1, 3, 4, 5, 14, 15, 16]), (39, [1, 3, 4, 5, 14, 15, 16]), (55, [1, 3, 14, 15, 16])]),
    (32, [(7, [2, 3]), (19, [2, 3]), (42, [2, 3, 5]), (57, [2, 3, 5]), (65, [2, 3])]),
    (33, [(14, [1, 2, 3]), (17, [1, 3]), (26, [1, 3]), (29, [1, 3])]),
    (34, []),
    (35, [(10, [1, 4, 5, 6])]),
    (36, []),
    (37, []),
    (38, []),
    (39, [(24, [1, 4, 5, 21, 22, 23]), (36, [1, 4, 5, 6, 7, 21, 22, 23]), (46, [1, 4, 5, 6, 7, 21, 22, 23]), (70, [1, 4, 5, 6, 21, 22, 23])]),
    (40, [(19, [0, 4, 5, 6]), (26, [0, 4, 5, 6]), (39, [4, 6])]),
    (41, [(20, [1, 4, 5, 17, 18, 19]), (32, [1, 4, 5, 6, 7, 17, 18, 19]), (41, [1, 4, 5, 6, 7, 17, 18, 19]), (67, [1, 4, 5, 6, 17, 18, 19])]),
    (42, [(14, [2, 4, 5]), (17, [2, 4, 5]), (20, [2, 4, 5]), (25, [2, 4, 5]), (30, [2, 4, 5]), (40, [2, 4, 5, 6]), (43, [2, 4, 5, 6])]),
    (43, []),
    (44, [(13, [0, 1]), (17, [0, 1, 5]), (32, [0, 1, 5])]),
    (45, [(25, [1, 2, 5, 6, 22, 23, 24]), (41, [1, 2, 5, 6, 7, 8, 22, 23, 24, 39, 40]), (55, [1, 2, 5, 6, 7, 8, 9, 10, 22, 23, 24, 39, 40]), (60, [1, 2, 5, 6, 7, 8, 9, 10, 11, 22, 23, 24, 39, 40]), (65, [1, 2, 5, 6, 7, 8, 9, 10, 11, 22, 23, 24, 39, 40]), (81, [1, 2, 5, 6, 7, 8, 9, 10, 11, 22, 23, 24, 39, 40]), (83, [1, 2, 5, 6, 7, 8, 9, 10, 11, 22, 23, 24, 39, 40]), (109, [1, 2, 5, 6, 7, 8, 9, 10, 11, 22, 23, 24, 39, 40]), (135, [1, 2, 5, 6, 7, 8, 9, 10, 11, 22, 23, 24, 39, 40]), (144, [1, 2, 5, 6, 7, 8, 9, 10, 12, 22, 23, 24, 39, 40]), (171, [1, 2, 5, 6, 7, 8, 9, 10, 11, 22, 23, 24, 39, 40]), (204, [5, 6, 13, 202, 203])]),
    (46, [(3, [])]),
    (47, [(7, [0])]),
    (48, [(4, []), (6, []), (8, []), (10, []), (12, []), (14, [])])]
def annBlk : List (Nat × List (Nat × List Nat)) := [(2, []),
    (3, []),
    (4, []),
    (5, []),
    (6, [(0, [10, 11, 12])]),
    (7, []),
    (8, []),
    (9, [(0, [6, 7, 8]), (1, [0, 1, 6, 7, 8, 9])]),
    (10, [(0, [7]), (1, [0, 1, 7, 8])]),
    (11, []),
    (12, []),
    (13, []),
    (14, [(0, [2, 5]), (1, [1, 2, 5, 6, 21, 22, 23])]),
    (15, [(0, []), (1, [2, 3, 22, 23])]),
    (16, [(0, [1, 2, 5]), (1, [1, 2, 5, 26, 27, 28])]),
    (17, [(0, [1, 3]), (1, [1, 3, 18, 19, 20])]),
    (18, []),
    (19, []),
    (20, [(0, [2]), (1, [1, 2, 18, 19, 20])]),
    (21, [(0, [3]), (1, [1, 3, 4])]),
    (22, [(0, [])]),
    (23, [(0, []), (1, [0, 1, 18, 19])]),
    (24, [(0, [7]), (1, [1, 2, 3, 7, 15, 16]), (2, [1, 2, 3, 7, 15, 16]), (3, [1, 2, 3, 7, 15, 16]), (4, [1, 2, 3, 7, 8, 9, 15, 16])]),
    (25, []),
    (26, [(0, [1, 2, 5]), (1, [1, 2, 5, 6]), (2, [2, 8]), (3, [2, 5, 8, 9, 62, 63, 64])]),
    (27, []),
    (28, []),
    (29, [(0, [2]), (1, [1, 2, 17, 18, 19]), (2, [1, 2, 17, 18, 19])]),
    (30, []),
    (31, [(0, [1, 3]), (1, [1, 3, 14, 15, 16])]),
    (32, [(0, [2, 3]), (1, [2, 3]), (2, [2, 3, 5])]),
    (33, []),
    (34, []),
    (35, [(0, [4, 5]), (1, [1, 4, 5, 6])]),
    (36, []),
    (37, []),
    (38, []),
    (39, [(0, [1, 4, 5]), (1, [1, 4, 5, 21, 22, 23])]),
    (40, []),
    (41, [(0, [1, 4, 5]), (1, [1, 4, 5, 17, 18, 19])]),
    (42, [(0, [2, 4, 5])]),
    (43, []),
    (44, [(0, []), (1, [0, 1, 5])]),
    (45, [(0, [2, 5, 6]), (1, [1, 2, 5, 6, 22, 23, 24]), (2, [1, 2, 5, 6, 22, 23, 24]), (3, [1, 2, 5, 6, 7, 8, 22, 23, 24, 39, 40]), (4, [1, 2, 5, 6, 7, 8, 22, 23, 24, 39, 40]), (5, [1, 2, 5, 6, 7, 8, 9, 10, 22, 23, 24, 39, 40]), (6, [1, 2, 5, 6, 7, 8, 9, 10, 11, 22, 23, 24, 39, 40]), (7, [1, 2, 5, 6, 7, 8, 9, 10, 11, 22, 23, 24, 39, 40]), (8, [1, 2, 5, 6, 7, 8, 9, 10, 11, 12, 22, 23, 24, 39, 40]), (9, [13]), (10, [5, 6, 13, 202, 203])]),
    (46, []),
    (47, []),
    (48, [(0, [])])]
def annOwn : List (Nat × List Bool) := [(9, [true, false]),
    (14, [true, false, false]),
    (19, [true, false]),
    (21, [true]),
    (24, [true]),
    (26, [true, false, false]),
    (27, [false, false, true, false]),
    (28, [false, false, true, false]),
    (40, [false, false, true]),
    (42, [false, false, true]),
    (45, [true])]
def annRefp : List (Nat × List Bool) := []
def annPur : List (Nat × List (Nat × List Nat)) := []
def ann : Ann := ⟨fun f r => (lookupN ((lookupN annLive f).getD []) r).getD [], fun f r => (lookupN ((lookupN annJoin f).getD []) r).getD [], fun f r => (lookupN ((lookupN annBlk f).getD []) r).getD [], fun f => (lookupN annOwn f).getD [], fun f => (lookupN annRefp f).getD [], fun f r => (lookupN ((lookupN annPur f).getD []) r).getD []⟩
noncomputable abbrev CC : CallF := Call Try.prog ann
end Go.AM

set_option maxRecDepth 100000
namespace Go.AM
open Go.Proofs
/-! semigroup/semigroupmade.Mod -/
noncomputable def s_semigroupmade_Mod_1 (C : CallF) (x : Int) (n : Int) {β : Type} (k0 : Int → Option β) : Option β :=
  bif decide ((n : Int) < 1) then
    k0 0
  else
    bif !decide (n = 0) then
      bif decide (((Int.tmod x n) : Int) < 0) then
        k0 (IntKind.wrap .i64 ((Int.tmod x n) + n))
      else
        k0 (Int.tmod x n)
    else none

theorem s_semigroupmade_Mod_1_eq (C : CallF) (x : Int) (n : Int) {β : Type} (K : Out → St → Option β) :
    execL Try.prog ann C 13 16 0 (codesAt Try.prog 13 [[0], [1, 0, 0], [1, 0, 1], [1, 1, 0], [1, 1, 1, 0, 0], [1, 1, 1, 0, 1], [1, 1, 1, 1, 0], [1, 1, 1, 1, 1]]) (mk [(0, .int .i64 x), (1, .int .i64 n)] []) K =
      s_semigroupmade_Mod_1 C x n
        (fun (t40 : Int) => K .ret (mk [(4, .int .i64 t40)] [])) := by kernel_rfl

theorem f_semigroupmade_Mod_all (C : CallF) (x : Int) (n : Int) {β : Type} (K : Out → St → Option β) : execK Try.prog ann C 13 (ntmpsOf Try.prog 13) ([] : List V).length (bodyOf Try.prog 13) (enter [.int .i64 x, .int .i64 n] []) K =
      s_semigroupmade_Mod_1 C x n
        (fun (t_2 : Int) =>
          K .ret (mk [(4, .int .i64 t_2)] [])) :=
  Eq.trans (execK_items (by kernel_rfl)) (s_semigroupmade_Mod_1_eq C x n K)

noncomputable def f_semigroupmade_Mod (C : CallF) (x : Int) (n : Int) : Option (V × List V) :=
  s_semigroupmade_Mod_1 C x n
    (fun (t_1 : Int) =>
      some (.int .i64 t_1, []))

theorem f_semigroupmade_Mod_eq (C : CallF) (x : Int) (n : Int) : bodyK Try.prog ann C 13 [.int .i64 x, .int .i64 n] [] = f_semigroupmade_Mod C x n :=
  Eq.trans (bodyK_fin (by kernel_rfl)) (Eq.trans (f_semigroupmade_Mod_all C x n (finK Try.prog ann C 13 [])) (by kernel_rfl))

theorem f_semigroupmade_Mod_of {x : Int} {n : Int} {r : V × List V} (h : f_semigroupmade_Mod CC x n = some r) : CC F_semigroupmade_Mod [.int .i64 x, .int .i64 n] [] = some r :=
  Call_of_body ((bodyK_eq ..).trans ((f_semigroupmade_Mod_eq ..).trans h))

end Go.AM

set_option maxRecDepth 100000
namespace Go.AM
open Go.Proofs
/-! semigroup/semigroupmade.New -/
noncomputable def s_semigroupmade_New_1 (C : CallF) (l : List V) {β : Type} (k0 : (List V) → Option β) : Option β :=
  bif decide (((l.length : Int) : Int) > 80) then
    bif decide (80 ≤ (l.length : Int)) then
      k0 ((l.drop 0).take (80 - 0))
    else none
  else
    k0 l

theorem s_semigroupmade_New_1_eq (C : CallF) (l : List V) {β : Type} (K : Out → St → Option β) :
    execL Try.prog ann C 7 11 0 (codesAt Try.prog 7 [[0], [1, 0, 0], [1, 0, 1], [1, 1, 0], [1, 1, 1]]) (mk [(0, .list T_int l)] []) K =
      s_semigroupmade_New_1 C l
        (fun (t2s_00 : List V) => K .ret (mk [(2, .ptr 0 0 0)] [.var [.list T_int t2s_00, .int .i64 0]])) := by kernel_rfl

theorem f_semigroupmade_New_all (C : CallF) (l : List V) {β : Type} (K : Out → St → Option β) : execK Try.prog ann C 7 (ntmpsOf Try.prog 7) ([] : List V).length (bodyOf Try.prog 7) (enter [.list T_int l] []) K =
      s_semigroupmade_New_1 C l
        (fun (t2s_2 : List V) =>
          K .ret (mk [(2, .ptr 0 0 0)] [.var [.list T_int t2s_2, .int .i64 0]])) :=
  Eq.trans (execK_items (by kernel_rfl)) (s_semigroupmade_New_1_eq C l K)

noncomputable def f_semigroupmade_New (C : CallF) (l : List V) : Option (V × List V) :=
  s_semigroupmade_New_1 C l
    (fun (t2s_1 : List V) =>
      some (.agg [.list T_int t2s_1, .int .i64 0], []))

theorem f_semigroupmade_New_eq (C : CallF) (l : List V) : bodyK Try.prog ann C 7 [.list T_int l] [] = f_semigroupmade_New C l :=
  Eq.trans (bodyK_fin (by kernel_rfl)) (Eq.trans (f_semigroupmade_New_all C l (finK Try.prog ann C 7 [])) (by kernel_rfl))

theorem f_semigroupmade_New_of {l : List V} {r : V × List V} (h : f_semigroupmade_New CC l = some r) : CC F_semigroupmade_New [.list T_int l] [] = some r :=
  Call_of_body ((bodyK_eq ..).trans ((f_semigroupmade_New_eq ..).trans h))

end Go.AM

set_option maxRecDepth 100000
namespace Go.AM
open Go.Proofs
/-! (*semigroup/semigroupmade.Tape).Next -/
noncomputable def s_semigroupmade_Tape_Next_1 (C : CallF) (t_L : List V) (t_At : Int) (n : Int) {β : Type} (k0 : Int → Int → Option β) : Option β :=
  bif decide ((t_At : Int) ≥ (t_L.length : Int)) then
    k0 0 t_At
  else
    (idx t_L (IntKind.wrap .i64 ((IntKind.wrap .i64 (t_At + 1)) - 1))).bind fun x3 =>
      (C F_semigroupmade_Mod [.int .i64 x3.toInt, .int .i64 n] []).bind fun r4 =>
        k0 r4.1.toInt (IntKind.wrap .i64 (t_At + 1))

theorem s_semigroupmade_Tape_Next_1_eq (C : CallF) (t_L : List V) (t_At : Int) (n : Int) {β : Type} (K : Out → St → Option β) :
    execL Try.prog ann C 8 35 1 (codesAt Try.prog 8 [[0], [1, 0, 0], [1, 0, 1], [1, 1, 0], [1, 1, 1, 0], [1, 1, 1, 1]]) (mk [(0, .ptr 0 0 0), (1, .int .i64 n)] [.var [.list T_int t_L, .int .i64 t_At]]) K =
      s_semigroupmade_Tape_Next_1 C t_L t_At n
        (fun (t40 : Int) (b0_10 : Int) => K .ret (mk [(4, .int .i64 t40)] [.var [.list T_int t_L, .int .i64 b0_10]])) := by kernel_rfl

theorem f_semigroupmade_Tape_Next_all (C : CallF) (t_L : List V) (t_At : Int) (n : Int) {β : Type} (K : Out → St → Option β) : execK Try.prog ann C 8 (ntmpsOf Try.prog 8) ([.agg [.list T_int t_L, .int .i64 t_At]] : List V).length (bodyOf Try.prog 8) (enter [.ptr 0 0 0, .int .i64 n] [.agg [.list T_int t_L, .int .i64 t_At]]) K =
      s_semigroupmade_Tape_Next_1 C t_L t_At n
        (fun (t_7 : Int) (b_8 : Int) =>
          K .ret (mk [(4, .int .i64 t_7)] [.var [.list T_int t_L, .int .i64 b_8]])) :=
  Eq.trans (execK_items (by kernel_rfl)) (s_semigroupmade_Tape_Next_1_eq C t_L t_At n K)

noncomputable def f_semigroupmade_Tape_Next (C : CallF) (t_L : List V) (t_At : Int) (n : Int) : Option (V × List V) :=
  s_semigroupmade_Tape_Next_1 C t_L t_At n
    (fun (t_5 : Int) (b_6 : Int) =>
      some (.int .i64 t_5, [.agg [.list T_int t_L, .int .i64 b_6]]))

theorem f_semigroupmade_Tape_Next_eq (C : CallF) (t_L : List V) (t_At : Int) (n : Int) : bodyK Try.prog ann C 8 [.ptr 0 0 0, .int .i64 n] [.agg [.list T_int t_L, .int .i64 t_At]] = f_semigroupmade_Tape_Next C t_L t_At n :=
  Eq.trans (bodyK_fin (by kernel_rfl)) (Eq.trans (f_semigroupmade_Tape_Next_all C t_L t_At n (finK Try.prog ann C 8 [.agg [.list T_int t_L, .int .i64 t_At]])) (by kernel_rfl))

theorem f_semigroupmade_Tape_Next_of {t_L : List V} {t_At : Int} {n : Int} {r : V × List V} (h : f_semigroupmade_Tape_Next CC t_L t_At n = some r) : CC F_semigroupmade_Tape_Next [.ptr 0 0 0, .int .i64 n] [.agg [.list T_int t_L, .int .i64 t_At]] = some r :=
  Call_of_body ((bodyK_eq ..).trans ((f_semigroupmade_Tape_Next_eq ..).trans h))

end Go.AM

set_option maxRecDepth 100000
namespace Go.AM
open Go.Proofs
/-! (*semigroup/semigroupmade.Tape).Word -/
theorem s_semigroupmade_Tape_Word_1d_eq (C : CallF) (t_L : List V) (t_At : Int) (letters : Int) (most : Int) {β : Type} (K : Out → St → Option β) :
    execL Try.prog ann C 10 27 1 (codesAt Try.prog 10 [[0], [1, 0], [1, 1, 0, 0]]) (mk [(0, .ptr 0 0 0), (1, .int .i64 letters), (2, .int .i64 most)] [.var [.list T_int t_L, .int .i64 t_At]]) K =
      (C F_semigroupmade_Tape_Next [.ptr 0 0 0, .int .i64 (IntKind.wrap .i64 (most + 1))] [.agg [.list T_int t_L, .int .i64 t_At]]).bind fun r1 =>
        K .norm (mk [(0, .ptr 0 0 0), (1, .int .i64 letters), (7, .whole T_uint8 1), (8, .int .i64 r1.1.toInt)] [.var [.list T_int (((V.nth r1.2 0).cell 0).toList), .int .i64 (((V.nth r1.2 0).cell 1).toInt)], .arr T_uint8 ([] : List V) false]) := by kernel_rfl

theorem s_semigroupmade_Tape_Word_2d_eq (C : CallF) (letters : Int) (n : Int) (ts_0 : List V) (ts_1 : Int) (bs : List V) {β : Type} (K : Out → St → Option β) :
    execL Try.prog ann C 10 27 1 (codesAt Try.prog 10 [[1, 1, 0, 1, 0, 0, 0, 0], [1, 1, 0, 1, 0, 0, 0, 1], [1, 1, 0, 1, 0, 0, 1, 0], [1, 1, 0, 1, 0, 0, 1, 1]]) (mk [(0, .ptr 0 0 0), (1, .int .i64 letters), (7, .whole T_uint8 1), (8, .int .i64 n)] [.var [.list T_int ts_0, .int .i64 ts_1], .arr T_uint8 bs false]) K =
      bif decide ((n : Int) > 0) then
        (C F_semigroupmade_Tape_Next [.ptr 0 0 0, .int .i64 letters] [.agg [.list T_int ts_0, .int .i64 ts_1]]).bind fun r3 =>
          bif Nat.ble ((bs.length + ([.int .u8 (IntKind.wrap .u8 (IntKind.wrap .i64 (97 + r3.1.toInt)))] : List V).length) * 1) maxBytes then
            K .norm (mk [(0, .ptr 0 0 0), (1, .int .i64 letters), (7, .whole T_uint8 1), (8, .int .i64 (IntKind.wrap .i64 (n - 1)))] [.var [.list T_int (((V.nth r3.2 0).cell 0).toList), .int .i64 (((V.nth r3.2 0).cell 1).toInt)], .arr T_uint8 (bs ++ ([.int .u8 (IntKind.wrap .u8 (IntKind.wrap .i64 (97 + r3.1.toInt)))] : List V)) false])
          else none
      else
        K (.exit 0) (mk [(0, .ptr 0 0 0), (1, .int .i64 letters), (7, .whole T_uint8 1), (8, .int .i64 n), (14, .bool (decide ((n : Int) > 0)))] [.var [.list T_int ts_0, .int .i64 ts_1], .arr T_uint8 bs false]) := by kernel_rfl

noncomputable def s_semigroupmade_Tape_Word_3L_step (C : CallF) (letters : Int) : (Int × (List V) × Int × (List V)) → Option ((Int × (List V) × Int × (List V)) ⊕ ((Int × Bool × (List V) × Int × (List V)))) := fun (n, ts_0, ts_1, bs) =>
  bif decide ((n : Int) > 0) then
    (C F_semigroupmade_Tape_Next [.ptr 0 0 0, .int .i64 letters] [.agg [.list T_int ts_0, .int .i64 ts_1]]).bind fun r3 =>
      bif Nat.ble ((bs.length + ([.int .u8 (IntKind.wrap .u8 (IntKind.wrap .i64 (97 + r3.1.toInt)))] : List V).length) * 1) maxBytes then
        some (.inl (IntKind.wrap .i64 (n - 1), (((V.nth r3.2 0).cell 0).toList), (((V.nth r3.2 0).cell 1).toInt), (bs ++ ([.int .u8 (IntKind.wrap .u8 (IntKind.wrap .i64 (97 + r3.1.toInt)))] : List V))))
      else none
  else
    some (.inr (n, decide ((n : Int) > 0), ts_0, ts_1, bs))

noncomputable def s_semigroupmade_Tape_Word_3L (C : CallF) (letters : Int) (n : Int) (ts_0 : List V) (ts_1 : Int) (bs : List V) {β : Type} (k0 : Int → Bool → (List V) → Int → (List V) → Option β) : Option β :=
  (Loop (s_semigroupmade_Tape_Word_3L_step C letters) (n, ts_0, ts_1, bs)).bind fun (n0, t140, ts_00, ts_10, bs0) => k0 n0 t140 ts_00 ts_10 bs0

def s_semigroupmade_Tape_Word_3L_dec : Out → St → Option ((Int × (List V) × Int × (List V)) ⊕ ((Int × Bool × (List V) × Int × (List V)))) := fun o st => match o with
    | .norm => some (.inl (V.toInt (st.sl 8), V.toList (V.nth (varOf (st.hp 0)) 0), V.toInt (V.nth (varOf (st.hp 0)) 1), arrOf (st.hp 1)))
    | .exit q => bif Nat.beq q 0 then some (.inr (V.toInt (st.sl 8), V.toBool (st.sl 14), V.toList (V.nth (varOf (st.hp 0)) 0), V.toInt (V.nth (varOf (st.hp 0)) 1), arrOf (st.hp 1))) else none
    | .ret => none

def s_semigroupmade_Tape_Word_3L_hd (letters : Int) : (Int × (List V) × Int × (List V)) → St := fun (n, ts_0, ts_1, bs) => mk [(0, .ptr 0 0 0), (1, .int .i64 letters), (7, .whole T_uint8 1), (8, .int .i64 n)] [.var [.list T_int ts_0, .int .i64 ts_1], .arr T_uint8 bs false]

def s_semigroupmade_Tape_Word_3L_enc (letters : Int) : ((Int × Bool × (List V) × Int × (List V))) → Out × St := fun (n0, t140, ts_00, ts_10, bs0) => (.exit 0, mk [(0, .ptr 0 0 0), (1, .int .i64 letters), (7, .whole T_uint8 1), (8, .int .i64 n0), (14, .bool t140)] [.var [.list T_int ts_00, .int .i64 ts_10], .arr T_uint8 bs0 false])

theorem s_semigroupmade_Tape_Word_3L_eq (C : CallF) (letters : Int) (n : Int) (ts_0 : List V) (ts_1 : Int) (bs : List V) {β : Type} (K : Out → St → Option β) :
    execL Try.prog ann C 10 27 1 (codesAt Try.prog 10 [[1, 1, 0, 1, 0]]) (mk [(0, .ptr 0 0 0), (1, .int .i64 letters), (7, .whole T_uint8 1), (8, .int .i64 n)] [.var [.list T_int ts_0, .int .i64 ts_1], .arr T_uint8 bs false]) K =
      s_semigroupmade_Tape_Word_3L C letters n ts_0 ts_1 bs
        (fun (n0 : Int) (t140 : Bool) (ts_00 : List V) (ts_10 : Int) (bs0 : List V) => K (.exit 0) (mk [(0, .ptr 0 0 0), (1, .int .i64 letters), (7, .whole T_uint8 1), (8, .int .i64 n0), (14, .bool t140)] [.var [.list T_int ts_00, .int .i64 ts_10], .arr T_uint8 bs0 false])) := by
  have hitems : flatC (codeAt [1, 1, 0, 1, 0, 0] (bodyOf Try.prog 10)) = codesAt Try.prog 10 [[1, 1, 0, 1, 0, 0, 0, 0], [1, 1, 0, 1, 0, 0, 0, 1], [1, 1, 0, 1, 0, 0, 1, 0], [1, 1, 0, 1, 0, 0, 1, 1]] := by kernel_rfl
  have hloop : [codeAt [1, 1, 0, 1, 0] (bodyOf Try.prog 10)] = [Code.loop (codeAt [1, 1, 0, 1, 0, 0] (bodyOf Try.prog 10))] := by kernel_rfl
  have h := loopK_eq (P := Try.prog) (A := ann) (C := C) (f := 10) (n := 27) (m := 1) (c := codeAt [1, 1, 0, 1, 0, 0] (bodyOf Try.prog 10)) (s_semigroupmade_Tape_Word_3L_hd letters) (s_semigroupmade_Tape_Word_3L_enc letters) s_semigroupmade_Tape_Word_3L_dec (s_semigroupmade_Tape_Word_3L_step C letters)
    (by rintro ⟨n, ts_0, ts_1, bs⟩; exact Eq.trans (execK_items hitems) (Eq.trans (s_semigroupmade_Tape_Word_2d_eq C letters n ts_0 ts_1 bs s_semigroupmade_Tape_Word_3L_dec) (by kernel_rfl)))
    (by rintro ⟨n, ts_0, ts_1, bs⟩; exact Eq.trans (execK_items hitems) (Eq.trans (s_semigroupmade_Tape_Word_2d_eq C letters n ts_0 ts_1 bs (fun o st => some (o, st))) (Eq.trans (by kernel_rfl) (Eq.trans (s_semigroupmade_Tape_Word_2d_eq C letters n ts_0 ts_1 bs (fun o st => (s_semigroupmade_Tape_Word_3L_dec o st).map (outS (s_semigroupmade_Tape_Word_3L_hd letters) (s_semigroupmade_Tape_Word_3L_enc letters)))).symm (execK_items hitems).symm))))
    (by intro r; intro h; cases h) (n, ts_0, ts_1, bs) K
  refine Eq.trans (congrArg (fun l => execL Try.prog ann C 10 27 1 l (mk [(0, .ptr 0 0 0), (1, .int .i64 letters), (7, .whole T_uint8 1), (8, .int .i64 n)] [.var [.list T_int ts_0, .int .i64 ts_1], .arr T_uint8 bs false]) K) hloop) (Eq.trans h ?_)
  · refine congrArg _ (funext fun r => ?_)
    rfl

theorem s_semigroupmade_Tape_Word_4b_eq (C : CallF) (letters : Int) (n : Int) (ts_0 : List V) (ts_1 : Int) (bs : List V) {β : Type} (K : Out → St → Option β) :
    execL Try.prog ann C 10 27 1 (codesAt Try.prog 10 [[1, 1, 0, 1]]) (mk [(0, .ptr 0 0 0), (1, .int .i64 letters), (7, .whole T_uint8 1), (8, .int .i64 n)] [.var [.list T_int ts_0, .int .i64 ts_1], .arr T_uint8 bs false]) K =
      s_semigroupmade_Tape_Word_3L C letters n ts_0 ts_1 bs
        (fun (n_4 : Int) (t_5 : Bool) (ts_6 : List V) (ts_7 : Int) (bs_8 : List V) =>
          K .norm (mk [(7, .whole T_uint8 1)] [.var [.list T_int ts_6, .int .i64 ts_7], .arr T_uint8 bs_8 false])) := Eq.trans (execL_block (P := Try.prog) (A := ann) (C := C) (f := 10) (n := 27) (m := 1) (id := 0) (c := codeAt [1, 1, 0, 1] (bodyOf Try.prog 10)) (d := codeAt [1, 1, 0, 1, 0] (bodyOf Try.prog 10)) (l := codesAt Try.prog 10 [[1, 1, 0, 1, 0]]) (st := mk [(0, .ptr 0 0 0), (1, .int .i64 letters), (7, .whole T_uint8 1), (8, .int .i64 n)] [.var [.list T_int ts_0, .int .i64 ts_1], .arr T_uint8 bs false]) (K := K) (by kernel_rfl) (by kernel_rfl)) (Eq.trans (s_semigroupmade_Tape_Word_3L_eq C letters n ts_0 ts_1 bs (blockK ann 10 1 0 K)) (by kernel_rfl))

theorem s_semigroupmade_Tape_Word_5d_eq (C : CallF) (b0_0 : List V) (b0_1 : Int) (bs : List V) {β : Type} (K : Out → St → Option β) :
    execL Try.prog ann C 10 27 1 (codesAt Try.prog 10 [[1, 1, 1, 0], [1, 1, 1, 1]]) (mk [(7, .whole T_uint8 1)] [.var [.list T_int b0_0, .int .i64 b0_1], .arr T_uint8 bs false]) K =
      K .ret (mk [(6, .str (bytesOfV bs))] [.var [.list T_int b0_0, .int .i64 b0_1]]) := by kernel_rfl

theorem s_semigroupmade_Tape_Word_6c_eq (C : CallF) (letters : Int) (n : Int) (ts_0 : List V) (ts_1 : Int) (bs : List V) {β : Type} (K : Out → St → Option β) :
    execL Try.prog ann C 10 27 1 (codesAt Try.prog 10 [[1, 1, 0, 1], [1, 1, 1, 0], [1, 1, 1, 1]]) (mk [(0, .ptr 0 0 0), (1, .int .i64 letters), (7, .whole T_uint8 1), (8, .int .i64 n)] [.var [.list T_int ts_0, .int .i64 ts_1], .arr T_uint8 bs false]) K =
      s_semigroupmade_Tape_Word_3L C letters n ts_0 ts_1 bs
        (fun (n_4 : Int) (t_5 : Bool) (ts_6 : List V) (ts_7 : Int) (bs_8 : List V) =>
          K .ret (mk [(6, .str (bytesOfV bs_8))] [.var [.list T_int ts_6, .int .i64 ts_7]])) := by
  refine Eq.trans (execL_app (P := Try.prog) (A := ann) (C := C) (f := 10) (n := 27) (m := 1) (codesAt Try.prog 10 [[1, 1, 0, 1]]) (codesAt Try.prog 10 [[1, 1, 1, 0], [1, 1, 1, 1]]) (st := mk [(0, .ptr 0 0 0), (1, .int .i64 letters), (7, .whole T_uint8 1), (8, .int .i64 n)] [.var [.list T_int ts_0, .int .i64 ts_1], .arr T_uint8 bs false]) (K := K)) (Eq.trans (s_semigroupmade_Tape_Word_4b_eq C letters n ts_0 ts_1 bs (seqK Try.prog ann C 10 27 1 (codesAt Try.prog 10 [[1, 1, 1, 0], [1, 1, 1, 1]]) K)) ?_)
  · exact Eq.trans (by kernel_rfl) (Eq.trans (congrArg (fun HOLE : (List V) → Int → (List V) → Option β => (s_semigroupmade_Tape_Word_3L C letters n ts_0 ts_1 bs
        (fun (n_4 : Int) (t_5 : Bool) (ts_6 : List V) (ts_7 : Int) (bs_8 : List V) =>
          HOLE ts_6 ts_7 bs_8))) (funext fun (b0_00 : List V) => funext fun (b0_10 : Int) => funext fun (bs0 : List V) => s_semigroupmade_Tape_Word_5d_eq C b0_00 b0_10 bs0 K)) ((by kernel_rfl)))


theorem s_semigroupmade_Tape_Word_7c_eq (C : CallF) (t_L : List V) (t_At : Int) (letters : Int) (most : Int) {β : Type} (K : Out → St → Option β) :
    execL Try.prog ann C 10 27 1 (codesAt Try.prog 10 [[0], [1, 0], [1, 1, 0, 0], [1, 1, 0, 1], [1, 1, 1, 0], [1, 1, 1, 1]]) (mk [(0, .ptr 0 0 0), (1, .int .i64 letters), (2, .int .i64 most)] [.var [.list T_int t_L, .int .i64 t_At]]) K =
      (C F_semigroupmade_Tape_Next [.ptr 0 0 0, .int .i64 (IntKind.wrap .i64 (most + 1))] [.agg [.list T_int t_L, .int .i64 t_At]]).bind fun r1 =>
        s_semigroupmade_Tape_Word_3L C letters r1.1.toInt (((V.nth r1.2 0).cell 0).toList) (((V.nth r1.2 0).cell 1).toInt) ([] : List V)
          (fun (n_4 : Int) (t_5 : Bool) (ts_6 : List V) (ts_7 : Int) (bs_8 : List V) =>
            K .ret (mk [(6, .str (bytesOfV bs_8))] [.var [.list T_int ts_6, .int .i64 ts_7]])) := by
  refine Eq.trans (execL_app (P := Try.prog) (A := ann) (C := C) (f := 10) (n := 27) (m := 1) (codesAt Try.prog 10 [[0], [1, 0], [1, 1, 0, 0]]) (codesAt Try.prog 10 [[1, 1, 0, 1], [1, 1, 1, 0], [1, 1, 1, 1]]) (st := mk [(0, .ptr 0 0 0), (1, .int .i64 letters), (2, .int .i64 most)] [.var [.list T_int t_L, .int .i64 t_At]]) (K := K)) (Eq.trans (s_semigroupmade_Tape_Word_1d_eq C t_L t_At letters most (seqK Try.prog ann C 10 27 1 (codesAt Try.prog 10 [[1, 1, 0, 1], [1, 1, 1, 0], [1, 1, 1, 1]]) K)) ?_)
  · exact Eq.trans (by kernel_rfl) (Eq.trans (congrArg (fun HOLE : Int → (List V) → Int → Option β => ((C F_semigroupmade_Tape_Next [.ptr 0 0 0, .int .i64 (IntKind.wrap .i64 (most + 1))] [.agg [.list T_int t_L, .int .i64 t_At]]).bind fun r1 =>
        HOLE r1.1.toInt (((V.nth r1.2 0).cell 0).toList) (((V.nth r1.2 0).cell 1).toInt))) (funext fun (n0 : Int) => funext fun (ts_00 : List V) => funext fun (ts_10 : Int) => s_semigroupmade_Tape_Word_6c_eq C letters n0 ts_00 ts_10 ([] : List V) K)) ((by kernel_rfl)))


theorem f_semigroupmade_Tape_Word_all (C : CallF) (t_L : List V) (t_At : Int) (letters : Int) (most : Int) {β : Type} (K : Out → St → Option β) : execK Try.prog ann C 10 (ntmpsOf Try.prog 10) ([.agg [.list T_int t_L, .int .i64 t_At]] : List V).length (bodyOf Try.prog 10) (enter [.ptr 0 0 0, .int .i64 letters, .int .i64 most] [.agg [.list T_int t_L, .int .i64 t_At]]) K =
      (C F_semigroupmade_Tape_Next [.ptr 0 0 0, .int .i64 (IntKind.wrap .i64 (most + 1))] [.agg [.list T_int t_L, .int .i64 t_At]]).bind fun r1 =>
        s_semigroupmade_Tape_Word_3L C letters r1.1.toInt (((V.nth r1.2 0).cell 0).toList) (((V.nth r1.2 0).cell 1).toInt) ([] : List V)
          (fun (n_4 : Int) (t_5 : Bool) (ts_6 : List V) (ts_7 : Int) (bs_8 : List V) =>
            K .ret (mk [(6, .str (bytesOfV bs_8))] [.var [.list T_int ts_6, .int .i64 ts_7]])) :=
  Eq.trans (execK_items (by kernel_rfl)) (s_semigroupmade_Tape_Word_7c_eq C t_L t_At letters most K)

noncomputable def f_semigroupmade_Tape_Word (C : CallF) (t_L : List V) (t_At : Int) (letters : Int) (most : Int) : Option (V × List V) :=
  (C F_semigroupmade_Tape_Next [.ptr 0 0 0, .int .i64 (IntKind.wrap .i64 (most + 1))] [.agg [.list T_int t_L, .int .i64 t_At]]).bind fun r1 =>
    s_semigroupmade_Tape_Word_3L C letters r1.1.toInt (((V.nth r1.2 0).cell 0).toList) (((V.nth r1.2 0).cell 1).toInt) ([] : List V)
      (fun (n_4 : Int) (t_5 : Bool) (ts_6 : List V) (ts_7 : Int) (bs_8 : List V) =>
        some (.str (bytesOfV bs_8), [.agg [.list T_int ts_6, .int .i64 ts_7]]))

theorem f_semigroupmade_Tape_Word_eq (C : CallF) (t_L : List V) (t_At : Int) (letters : Int) (most : Int) : bodyK Try.prog ann C 10 [.ptr 0 0 0, .int .i64 letters, .int .i64 most] [.agg [.list T_int t_L, .int .i64 t_At]] = f_semigroupmade_Tape_Word C t_L t_At letters most :=
  Eq.trans (bodyK_fin (by kernel_rfl)) (Eq.trans (f_semigroupmade_Tape_Word_all C t_L t_At letters most (finK Try.prog ann C 10 [.agg [.list T_int t_L, .int .i64 t_At]])) (by kernel_rfl))

theorem f_semigroupmade_Tape_Word_of {t_L : List V} {t_At : Int} {letters : Int} {most : Int} {r : V × List V} (h : f_semigroupmade_Tape_Word CC t_L t_At letters most = some r) : CC F_semigroupmade_Tape_Word [.ptr 0 0 0, .int .i64 letters, .int .i64 most] [.agg [.list T_int t_L, .int .i64 t_At]] = some r :=
  Call_of_body ((bodyK_eq ..).trans ((f_semigroupmade_Tape_Word_eq ..).trans h))

end Go.AM

/-
  What the functions of semigroupmade compute: tapes, numbers, words, graphs.
-/
namespace Go.AM
open Go.Proofs

abbrev vI (n : Int) : V := .int .i64 n
abbrev vIs (l : List Int) : List V := l.map vI
def tapeV (l : List Int) (a : Nat) : V := .agg [.list T_int (vIs l), .int .i64 a]

def modI (x n : Int) : Int := if n < 1 then 0 else x % n
theorem modI_nonneg (x n : Int) : 0 ≤ modI x n := by
  unfold modI; split
  · omega
  · exact Int.emod_nonneg _ (by omega)
theorem modI_lt (x : Int) {n : Int} (h : 1 ≤ n) : modI x n < n := by
  unfold modI; split
  · omega
  · exact Int.emod_lt_of_pos _ (by omega)

theorem mod_spec (x n : Int) (hn : n < 9223372036854775808) : CC F_semigroupmade_Mod [.int .i64 x, .int .i64 n] [] = some (.int .i64 (modI x n), []) := by
  refine f_semigroupmade_Mod_of ?_
  unfold f_semigroupmade_Mod s_semigroupmade_Mod_1 modI
  simp only [bif_decide]
  split
  · rfl
  · rename_i h
    have h1 : ¬ n = 0 := by omega
    simp only [h1, decide_false, Bool.not_false, cond_true]
    by_cases hx : 0 ≤ x
    · have e1 : Int.tmod x n = x % n := Int.tmod_eq_emod_of_nonneg hx
      have e2 : ¬ x % n < 0 := by have := Int.emod_nonneg x h1; omega
      rw [e1, if_neg e2]
    · have e1 : Int.tmod x n = if n ∣ x then 0 else x % n - n := by
        rw [Int.tmod_eq_emod]
        have : ¬ (0 ≤ x ∨ n ∣ x) ↔ ¬ n ∣ x := by simp [hx]
        by_cases hd : n ∣ x
        · simp [hd, Int.emod_eq_zero_of_dvd hd]
        · have : (n.natAbs : Int) = n := by omega
          simp [hx, hd, this]
      by_cases hd : n ∣ x
      · rw [e1, if_pos hd, if_neg (by omega), Int.emod_eq_zero_of_dvd hd]
      · rw [e1, if_neg hd]
        have h2 := Int.emod_nonneg x h1
        have h3 := Int.emod_lt_of_pos x (show 0 < n by omega)
        rw [if_pos (by omega), wrap64 (by omega) (by omega)]
        congr 3
        omega

theorem new_spec (l : List Int) : CC F_semigroupmade_New [.list T_int (vIs l)] [] = some (tapeV (l.take 80) 0, []) := by
  refine f_semigroupmade_New_of ?_
  unfold f_semigroupmade_New s_semigroupmade_New_1 tapeV
  simp only [bif_decide, List.length_map]
  split
  · rw [if_pos (by omega)]; simp
  · rw [List.take_of_length_le (by omega)]; simp

/-- A tape: at most 80 numbers. -/
structure TapeOk (l : List Int) (a : Nat) : Prop where
  len : l.length ≤ 80
  at_le : a ≤ l.length

theorem new_ok (l : List Int) : TapeOk (l.take 80) 0 := ⟨by simp; omega, Nat.zero_le _⟩

theorem next_spec (l : List Int) (a : Nat) (n : Int) (ht : TapeOk l a) (hn : n < 9223372036854775808) :
    ∃ r a', TapeOk l a' ∧ 0 ≤ r ∧ (1 ≤ n → r < n) ∧ (n < 1 → r = 0) ∧ CC F_semigroupmade_Tape_Next [.ptr 0 0 0, .int .i64 n] [tapeV l a] = some (.int .i64 r, [tapeV l a']) := by
  obtain ⟨h1, h2⟩ := ht
  by_cases ha : a < l.length
  · refine ⟨modI l[a] n, a + 1, ⟨h1, by omega⟩, modI_nonneg _ _, fun h => modI_lt _ h, fun h => by simp [modI, h], f_semigroupmade_Tape_Next_of ?_⟩
    unfold f_semigroupmade_Tape_Next s_semigroupmade_Tape_Next_1
    simp only [bif_decide, List.length_map]
    rw [if_neg (by omega)]
    simp (disch := omega) only [wrap64]
    rw [idx_map (n := a) (by omega) ha]
    simp [mod_spec _ _ hn, tapeV]
  · refine ⟨0, a, ⟨h1, h2⟩, by omega, fun h => by omega, fun _ => rfl, f_semigroupmade_Tape_Next_of ?_⟩
    unfold f_semigroupmade_Tape_Next s_semigroupmade_Tape_Next_1
    simp only [bif_decide, List.length_map]
    rw [if_pos (by omega)]
    rfl

/-- A word over some letters. -/
def WordOf (letters : Int) (w : List UInt8) : Prop := ∀ b ∈ w, 97 ≤ b.toNat ∧ (b.toNat : Int) < 97 + letters

theorem word_spec (l : List Int) (a : Nat) (letters most : Int) (ht : TapeOk l a) (hl : 1 ≤ letters ∧ letters ≤ 26) (hm : 0 ≤ most ∧ most < 1000) :
    ∃ w a', TapeOk l a' ∧ WordOf letters w ∧ (w.length : Int) ≤ most ∧ CC F_semigroupmade_Tape_Word [.ptr 0 0 0, .int .i64 letters, .int .i64 most] [tapeV l a] = some (.str w, [tapeV l a']) := by
  obtain ⟨n, a1, ht1, n0, n1, _, hnext⟩ := next_spec l a (most + 1) ht (by omega)
  have n2 := n1 (by omega)
  have key := Loop_inv (step := s_semigroupmade_Tape_Word_3L_step CC letters)
    (fun x => ∃ (k : Int) (a : Nat) (w : List UInt8), 0 ≤ k ∧ k + w.length ≤ most ∧ TapeOk l a ∧ WordOf letters w ∧ x = (k, vIs l, (a : Int), w.map fun b => V.int .u8 b.toNat))
    (fun x => x.1.toNat)
    (fun r => ∃ (k : Int) (b : Bool) (a : Nat) (w : List UInt8), (w.length : Int) ≤ most ∧ TapeOk l a ∧ WordOf letters w ∧ r = (k, b, vIs l, (a : Int), w.map fun b => V.int .u8 b.toNat)) (by
      rintro x ⟨k, a, w, k0, k1, hta, hw, rfl⟩
      unfold s_semigroupmade_Tape_Word_3L_step
      simp only [bif_decide]
      by_cases hk : k > 0
      · left
        obtain ⟨d, a', ht', d0, d1, _, hd⟩ := next_spec l a letters hta (by omega)
        have d2 := d1 (by omega)
        refine ⟨(k - 1, vIs l, (a' : Int), (w ++ [UInt8.ofNat (97 + d).toNat]).map fun b => V.int .u8 b.toNat), ?_, ⟨k - 1, a', w ++ [UInt8.ofNat (97 + d).toNat], by omega, by simp; omega, ht', ?_, rfl⟩, by simp; omega⟩
        · rw [if_pos hk]
          have hd' := hd
          unfold tapeV at hd'
          rw [hd']
          have e : Nat.ble ((List.length (w.map fun b => V.int .u8 b.toNat) + 1) * 1) maxBytes = true := by
            rw [Nat.ble_eq]; simp [maxBytes]; omega
          simp only [Option.bind_some, V.toInt_int, V.nth_zero, V.cell_agg, V.toList_list, V.nth_one, List.length_singleton]
          rw [wrap64 (x := 97 + d) (by omega) (by omega), wrap8 (by omega) (by omega), wrap64 (by omega) (by omega), e]
          have e2 : ((UInt8.ofNat (97 + d).toNat).toNat : Int) = 97 + d := by
            simp; omega
          simp only [cond_true, List.map_append, List.map_cons, List.map_nil, e2]
        · intro b hb
          rcases List.mem_append.1 hb with h | h
          · exact hw b h
          · simp only [List.mem_singleton] at h
            subst h
            have e2 : (UInt8.ofNat (97 + d).toNat).toNat = (97 + d).toNat := by simp; omega
            rw [e2]
            omega
      · right
        rw [if_neg hk]
        exact ⟨_, rfl, k, _, a, w, by omega, hta, hw, rfl⟩)
  obtain ⟨r, hr, k, b, a', w, hwl, ht', hw, rfl⟩ := key (n, vIs l, (a1 : Int), []) ⟨n, a1, [], n0, by simp; omega, ht1, fun b hb => by simp at hb, rfl⟩
  refine ⟨w, a', ht', hw, hwl, f_semigroupmade_Tape_Word_of ?_⟩
  unfold f_semigroupmade_Tape_Word s_semigroupmade_Tape_Word_3L
  unfold tapeV at hnext
  rw [wrap64 (by omega) (by omega), hnext]
  simp only [Option.bind_some, V.toInt_int, V.nth_zero, V.cell_agg, V.toList_list, V.nth_one, hr]
  have : bytesOfV (w.map fun b => V.int .u8 b.toNat) = w := by
    unfold bytesOfV
    rw [List.map_map]
    conv => rhs; rw [← List.map_id w]
    refine List.map_congr_left fun b _ => ?_
    simp
  rw [this]
  rfl
end Go.AM

set_option maxRecDepth 100000
namespace Go.AM
open Go.Proofs
/-! semigroup/starfree.parts -/
noncomputable def s_starfree_parts_1 (C : CallF) (op : Int) {β : Type} (k0 : Int → Option β) (k1 : Option β) : Option β :=
  bif (op : Int) == 5 then
    bif (op : Int) == 5 then
      k0 2
    else
      bif (op : Int) == 8 then
        k0 1
      else
        k1
  else
    bif (op : Int) == 6 then
      bif (op : Int) == 6 then
        k0 2
      else
        bif (op : Int) == 8 then
          k0 1
        else
          k1
    else
      bif (op : Int) == 7 then
        k0 2
      else
        bif (op : Int) == 8 then
          k0 1
        else
          k1

theorem s_starfree_parts_1_eq (C : CallF) (op : Int) {β : Type} (K : Out → St → Option β) :
    execL Try.prog ann C 22 10 0 (codesAt Try.prog 22 [[0], [1, 0, 0], [1, 0, 1]]) (mk [(0, .int .i64 op)] []) K =
      s_starfree_parts_1 C op
        (fun (t20 : Int) => K .ret (mk [(2, .int .i64 t20)] []))
        (K .norm (mk [] [])) := by kernel_rfl

theorem s_starfree_parts_2d_eq (C : CallF)  {β : Type} (K : Out → St → Option β) :
    execL Try.prog ann C 22 10 0 (codesAt Try.prog 22 [[1, 1, 0], [1, 1, 1]]) (mk [] []) K =
      K .ret (mk [(2, .int .i64 0)] []) := by kernel_rfl

theorem s_starfree_parts_3c_eq (C : CallF) (op : Int) {β : Type} (K : Out → St → Option β) :
    execL Try.prog ann C 22 10 0 (codesAt Try.prog 22 [[0], [1, 0, 0], [1, 0, 1], [1, 1, 0], [1, 1, 1]]) (mk [(0, .int .i64 op)] []) K =
      s_starfree_parts_1 C op
        (fun (t_1 : Int) =>
          K .ret (mk [(2, .int .i64 t_1)] []))
        (
          K .ret (mk [(2, .int .i64 0)] [])) := by
  refine Eq.trans (execL_app (P := Try.prog) (A := ann) (C := C) (f := 22) (n := 10) (m := 0) (codesAt Try.prog 22 [[0], [1, 0, 0], [1, 0, 1]]) (codesAt Try.prog 22 [[1, 1, 0], [1, 1, 1]]) (st := mk [(0, .int .i64 op)] []) (K := K)) (Eq.trans (s_starfree_parts_1_eq C op (seqK Try.prog ann C 22 10 0 (codesAt Try.prog 22 [[1, 1, 0], [1, 1, 1]]) K)) ?_)
  · exact Eq.trans (by kernel_rfl) (Eq.trans (congrArg (fun HOLE : Option β => s_starfree_parts_1 C op (fun (t20 : Int) => K .ret (mk [(2, .int .i64 t20)] [])) HOLE) (s_starfree_parts_2d_eq C K)) ((by kernel_rfl)))


theorem f_starfree_parts_all (C : CallF) (op : Int) {β : Type} (K : Out → St → Option β) : execK Try.prog ann C 22 (ntmpsOf Try.prog 22) ([] : List V).length (bodyOf Try.prog 22) (enter [.int .i64 op] []) K =
      s_starfree_parts_1 C op
        (fun (t_1 : Int) =>
          K .ret (mk [(2, .int .i64 t_1)] []))
        (
          K .ret (mk [(2, .int .i64 0)] [])) :=
  Eq.trans (execK_items (by kernel_rfl)) (s_starfree_parts_3c_eq C op K)

noncomputable def f_starfree_parts (C : CallF) (op : Int) : Option (V × List V) :=
  s_starfree_parts_1 C op
    (fun (t_1 : Int) =>
      some (.int .i64 t_1, []))
    (
      some (.int .i64 0, []))

theorem f_starfree_parts_eq (C : CallF) (op : Int) : bodyK Try.prog ann C 22 [.int .i64 op] [] = f_starfree_parts C op :=
  Eq.trans (bodyK_fin (by kernel_rfl)) (Eq.trans (f_starfree_parts_all C op (finK Try.prog ann C 22 [])) (by kernel_rfl))

theorem f_starfree_parts_of {op : Int} {r : V × List V} (h : f_starfree_parts CC op = some r) : CC F_starfree_parts [.int .i64 op] [] = some r :=
  Call_of_body ((bodyK_eq ..).trans ((f_starfree_parts_eq ..).trans h))

end Go.AM

set_option maxRecDepth 100000
namespace Go.AM
open Go.Proofs
/-! semigroup/starfree.validPart -/
noncomputable def s_starfree_validPart_1 (C : CallF) (part : Int) (i : Int) (needed : Bool) {β : Type} (k0 : Bool → Option β) : Option β :=
  bif needed then
    bif decide ((part : Int) ≥ 0) then
      k0 (decide ((part : Int) < i))
    else
      k0 false
  else
    k0 ((part : Int) == 0)

theorem s_starfree_validPart_1_eq (C : CallF) (part : Int) (i : Int) (needed : Bool) {β : Type} (K : Out → St → Option β) :
    execL Try.prog ann C 47 17 0 (codesAt Try.prog 47 [[0], [1, 0, 0], [1, 0, 1], [1, 1, 0], [1, 1, 1]]) (mk [(0, .int .i64 part), (1, .int .i64 i), (2, .bool needed)] []) K =
      s_starfree_validPart_1 C part i needed
        (fun (t60 : Bool) => K .ret (mk [(6, .bool t60)] [])) := by kernel_rfl

theorem f_starfree_validPart_all (C : CallF) (part : Int) (i : Int) (needed : Bool) {β : Type} (K : Out → St → Option β) : execK Try.prog ann C 47 (ntmpsOf Try.prog 47) ([] : List V).length (bodyOf Try.prog 47) (enter [.int .i64 part, .int .i64 i, .bool needed] []) K =
      s_starfree_validPart_1 C part i needed
        (fun (t_2 : Bool) =>
          K .ret (mk [(6, .bool t_2)] [])) :=
  Eq.trans (execK_items (by kernel_rfl)) (s_starfree_validPart_1_eq C part i needed K)

noncomputable def f_starfree_validPart (C : CallF) (part : Int) (i : Int) (needed : Bool) : Option (V × List V) :=
  s_starfree_validPart_1 C part i needed
    (fun (t_1 : Bool) =>
      some (.bool t_1, []))

theorem f_starfree_validPart_eq (C : CallF) (part : Int) (i : Int) (needed : Bool) : bodyK Try.prog ann C 47 [.int .i64 part, .int .i64 i, .bool needed] [] = f_starfree_validPart C part i needed :=
  Eq.trans (bodyK_fin (by kernel_rfl)) (Eq.trans (f_starfree_validPart_all C part i needed (finK Try.prog ann C 47 [])) (by kernel_rfl))

theorem f_starfree_validPart_of {part : Int} {i : Int} {needed : Bool} {r : V × List V} (h : f_starfree_validPart CC part i needed = some r) : CC F_starfree_validPart [.int .i64 part, .int .i64 i, .bool needed] [] = some r :=
  Call_of_body ((bodyK_eq ..).trans ((f_starfree_validPart_eq ..).trans h))

end Go.AM

set_option maxRecDepth 100000
namespace Go.AM
open Go.Proofs
/-! semigroup/starfree.validNode -/
noncomputable def s_starfree_validNode_1 (C : CallF) (n_Op : Int) {β : Type} (k0 : Bool → Option β) : Option β :=
  bif decide ((n_Op : Int) < 1) then
    k0 true
  else
    k0 (decide ((n_Op : Int) > 8))

theorem s_starfree_validNode_1_eq (C : CallF) (n_Op : Int) (n_Letter : Int) (n_A : Int) (n_B : Int) (i : Int) (letters : Int) {β : Type} (K : Out → St → Option β) :
    execL Try.prog ann C 33 48 0 (codesAt Try.prog 33 [[0], [1, 0, 0]]) (mk [(0, .agg [.int .i64 n_Op, .int .i64 n_Letter, .int .i64 n_A, .int .i64 n_B]), (1, .int .i64 i), (2, .int .i64 letters)] []) K =
      s_starfree_validNode_1 C n_Op
        (fun (t140 : Bool) => K .norm (mk [(1, .int .i64 i), (2, .int .i64 letters), (3, .ptr 0 0 0), (14, .bool t140)] [.var [.int .i64 n_Op, .int .i64 n_Letter, .int .i64 n_A, .int .i64 n_B]])) := by kernel_rfl

noncomputable def s_starfree_validNode_2 (C : CallF) (letters : Int) (t14 : Bool) (ns_0 : Int) (ns_1 : Int) {β : Type} (k0 : Bool → Option β) (k1 : Option β) : Option β :=
  bif t14 then
    k0 false
  else
    bif (ns_0 : Int) == 3 then
      bif decide ((ns_1 : Int) < 0) then
        k0 false
      else
        bif decide ((ns_1 : Int) ≥ letters) then
          k0 false
        else
          k1
    else
      bif (ns_1 : Int) != 0 then
        k0 false
      else
        k1

theorem s_starfree_validNode_2_eq (C : CallF) (i : Int) (letters : Int) (t14 : Bool) (ns_0 : Int) (ns_1 : Int) (ns_2 : Int) (ns_3 : Int) {β : Type} (K : Out → St → Option β) :
    execL Try.prog ann C 33 48 0 (codesAt Try.prog 33 [[1, 0, 1], [1, 1, 0, 0], [1, 1, 0, 1]]) (mk [(1, .int .i64 i), (2, .int .i64 letters), (3, .ptr 0 0 0), (14, .bool t14)] [.var [.int .i64 ns_0, .int .i64 ns_1, .int .i64 ns_2, .int .i64 ns_3]]) K =
      s_starfree_validNode_2 C letters t14 ns_0 ns_1
        (fun (t60 : Bool) => K .ret (mk [(6, .bool t60)] []))
        (K .norm (mk [(1, .int .i64 i), (3, .ptr 0 0 0)] [.var [.int .i64 ns_0, .int .i64 ns_1, .int .i64 ns_2, .int .i64 ns_3]])) := by kernel_rfl

noncomputable def s_starfree_validNode_3 (C : CallF) (i : Int) (ns_0 : Int) (ns_2 : Int) (ns_3 : Int) {β : Type} (k0 : Bool → Option β) : Option β :=
  (C F_starfree_parts [.int .i64 ns_0] []).bind fun r17 =>
    (C F_starfree_validPart [.int .i64 ns_2, .int .i64 i, .bool (decide ((r17.1.toInt : Int) ≥ 1))] []).bind fun r18 =>
      bif r18.1.toBool then
        (C F_starfree_parts [.int .i64 ns_0] []).bind fun r19 =>
          (C F_starfree_validPart [.int .i64 ns_3, .int .i64 i, .bool ((r19.1.toInt : Int) == 2)] []).bind fun r20 =>
            k0 r20.1.toBool
      else
        k0 false

theorem s_starfree_validNode_3_eq (C : CallF) (i : Int) (ns_0 : Int) (ns_1 : Int) (ns_2 : Int) (ns_3 : Int) {β : Type} (K : Out → St → Option β) :
    execL Try.prog ann C 33 48 0 (codesAt Try.prog 33 [[1, 1, 1, 0], [1, 1, 1, 1]]) (mk [(1, .int .i64 i), (3, .ptr 0 0 0)] [.var [.int .i64 ns_0, .int .i64 ns_1, .int .i64 ns_2, .int .i64 ns_3]]) K =
      s_starfree_validNode_3 C i ns_0 ns_2 ns_3
        (fun (t60 : Bool) => K .ret (mk [(6, .bool t60)] [])) := by kernel_rfl

theorem s_starfree_validNode_4c_eq (C : CallF) (i : Int) (letters : Int) (t14 : Bool) (ns_0 : Int) (ns_1 : Int) (ns_2 : Int) (ns_3 : Int) {β : Type} (K : Out → St → Option β) :
    execL Try.prog ann C 33 48 0 (codesAt Try.prog 33 [[1, 0, 1], [1, 1, 0, 0], [1, 1, 0, 1], [1, 1, 1, 0], [1, 1, 1, 1]]) (mk [(1, .int .i64 i), (2, .int .i64 letters), (3, .ptr 0 0 0), (14, .bool t14)] [.var [.int .i64 ns_0, .int .i64 ns_1, .int .i64 ns_2, .int .i64 ns_3]]) K =
      s_starfree_validNode_2 C letters t14 ns_0 ns_1
        (fun (t_21 : Bool) =>
          K .ret (mk [(6, .bool t_21)] []))
        (
          s_starfree_validNode_3 C i ns_0 ns_2 ns_3
            (fun (t_22 : Bool) =>
              K .ret (mk [(6, .bool t_22)] []))) := by
  refine Eq.trans (execL_app (P := Try.prog) (A := ann) (C := C) (f := 33) (n := 48) (m := 0) (codesAt Try.prog 33 [[1, 0, 1], [1, 1, 0, 0], [1, 1, 0, 1]]) (codesAt Try.prog 33 [[1, 1, 1, 0], [1, 1, 1, 1]]) (st := mk [(1, .int .i64 i), (2, .int .i64 letters), (3, .ptr 0 0 0), (14, .bool t14)] [.var [.int .i64 ns_0, .int .i64 ns_1, .int .i64 ns_2, .int .i64 ns_3]]) (K := K)) (Eq.trans (s_starfree_validNode_2_eq C i letters t14 ns_0 ns_1 ns_2 ns_3 (seqK Try.prog ann C 33 48 0 (codesAt Try.prog 33 [[1, 1, 1, 0], [1, 1, 1, 1]]) K)) ?_)
  · exact Eq.trans (by kernel_rfl) (Eq.trans (congrArg (fun HOLE : Option β => s_starfree_validNode_2 C letters t14 ns_0 ns_1 (fun (t60 : Bool) => K .ret (mk [(6, .bool t60)] [])) HOLE) (s_starfree_validNode_3_eq C i ns_0 ns_1 ns_2 ns_3 K)) ((by kernel_rfl)))


theorem s_starfree_validNode_5c_eq (C : CallF) (n_Op : Int) (n_Letter : Int) (n_A : Int) (n_B : Int) (i : Int) (letters : Int) {β : Type} (K : Out → St → Option β) :
    execL Try.prog ann C 33 48 0 (codesAt Try.prog 33 [[0], [1, 0, 0], [1, 0, 1], [1, 1, 0, 0], [1, 1, 0, 1], [1, 1, 1, 0], [1, 1, 1, 1]]) (mk [(0, .agg [.int .i64 n_Op, .int .i64 n_Letter, .int .i64 n_A, .int .i64 n_B]), (1, .int .i64 i), (2, .int .i64 letters)] []) K =
      s_starfree_validNode_1 C n_Op
        (fun (t_23 : Bool) =>
          s_starfree_validNode_2 C letters t_23 n_Op n_Letter
            (fun (t_21 : Bool) =>
              K .ret (mk [(6, .bool t_21)] []))
            (
              s_starfree_validNode_3 C i n_Op n_A n_B
                (fun (t_22 : Bool) =>
                  K .ret (mk [(6, .bool t_22)] [])))) := by
  refine Eq.trans (execL_app (P := Try.prog) (A := ann) (C := C) (f := 33) (n := 48) (m := 0) (codesAt Try.prog 33 [[0], [1, 0, 0]]) (codesAt Try.prog 33 [[1, 0, 1], [1, 1, 0, 0], [1, 1, 0, 1], [1, 1, 1, 0], [1, 1, 1, 1]]) (st := mk [(0, .agg [.int .i64 n_Op, .int .i64 n_Letter, .int .i64 n_A, .int .i64 n_B]), (1, .int .i64 i), (2, .int .i64 letters)] []) (K := K)) (Eq.trans (s_starfree_validNode_1_eq C n_Op n_Letter n_A n_B i letters (seqK Try.prog ann C 33 48 0 (codesAt Try.prog 33 [[1, 0, 1], [1, 1, 0, 0], [1, 1, 0, 1], [1, 1, 1, 0], [1, 1, 1, 1]]) K)) ?_)
  · exact Eq.trans (by kernel_rfl) (Eq.trans (congrArg (fun HOLE : Bool → Option β => s_starfree_validNode_1 C n_Op HOLE) (funext fun (t140 : Bool) => s_starfree_validNode_4c_eq C i letters t140 n_Op n_Letter n_A n_B K)) ((by kernel_rfl)))


theorem f_starfree_validNode_all (C : CallF) (n_Op : Int) (n_Letter : Int) (n_A : Int) (n_B : Int) (i : Int) (letters : Int) {β : Type} (K : Out → St → Option β) : execK Try.prog ann C 33 (ntmpsOf Try.prog 33) ([] : List V).length (bodyOf Try.prog 33) (enter [.agg [.int .i64 n_Op, .int .i64 n_Letter, .int .i64 n_A, .int .i64 n_B], .int .i64 i, .int .i64 letters] []) K =
      s_starfree_validNode_1 C n_Op
        (fun (t_23 : Bool) =>
          s_starfree_validNode_2 C letters t_23 n_Op n_Letter
            (fun (t_21 : Bool) =>
              K .ret (mk [(6, .bool t_21)] []))
            (
              s_starfree_validNode_3 C i n_Op n_A n_B
                (fun (t_22 : Bool) =>
                  K .ret (mk [(6, .bool t_22)] [])))) :=
  Eq.trans (execK_items (by kernel_rfl)) (s_starfree_validNode_5c_eq C n_Op n_Letter n_A n_B i letters K)

noncomputable def f_starfree_validNode (C : CallF) (n_Op : Int) (n_Letter : Int) (n_A : Int) (n_B : Int) (i : Int) (letters : Int) : Option (V × List V) :=
  s_starfree_validNode_1 C n_Op
    (fun (t_23 : Bool) =>
      s_starfree_validNode_2 C letters t_23 n_Op n_Letter
        (fun (t_21 : Bool) =>
          some (.bool t_21, []))
        (
          s_starfree_validNode_3 C i n_Op n_A n_B
            (fun (t_22 : Bool) =>
              some (.bool t_22, []))))

theorem f_starfree_validNode_eq (C : CallF) (n_Op : Int) (n_Letter : Int) (n_A : Int) (n_B : Int) (i : Int) (letters : Int) : bodyK Try.prog ann C 33 [.agg [.int .i64 n_Op, .int .i64 n_Letter, .int .i64 n_A, .int .i64 n_B], .int .i64 i, .int .i64 letters] [] = f_starfree_validNode C n_Op n_Letter n_A n_B i letters :=
  Eq.trans (bodyK_fin (by kernel_rfl)) (Eq.trans (f_starfree_validNode_all C n_Op n_Letter n_A n_B i letters (finK Try.prog ann C 33 [])) (by kernel_rfl))

theorem f_starfree_validNode_of {n_Op : Int} {n_Letter : Int} {n_A : Int} {n_B : Int} {i : Int} {letters : Int} {r : V × List V} (h : f_starfree_validNode CC n_Op n_Letter n_A n_B i letters = some r) : CC F_starfree_validNode [.agg [.int .i64 n_Op, .int .i64 n_Letter, .int .i64 n_A, .int .i64 n_B], .int .i64 i, .int .i64 letters] [] = some r :=
  Call_of_body ((bodyK_eq ..).trans ((f_starfree_validNode_eq ..).trans h))

end Go.AM

set_option maxRecDepth 100000
namespace Go.AM
open Go.Proofs
/-! semigroup/starfree.Validate -/
noncomputable def s_starfree_Validate_1 (C : CallF) (letters : Int) {β : Type} (k0 : Bool → Option β) : Option β :=
  bif decide ((letters : Int) < 1) then
    k0 true
  else
    k0 (decide ((letters : Int) > 6))

theorem s_starfree_Validate_1_eq (C : CallF) (g_Nodes : List V) (g_Root : Int) (letters : Int) {β : Type} (K : Out → St → Option β) :
    execL Try.prog ann C 20 42 0 (codesAt Try.prog 20 [[0], [1, 0, 0]]) (mk [(0, .agg [.list T_api_SfNode g_Nodes, .int .i64 g_Root]), (1, .int .i64 letters)] []) K =
      s_starfree_Validate_1 C letters
        (fun (t120 : Bool) => K .norm (mk [(1, .int .i64 letters), (2, .ptr 0 0 0), (12, .bool t120)] [.var [.list T_api_SfNode g_Nodes, .int .i64 g_Root]])) := by kernel_rfl

noncomputable def s_starfree_Validate_2 (C : CallF) (t12 : Bool) (gs_0 : List V) {β : Type} (k0 : Int → Option β) (k1 : Option β) : Option β :=
  bif t12 then
    k0 1
  else
    bif decide (((gs_0.length : Int) : Int) > 20000) then
      k0 3
    else
      k1

theorem s_starfree_Validate_2_eq (C : CallF) (letters : Int) (t12 : Bool) (gs_0 : List V) (gs_1 : Int) {β : Type} (K : Out → St → Option β) :
    execL Try.prog ann C 20 42 0 (codesAt Try.prog 20 [[1, 0, 1], [1, 1, 0, 0], [1, 1, 0, 1], [1, 1, 1, 0, 0]]) (mk [(1, .int .i64 letters), (2, .ptr 0 0 0), (12, .bool t12)] [.var [.list T_api_SfNode gs_0, .int .i64 gs_1]]) K =
      s_starfree_Validate_2 C t12 gs_0
        (fun (t40 : Int) => K .ret (mk [(4, .int .i64 t40)] []))
        (K .norm (mk [(1, .int .i64 letters), (2, .ptr 0 0 0), (18, .list T_api_SfNode gs_0), (19, .int .i64 (gs_0.length : Int)), (20, .int .i64 0)] [.var [.list T_api_SfNode gs_0, .int .i64 gs_1]])) := by kernel_rfl

theorem s_starfree_Validate_3d_eq (C : CallF) (letters : Int) (t18 : List V) (t19 : Int) (t20 : Int) (gs_0 : List V) (gs_1 : Int) {β : Type} (K : Out → St → Option β) :
    execL Try.prog ann C 20 42 0 (codesAt Try.prog 20 [[1, 1, 1, 0, 1, 0, 0, 0], [1, 1, 1, 0, 1, 0, 0, 1, 0], [1, 1, 1, 0, 1, 0, 0, 1, 1, 0], [1, 1, 1, 0, 1, 0, 0, 1, 1, 1]]) (mk [(1, .int .i64 letters), (2, .ptr 0 0 0), (18, .list T_api_SfNode t18), (19, .int .i64 t19), (20, .int .i64 t20)] [.var [.list T_api_SfNode gs_0, .int .i64 gs_1]]) K =
      bif decide ((t20 : Int) < t19) then
        (idx t18 t20).bind fun x3 =>
          (C F_starfree_validNode [.agg [.int .i64 ((x3.cell 0).toInt), .int .i64 ((x3.cell 1).toInt), .int .i64 ((x3.cell 2).toInt), .int .i64 ((x3.cell 3).toInt)], .int .i64 t20, .int .i64 letters] []).bind fun r4 =>
            bif !r4.1.toBool then
              K .ret (mk [(4, .int .i64 22)] [])
            else
              K .norm (mk [(1, .int .i64 letters), (2, .ptr 0 0 0), (18, .list T_api_SfNode t18), (19, .int .i64 t19), (20, .int .i64 (IntKind.wrap .i64 (t20 + 1)))] [.var [.list T_api_SfNode gs_0, .int .i64 gs_1]])
      else
        K (.exit 0) (mk [(1, .int .i64 letters), (2, .ptr 0 0 0), (18, .list T_api_SfNode t18), (19, .int .i64 t19), (20, .int .i64 t20), (21, .bool (decide ((t20 : Int) < t19)))] [.var [.list T_api_SfNode gs_0, .int .i64 gs_1]]) := by kernel_rfl

noncomputable def s_starfree_Validate_4L_step (C : CallF) (letters : Int) (t18 : List V) (t19 : Int) : (Int) → Option ((Int) ⊕ ((Unit) ⊕ (Int × Bool))) := fun t20 =>
  bif decide ((t20 : Int) < t19) then
    (idx t18 t20).bind fun x3 =>
      (C F_starfree_validNode [.agg [.int .i64 ((x3.cell 0).toInt), .int .i64 ((x3.cell 1).toInt), .int .i64 ((x3.cell 2).toInt), .int .i64 ((x3.cell 3).toInt)], .int .i64 t20, .int .i64 letters] []).bind fun r4 =>
        bif !r4.1.toBool then
          some (.inr (.inl ()))
        else
          some (.inl (IntKind.wrap .i64 (t20 + 1)))
  else
    some (.inr (.inr (t20, decide ((t20 : Int) < t19))))

noncomputable def s_starfree_Validate_4L (C : CallF) (letters : Int) (t18 : List V) (t19 : Int) (t20 : Int) {β : Type} (k0 : Option β) (k1 : Int → Bool → Option β) : Option β :=
  (Loop (s_starfree_Validate_4L_step C letters t18 t19) t20).bind fun
    | (.inl ()) => k0
    | (.inr (t201, t211)) => k1 t201 t211

def s_starfree_Validate_4L_dec : Out → St → Option ((Int) ⊕ ((Unit) ⊕ (Int × Bool))) := fun o st => match o with
    | .norm => some (.inl (V.toInt (st.sl 20)))
    | .exit q => bif Nat.beq q 0 then some (.inr (.inr (V.toInt (st.sl 20), V.toBool (st.sl 21)))) else none
    | .ret => some (.inr (.inl ()))

def s_starfree_Validate_4L_hd (letters : Int) (t18 : List V) (t19 : Int) (gs_0 : List V) (gs_1 : Int) : (Int) → St := fun t20 => mk [(1, .int .i64 letters), (2, .ptr 0 0 0), (18, .list T_api_SfNode t18), (19, .int .i64 t19), (20, .int .i64 t20)] [.var [.list T_api_SfNode gs_0, .int .i64 gs_1]]

def s_starfree_Validate_4L_enc (letters : Int) (t18 : List V) (t19 : Int) (gs_0 : List V) (gs_1 : Int) : ((Unit) ⊕ (Int × Bool)) → Out × St := fun
    | (.inl ()) => (.ret, mk [(4, .int .i64 22)] [])
    | (.inr (t201, t211)) => (.exit 0, mk [(1, .int .i64 letters), (2, .ptr 0 0 0), (18, .list T_api_SfNode t18), (19, .int .i64 t19), (20, .int .i64 t201), (21, .bool t211)] [.var [.list T_api_SfNode gs_0, .int .i64 gs_1]])

theorem s_starfree_Validate_4L_eq (C : CallF) (letters : Int) (t18 : List V) (t19 : Int) (t20 : Int) (gs_0 : List V) (gs_1 : Int) {β : Type} (K : Out → St → Option β) :
    execL Try.prog ann C 20 42 0 (codesAt Try.prog 20 [[1, 1, 1, 0, 1, 0]]) (mk [(1, .int .i64 letters), (2, .ptr 0 0 0), (18, .list T_api_SfNode t18), (19, .int .i64 t19), (20, .int .i64 t20)] [.var [.list T_api_SfNode gs_0, .int .i64 gs_1]]) K =
      s_starfree_Validate_4L C letters t18 t19 t20
        (K .ret (mk [(4, .int .i64 22)] []))
        (fun (t201 : Int) (t211 : Bool) => K (.exit 0) (mk [(1, .int .i64 letters), (2, .ptr 0 0 0), (18, .list T_api_SfNode t18), (19, .int .i64 t19), (20, .int .i64 t201), (21, .bool t211)] [.var [.list T_api_SfNode gs_0, .int .i64 gs_1]])) := by
  have hitems : flatC (codeAt [1, 1, 1, 0, 1, 0, 0] (bodyOf Try.prog 20)) = codesAt Try.prog 20 [[1, 1, 1, 0, 1, 0, 0, 0], [1, 1, 1, 0, 1, 0, 0, 1, 0], [1, 1, 1, 0, 1, 0, 0, 1, 1, 0], [1, 1, 1, 0, 1, 0, 0, 1, 1, 1]] := by kernel_rfl
  have hloop : [codeAt [1, 1, 1, 0, 1, 0] (bodyOf Try.prog 20)] = [Code.loop (codeAt [1, 1, 1, 0, 1, 0, 0] (bodyOf Try.prog 20))] := by kernel_rfl
  have h := loopK_eq (P := Try.prog) (A := ann) (C := C) (f := 20) (n := 42) (m := 0) (c := codeAt [1, 1, 1, 0, 1, 0, 0] (bodyOf Try.prog 20)) (s_starfree_Validate_4L_hd letters t18 t19 gs_0 gs_1) (s_starfree_Validate_4L_enc letters t18 t19 gs_0 gs_1) s_starfree_Validate_4L_dec (s_starfree_Validate_4L_step C letters t18 t19)
    (by rintro t20; exact Eq.trans (execK_items hitems) (Eq.trans (s_starfree_Validate_3d_eq C letters t18 t19 t20 gs_0 gs_1 s_starfree_Validate_4L_dec) (by kernel_rfl)))
    (by rintro t20; exact Eq.trans (execK_items hitems) (Eq.trans (s_starfree_Validate_3d_eq C letters t18 t19 t20 gs_0 gs_1 (fun o st => some (o, st))) (Eq.trans (by kernel_rfl) (Eq.trans (s_starfree_Validate_3d_eq C letters t18 t19 t20 gs_0 gs_1 (fun o st => (s_starfree_Validate_4L_dec o st).map (outS (s_starfree_Validate_4L_hd letters t18 t19 gs_0 gs_1) (s_starfree_Validate_4L_enc letters t18 t19 gs_0 gs_1)))).symm (execK_items hitems).symm))))
    (by intro r; rcases r with r | r <;> intro h <;> cases h) t20 K
  refine Eq.trans (congrArg (fun l => execL Try.prog ann C 20 42 0 l (mk [(1, .int .i64 letters), (2, .ptr 0 0 0), (18, .list T_api_SfNode t18), (19, .int .i64 t19), (20, .int .i64 t20)] [.var [.list T_api_SfNode gs_0, .int .i64 gs_1]]) K) hloop) (Eq.trans h ?_)
  · refine congrArg _ (funext fun r => ?_)
    rcases r with r | r <;> rfl

theorem s_starfree_Validate_5b_eq (C : CallF) (letters : Int) (t18 : List V) (t19 : Int) (t20 : Int) (gs_0 : List V) (gs_1 : Int) {β : Type} (K : Out → St → Option β) :
    execL Try.prog ann C 20 42 0 (codesAt Try.prog 20 [[1, 1, 1, 0, 1]]) (mk [(1, .int .i64 letters), (2, .ptr 0 0 0), (18, .list T_api_SfNode t18), (19, .int .i64 t19), (20, .int .i64 t20)] [.var [.list T_api_SfNode gs_0, .int .i64 gs_1]]) K =
      s_starfree_Validate_4L C letters t18 t19 t20
        (
          K .ret (mk [(4, .int .i64 22)] []))
        (fun (t_5 : Int) (t_6 : Bool) =>
          K .norm (mk [(2, .ptr 0 0 0)] [.var [.list T_api_SfNode gs_0, .int .i64 gs_1]])) := Eq.trans (execL_block (P := Try.prog) (A := ann) (C := C) (f := 20) (n := 42) (m := 0) (id := 0) (c := codeAt [1, 1, 1, 0, 1] (bodyOf Try.prog 20)) (d := codeAt [1, 1, 1, 0, 1, 0] (bodyOf Try.prog 20)) (l := codesAt Try.prog 20 [[1, 1, 1, 0, 1, 0]]) (st := mk [(1, .int .i64 letters), (2, .ptr 0 0 0), (18, .list T_api_SfNode t18), (19, .int .i64 t19), (20, .int .i64 t20)] [.var [.list T_api_SfNode gs_0, .int .i64 gs_1]]) (K := K) (by kernel_rfl) (by kernel_rfl)) (Eq.trans (s_starfree_Validate_4L_eq C letters t18 t19 t20 gs_0 gs_1 (blockK ann 20 0 0 K)) (by kernel_rfl))

noncomputable def s_starfree_Validate_6 (C : CallF) (gs_0 : List V) (gs_1 : Int) {β : Type} (k0 : Int → Option β) : Option β :=
  bif decide ((gs_1 : Int) < 0) then
    k0 22
  else
    bif decide ((gs_1 : Int) ≥ (gs_0.length : Int)) then
      k0 22
    else
      k0 0

theorem s_starfree_Validate_6_eq (C : CallF) (gs_0 : List V) (gs_1 : Int) {β : Type} (K : Out → St → Option β) :
    execL Try.prog ann C 20 42 0 (codesAt Try.prog 20 [[1, 1, 1, 1, 0, 0], [1, 1, 1, 1, 0, 1], [1, 1, 1, 1, 1, 0], [1, 1, 1, 1, 1, 1]]) (mk [(2, .ptr 0 0 0)] [.var [.list T_api_SfNode gs_0, .int .i64 gs_1]]) K =
      s_starfree_Validate_6 C gs_0 gs_1
        (fun (t40 : Int) => K .ret (mk [(4, .int .i64 t40)] [])) := by kernel_rfl

theorem s_starfree_Validate_7c_eq (C : CallF) (letters : Int) (t18 : List V) (t19 : Int) (t20 : Int) (gs_0 : List V) (gs_1 : Int) {β : Type} (K : Out → St → Option β) :
    execL Try.prog ann C 20 42 0 (codesAt Try.prog 20 [[1, 1, 1, 0, 1], [1, 1, 1, 1, 0, 0], [1, 1, 1, 1, 0, 1], [1, 1, 1, 1, 1, 0], [1, 1, 1, 1, 1, 1]]) (mk [(1, .int .i64 letters), (2, .ptr 0 0 0), (18, .list T_api_SfNode t18), (19, .int .i64 t19), (20, .int .i64 t20)] [.var [.list T_api_SfNode gs_0, .int .i64 gs_1]]) K =
      s_starfree_Validate_4L C letters t18 t19 t20
        (
          K .ret (mk [(4, .int .i64 22)] []))
        (fun (t_5 : Int) (t_6 : Bool) =>
          s_starfree_Validate_6 C gs_0 gs_1
            (fun (t_7 : Int) =>
              K .ret (mk [(4, .int .i64 t_7)] []))) := by
  refine Eq.trans (execL_app (P := Try.prog) (A := ann) (C := C) (f := 20) (n := 42) (m := 0) (codesAt Try.prog 20 [[1, 1, 1, 0, 1]]) (codesAt Try.prog 20 [[1, 1, 1, 1, 0, 0], [1, 1, 1, 1, 0, 1], [1, 1, 1, 1, 1, 0], [1, 1, 1, 1, 1, 1]]) (st := mk [(1, .int .i64 letters), (2, .ptr 0 0 0), (18, .list T_api_SfNode t18), (19, .int .i64 t19), (20, .int .i64 t20)] [.var [.list T_api_SfNode gs_0, .int .i64 gs_1]]) (K := K)) (Eq.trans (s_starfree_Validate_5b_eq C letters t18 t19 t20 gs_0 gs_1 (seqK Try.prog ann C 20 42 0 (codesAt Try.prog 20 [[1, 1, 1, 1, 0, 0], [1, 1, 1, 1, 0, 1], [1, 1, 1, 1, 1, 0], [1, 1, 1, 1, 1, 1]]) K)) ?_)
  · exact Eq.trans (by kernel_rfl) (Eq.trans (congrArg (fun HOLE : Option β => (s_starfree_Validate_4L C letters t18 t19 t20
        (
          (K .ret (mk [(4, .int .i64 22)] [])))
        (fun (t_5 : Int) (t_6 : Bool) =>
          HOLE))) (s_starfree_Validate_6_eq C gs_0 gs_1 K)) ((by kernel_rfl)))


theorem s_starfree_Validate_8c_eq (C : CallF) (letters : Int) (t12 : Bool) (gs_0 : List V) (gs_1 : Int) {β : Type} (K : Out → St → Option β) :
    execL Try.prog ann C 20 42 0 (codesAt Try.prog 20 [[1, 0, 1], [1, 1, 0, 0], [1, 1, 0, 1], [1, 1, 1, 0, 0], [1, 1, 1, 0, 1], [1, 1, 1, 1, 0, 0], [1, 1, 1, 1, 0, 1], [1, 1, 1, 1, 1, 0], [1, 1, 1, 1, 1, 1]]) (mk [(1, .int .i64 letters), (2, .ptr 0 0 0), (12, .bool t12)] [.var [.list T_api_SfNode gs_0, .int .i64 gs_1]]) K =
      s_starfree_Validate_2 C t12 gs_0
        (fun (t_8 : Int) =>
          K .ret (mk [(4, .int .i64 t_8)] []))
        (
          s_starfree_Validate_4L C letters gs_0 (gs_0.length : Int) 0
            (
              K .ret (mk [(4, .int .i64 22)] []))
            (fun (t_5 : Int) (t_6 : Bool) =>
              s_starfree_Validate_6 C gs_0 gs_1
                (fun (t_7 : Int) =>
                  K .ret (mk [(4, .int .i64 t_7)] [])))) := by
  refine Eq.trans (execL_app (P := Try.prog) (A := ann) (C := C) (f := 20) (n := 42) (m := 0) (codesAt Try.prog 20 [[1, 0, 1], [1, 1, 0, 0], [1, 1, 0, 1], [1, 1, 1, 0, 0]]) (codesAt Try.prog 20 [[1, 1, 1, 0, 1], [1, 1, 1, 1, 0, 0], [1, 1, 1, 1, 0, 1], [1, 1, 1, 1, 1, 0], [1, 1, 1, 1, 1, 1]]) (st := mk [(1, .int .i64 letters), (2, .ptr 0 0 0), (12, .bool t12)] [.var [.list T_api_SfNode gs_0, .int .i64 gs_1]]) (K := K)) (Eq.trans (s_starfree_Validate_2_eq C letters t12 gs_0 gs_1 (seqK Try.prog ann C 20 42 0 (codesAt Try.prog 20 [[1, 1, 1, 0, 1], [1, 1, 1, 1, 0, 0], [1, 1, 1, 1, 0, 1], [1, 1, 1, 1, 1, 0], [1, 1, 1, 1, 1, 1]]) K)) ?_)
  · exact Eq.trans (by kernel_rfl) (Eq.trans (congrArg (fun HOLE : Option β => s_starfree_Validate_2 C t12 gs_0 (fun (t40 : Int) => K .ret (mk [(4, .int .i64 t40)] [])) HOLE) (s_starfree_Validate_7c_eq C letters gs_0 (gs_0.length : Int) 0 gs_0 gs_1 K)) ((by kernel_rfl)))


theorem s_starfree_Validate_9c_eq (C : CallF) (g_Nodes : List V) (g_Root : Int) (letters : Int) {β : Type} (K : Out → St → Option β) :
    execL Try.prog ann C 20 42 0 (codesAt Try.prog 20 [[0], [1, 0, 0], [1, 0, 1], [1, 1, 0, 0], [1, 1, 0, 1], [1, 1, 1, 0, 0], [1, 1, 1, 0, 1], [1, 1, 1, 1, 0, 0], [1, 1, 1, 1, 0, 1], [1, 1, 1, 1, 1, 0], [1, 1, 1, 1, 1, 1]]) (mk [(0, .agg [.list T_api_SfNode g_Nodes, .int .i64 g_Root]), (1, .int .i64 letters)] []) K =
      s_starfree_Validate_1 C letters
        (fun (t_9 : Bool) =>
          s_starfree_Validate_2 C t_9 g_Nodes
            (fun (t_8 : Int) =>
              K .ret (mk [(4, .int .i64 t_8)] []))
            (
              s_starfree_Validate_4L C letters g_Nodes (g_Nodes.length : Int) 0
                (
                  K .ret (mk [(4, .int .i64 22)] []))
                (fun (t_5 : Int) (t_6 : Bool) =>
                  s_starfree_Validate_6 C g_Nodes g_Root
                    (fun (t_7 : Int) =>
                      K .ret (mk [(4, .int .i64 t_7)] []))))) := by
  refine Eq.trans (execL_app (P := Try.prog) (A := ann) (C := C) (f := 20) (n := 42) (m := 0) (codesAt Try.prog 20 [[0], [1, 0, 0]]) (codesAt Try.prog 20 [[1, 0, 1], [1, 1, 0, 0], [1, 1, 0, 1], [1, 1, 1, 0, 0], [1, 1, 1, 0, 1], [1, 1, 1, 1, 0, 0], [1, 1, 1, 1, 0, 1], [1, 1, 1, 1, 1, 0], [1, 1, 1, 1, 1, 1]]) (st := mk [(0, .agg [.list T_api_SfNode g_Nodes, .int .i64 g_Root]), (1, .int .i64 letters)] []) (K := K)) (Eq.trans (s_starfree_Validate_1_eq C g_Nodes g_Root letters (seqK Try.prog ann C 20 42 0 (codesAt Try.prog 20 [[1, 0, 1], [1, 1, 0, 0], [1, 1, 0, 1], [1, 1, 1, 0, 0], [1, 1, 1, 0, 1], [1, 1, 1, 1, 0, 0], [1, 1, 1, 1, 0, 1], [1, 1, 1, 1, 1, 0], [1, 1, 1, 1, 1, 1]]) K)) ?_)
  · exact Eq.trans (by kernel_rfl) (Eq.trans (congrArg (fun HOLE : Bool → Option β => s_starfree_Validate_1 C letters HOLE) (funext fun (t120 : Bool) => s_starfree_Validate_8c_eq C letters t120 g_Nodes g_Root K)) ((by kernel_rfl)))


theorem f_starfree_Validate_all (C : CallF) (g_Nodes : List V) (g_Root : Int) (letters : Int) {β : Type} (K : Out → St → Option β) : execK Try.prog ann C 20 (ntmpsOf Try.prog 20) ([] : List V).length (bodyOf Try.prog 20) (enter [.agg [.list T_api_SfNode g_Nodes, .int .i64 g_Root], .int .i64 letters] []) K =
      s_starfree_Validate_1 C letters
        (fun (t_9 : Bool) =>
          s_starfree_Validate_2 C t_9 g_Nodes
            (fun (t_8 : Int) =>
              K .ret (mk [(4, .int .i64 t_8)] []))
            (
              s_starfree_Validate_4L C letters g_Nodes (g_Nodes.length : Int) 0
                (
                  K .ret (mk [(4, .int .i64 22)] []))
                (fun (t_5 : Int) (t_6 : Bool) =>
                  s_starfree_Validate_6 C g_Nodes g_Root
                    (fun (t_7 : Int) =>
                      K .ret (mk [(4, .int .i64 t_7)] []))))) :=
  Eq.trans (execK_items (by kernel_rfl)) (s_starfree_Validate_9c_eq C g_Nodes g_Root letters K)

noncomputable def f_starfree_Validate (C : CallF) (g_Nodes : List V) (g_Root : Int) (letters : Int) : Option (V × List V) :=
  s_starfree_Validate_1 C letters
    (fun (t_9 : Bool) =>
      s_starfree_Validate_2 C t_9 g_Nodes
        (fun (t_8 : Int) =>
          some (.int .i64 t_8, []))
        (
          s_starfree_Validate_4L C letters g_Nodes (g_Nodes.length : Int) 0
            (
              some (.int .i64 22, []))
            (fun (t_5 : Int) (t_6 : Bool) =>
              s_starfree_Validate_6 C g_Nodes g_Root
                (fun (t_7 : Int) =>
                  some (.int .i64 t_7, [])))))

theorem f_starfree_Validate_eq (C : CallF) (g_Nodes : List V) (g_Root : Int) (letters : Int) : bodyK Try.prog ann C 20 [.agg [.list T_api_SfNode g_Nodes, .int .i64 g_Root], .int .i64 letters] [] = f_starfree_Validate C g_Nodes g_Root letters :=
  Eq.trans (bodyK_fin (by kernel_rfl)) (Eq.trans (f_starfree_Validate_all C g_Nodes g_Root letters (finK Try.prog ann C 20 [])) (by kernel_rfl))

theorem f_starfree_Validate_of {g_Nodes : List V} {g_Root : Int} {letters : Int} {r : V × List V} (h : f_starfree_Validate CC g_Nodes g_Root letters = some r) : CC F_starfree_Validate [.agg [.list T_api_SfNode g_Nodes, .int .i64 g_Root], .int .i64 letters] [] = some r :=
  Call_of_body ((bodyK_eq ..).trans ((f_starfree_Validate_eq ..).trans h))

end Go.AM

set_option maxRecDepth 100000
namespace Go.AM
open Go.Proofs
/-! semigroup/word.Valid -/
noncomputable def s_word_Valid_1 (C : CallF) (w : List UInt8) (letters : Int) {β : Type} (k0 : Bool → Option β) : Option β :=
  bif decide ((letters : Int) < 1) then
    k0 true
  else
    bif decide ((letters : Int) > 6) then
      k0 true
    else
      k0 (decide (((w.length : Int) : Int) > 2048))

theorem s_word_Valid_1_eq (C : CallF) (w : List UInt8) (letters : Int) {β : Type} (K : Out → St → Option β) :
    execL Try.prog ann C 23 36 0 (codesAt Try.prog 23 [[0], [1, 0, 0]]) (mk [(0, .str w), (1, .int .i64 letters)] []) K =
      s_word_Valid_1 C w letters
        (fun (t160 : Bool) => K .norm (mk [(0, .str w), (1, .int .i64 letters), (16, .bool t160)] [])) := by kernel_rfl

theorem s_word_Valid_2d_eq (C : CallF) (w : List UInt8) (letters : Int) (t16 : Bool) {β : Type} (K : Out → St → Option β) :
    execL Try.prog ann C 23 36 0 (codesAt Try.prog 23 [[1, 0, 1], [1, 1, 0, 0]]) (mk [(0, .str w), (1, .int .i64 letters), (16, .bool t16)] []) K =
      bif t16 then
        K .ret (mk [(4, .bool false)] [])
      else
        K .norm (mk [(0, .str w), (1, .int .i64 letters), (18, .int .i64 (w.length : Int)), (19, .int .i64 0)] []) := by kernel_rfl

noncomputable def s_word_Valid_3 (C : CallF) (w : List UInt8) (letters : Int) (t18 : Int) (t19 : Int) {β : Type} (k0 : Bool → Option β) (k1 : Option β) (k2 : Option β) : Option β :=
  bif decide ((t19 : Int) < t18) then
    (bif decide (0 ≤ t19) then (w[(t19 : Int).toNat]?).map fun b => V.int .u8 b.toNat else none).bind fun x3 =>
      bif decide ((x3.toInt : Int) < 97) then
        k0 false
      else
        (bif decide (0 ≤ t19) then (w[(t19 : Int).toNat]?).map fun b => V.int .u8 b.toNat else none).bind fun x4 =>
          bif decide (((IntKind.wrap .i64 (IntKind.wrap .u8 (x4.toInt - 97))) : Int) ≥ letters) then
            k0 false
          else
            k1
  else
    k2

theorem s_word_Valid_3_eq (C : CallF) (w : List UInt8) (letters : Int) (t18 : Int) (t19 : Int) {β : Type} (K : Out → St → Option β) :
    execL Try.prog ann C 23 36 0 (codesAt Try.prog 23 [[1, 1, 0, 1, 0, 0, 0], [1, 1, 0, 1, 0, 0, 1, 0], [1, 1, 0, 1, 0, 0, 1, 1, 0], [1, 1, 0, 1, 0, 0, 1, 1, 1]]) (mk [(0, .str w), (1, .int .i64 letters), (18, .int .i64 t18), (19, .int .i64 t19)] []) K =
      s_word_Valid_3 C w letters t18 t19
        (fun (t40 : Bool) => K .ret (mk [(4, .bool t40)] []))
        (K .norm (mk [(0, .str w), (1, .int .i64 letters), (18, .int .i64 t18), (19, .int .i64 (IntKind.wrap .i64 (t19 + 1)))] []))
        (K (.exit 0) (mk [(0, .str w), (1, .int .i64 letters), (18, .int .i64 t18), (19, .int .i64 t19), (20, .bool (decide ((t19 : Int) < t18)))] [])) := by kernel_rfl

noncomputable def s_word_Valid_4L_step (C : CallF) (w : List UInt8) (letters : Int) (t18 : Int) : (Int) → Option ((Int) ⊕ ((Bool) ⊕ (Int × Bool))) := fun t19 =>
  s_word_Valid_3 C w letters t18 t19
    (fun (t_5 : Bool) =>
      some (.inr (.inl t_5)))
    (
      some (.inl (IntKind.wrap .i64 (t19 + 1))))
    (
      some (.inr (.inr (t19, decide ((t19 : Int) < t18)))))

noncomputable def s_word_Valid_4L (C : CallF) (w : List UInt8) (letters : Int) (t18 : Int) (t19 : Int) {β : Type} (k0 : Bool → Option β) (k1 : Int → Bool → Option β) : Option β :=
  (Loop (s_word_Valid_4L_step C w letters t18) t19).bind fun
    | (.inl t40) => k0 t40
    | (.inr (t191, t201)) => k1 t191 t201

def s_word_Valid_4L_dec : Out → St → Option ((Int) ⊕ ((Bool) ⊕ (Int × Bool))) := fun o st => match o with
    | .norm => some (.inl (V.toInt (st.sl 19)))
    | .exit q => bif Nat.beq q 0 then some (.inr (.inr (V.toInt (st.sl 19), V.toBool (st.sl 20)))) else none
    | .ret => some (.inr (.inl (V.toBool (st.sl 4))))

def s_word_Valid_4L_hd (w : List UInt8) (letters : Int) (t18 : Int) : (Int) → St := fun t19 => mk [(0, .str w), (1, .int .i64 letters), (18, .int .i64 t18), (19, .int .i64 t19)] []

def s_word_Valid_4L_enc (w : List UInt8) (letters : Int) (t18 : Int) : ((Bool) ⊕ (Int × Bool)) → Out × St := fun
    | (.inl t40) => (.ret, mk [(4, .bool t40)] [])
    | (.inr (t191, t201)) => (.exit 0, mk [(0, .str w), (1, .int .i64 letters), (18, .int .i64 t18), (19, .int .i64 t191), (20, .bool t201)] [])

theorem s_word_Valid_4L_eq (C : CallF) (w : List UInt8) (letters : Int) (t18 : Int) (t19 : Int) {β : Type} (K : Out → St → Option β) :
    execL Try.prog ann C 23 36 0 (codesAt Try.prog 23 [[1, 1, 0, 1, 0]]) (mk [(0, .str w), (1, .int .i64 letters), (18, .int .i64 t18), (19, .int .i64 t19)] []) K =
      s_word_Valid_4L C w letters t18 t19
        (fun (t40 : Bool) => K .ret (mk [(4, .bool t40)] []))
        (fun (t191 : Int) (t201 : Bool) => K (.exit 0) (mk [(0, .str w), (1, .int .i64 letters), (18, .int .i64 t18), (19, .int .i64 t191), (20, .bool t201)] [])) := by
  have hitems : flatC (codeAt [1, 1, 0, 1, 0, 0] (bodyOf Try.prog 23)) = codesAt Try.prog 23 [[1, 1, 0, 1, 0, 0, 0], [1, 1, 0, 1, 0, 0, 1, 0], [1, 1, 0, 1, 0, 0, 1, 1, 0], [1, 1, 0, 1, 0, 0, 1, 1, 1]] := by kernel_rfl
  have hloop : [codeAt [1, 1, 0, 1, 0] (bodyOf Try.prog 23)] = [Code.loop (codeAt [1, 1, 0, 1, 0, 0] (bodyOf Try.prog 23))] := by kernel_rfl
  have h := loopK_eq (P := Try.prog) (A := ann) (C := C) (f := 23) (n := 36) (m := 0) (c := codeAt [1, 1, 0, 1, 0, 0] (bodyOf Try.prog 23)) (s_word_Valid_4L_hd w letters t18) (s_word_Valid_4L_enc w letters t18) s_word_Valid_4L_dec (s_word_Valid_4L_step C w letters t18)
    (by rintro t19; exact Eq.trans (execK_items hitems) (Eq.trans (s_word_Valid_3_eq C w letters t18 t19 s_word_Valid_4L_dec) (by kernel_rfl)))
    (by rintro t19; exact Eq.trans (execK_items hitems) (Eq.trans (s_word_Valid_3_eq C w letters t18 t19 (fun o st => some (o, st))) (Eq.trans (by kernel_rfl) (Eq.trans (s_word_Valid_3_eq C w letters t18 t19 (fun o st => (s_word_Valid_4L_dec o st).map (outS (s_word_Valid_4L_hd w letters t18) (s_word_Valid_4L_enc w letters t18)))).symm (execK_items hitems).symm))))
    (by intro r; rcases r with r | r <;> intro h <;> cases h) t19 K
  refine Eq.trans (congrArg (fun l => execL Try.prog ann C 23 36 0 l (mk [(0, .str w), (1, .int .i64 letters), (18, .int .i64 t18), (19, .int .i64 t19)] []) K) hloop) (Eq.trans h ?_)
  · refine congrArg _ (funext fun r => ?_)
    rcases r with r | r <;> rfl

theorem s_word_Valid_5b_eq (C : CallF) (w : List UInt8) (letters : Int) (t18 : Int) (t19 : Int) {β : Type} (K : Out → St → Option β) :
    execL Try.prog ann C 23 36 0 (codesAt Try.prog 23 [[1, 1, 0, 1]]) (mk [(0, .str w), (1, .int .i64 letters), (18, .int .i64 t18), (19, .int .i64 t19)] []) K =
      s_word_Valid_4L C w letters t18 t19
        (fun (t_6 : Bool) =>
          K .ret (mk [(4, .bool t_6)] []))
        (fun (t_7 : Int) (t_8 : Bool) =>
          K .norm (mk [] [])) := Eq.trans (execL_block (P := Try.prog) (A := ann) (C := C) (f := 23) (n := 36) (m := 0) (id := 0) (c := codeAt [1, 1, 0, 1] (bodyOf Try.prog 23)) (d := codeAt [1, 1, 0, 1, 0] (bodyOf Try.prog 23)) (l := codesAt Try.prog 23 [[1, 1, 0, 1, 0]]) (st := mk [(0, .str w), (1, .int .i64 letters), (18, .int .i64 t18), (19, .int .i64 t19)] []) (K := K) (by kernel_rfl) (by kernel_rfl)) (Eq.trans (s_word_Valid_4L_eq C w letters t18 t19 (blockK ann 23 0 0 K)) (by kernel_rfl))

theorem s_word_Valid_6d_eq (C : CallF)  {β : Type} (K : Out → St → Option β) :
    execL Try.prog ann C 23 36 0 (codesAt Try.prog 23 [[1, 1, 1, 0], [1, 1, 1, 1]]) (mk [] []) K =
      K .ret (mk [(4, .bool true)] []) := by kernel_rfl

theorem s_word_Valid_7c_eq (C : CallF) (w : List UInt8) (letters : Int) (t18 : Int) (t19 : Int) {β : Type} (K : Out → St → Option β) :
    execL Try.prog ann C 23 36 0 (codesAt Try.prog 23 [[1, 1, 0, 1], [1, 1, 1, 0], [1, 1, 1, 1]]) (mk [(0, .str w), (1, .int .i64 letters), (18, .int .i64 t18), (19, .int .i64 t19)] []) K =
      s_word_Valid_4L C w letters t18 t19
        (fun (t_6 : Bool) =>
          K .ret (mk [(4, .bool t_6)] []))
        (fun (t_7 : Int) (t_8 : Bool) =>
          K .ret (mk [(4, .bool true)] [])) := by
  refine Eq.trans (execL_app (P := Try.prog) (A := ann) (C := C) (f := 23) (n := 36) (m := 0) (codesAt Try.prog 23 [[1, 1, 0, 1]]) (codesAt Try.prog 23 [[1, 1, 1, 0], [1, 1, 1, 1]]) (st := mk [(0, .str w), (1, .int .i64 letters), (18, .int .i64 t18), (19, .int .i64 t19)] []) (K := K)) (Eq.trans (s_word_Valid_5b_eq C w letters t18 t19 (seqK Try.prog ann C 23 36 0 (codesAt Try.prog 23 [[1, 1, 1, 0], [1, 1, 1, 1]]) K)) ?_)
  · exact Eq.trans (by kernel_rfl) (Eq.trans (congrArg (fun HOLE : Option β => (s_word_Valid_4L C w letters t18 t19
        (fun (t_6 : Bool) =>
          (fun (t40 : Bool) => K .ret (mk [(4, .bool t40)] [])) t_6)
        (fun (t_7 : Int) (t_8 : Bool) =>
          HOLE))) (s_word_Valid_6d_eq C K)) ((by kernel_rfl)))


theorem s_word_Valid_8c_eq (C : CallF) (w : List UInt8) (letters : Int) (t16 : Bool) {β : Type} (K : Out → St → Option β) :
    execL Try.prog ann C 23 36 0 (codesAt Try.prog 23 [[1, 0, 1], [1, 1, 0, 0], [1, 1, 0, 1], [1, 1, 1, 0], [1, 1, 1, 1]]) (mk [(0, .str w), (1, .int .i64 letters), (16, .bool t16)] []) K =
      bif t16 then
        K .ret (mk [(4, .bool false)] [])
      else
        s_word_Valid_4L C w letters (w.length : Int) 0
          (fun (t_6 : Bool) =>
            K .ret (mk [(4, .bool t_6)] []))
          (fun (t_7 : Int) (t_8 : Bool) =>
            K .ret (mk [(4, .bool true)] [])) := by
  refine Eq.trans (execL_app (P := Try.prog) (A := ann) (C := C) (f := 23) (n := 36) (m := 0) (codesAt Try.prog 23 [[1, 0, 1], [1, 1, 0, 0]]) (codesAt Try.prog 23 [[1, 1, 0, 1], [1, 1, 1, 0], [1, 1, 1, 1]]) (st := mk [(0, .str w), (1, .int .i64 letters), (16, .bool t16)] []) (K := K)) (Eq.trans (s_word_Valid_2d_eq C w letters t16 (seqK Try.prog ann C 23 36 0 (codesAt Try.prog 23 [[1, 1, 0, 1], [1, 1, 1, 0], [1, 1, 1, 1]]) K)) ?_)
  · exact Eq.trans (by kernel_rfl) (Eq.trans (congrArg (fun HOLE : Option β => (bif t16 then
        (fun (t40 : Bool) => K .ret (mk [(4, .bool t40)] [])) false
      else
        HOLE)) (s_word_Valid_7c_eq C w letters (w.length : Int) 0 K)) ((by kernel_rfl)))


theorem s_word_Valid_9c_eq (C : CallF) (w : List UInt8) (letters : Int) {β : Type} (K : Out → St → Option β) :
    execL Try.prog ann C 23 36 0 (codesAt Try.prog 23 [[0], [1, 0, 0], [1, 0, 1], [1, 1, 0, 0], [1, 1, 0, 1], [1, 1, 1, 0], [1, 1, 1, 1]]) (mk [(0, .str w), (1, .int .i64 letters)] []) K =
      s_word_Valid_1 C w letters
        (fun (t_9 : Bool) =>
          bif t_9 then
            K .ret (mk [(4, .bool false)] [])
          else
            s_word_Valid_4L C w letters (w.length : Int) 0
              (fun (t_6 : Bool) =>
                K .ret (mk [(4, .bool t_6)] []))
              (fun (t_7 : Int) (t_8 : Bool) =>
                K .ret (mk [(4, .bool true)] []))) := by
  refine Eq.trans (execL_app (P := Try.prog) (A := ann) (C := C) (f := 23) (n := 36) (m := 0) (codesAt Try.prog 23 [[0], [1, 0, 0]]) (codesAt Try.prog 23 [[1, 0, 1], [1, 1, 0, 0], [1, 1, 0, 1], [1, 1, 1, 0], [1, 1, 1, 1]]) (st := mk [(0, .str w), (1, .int .i64 letters)] []) (K := K)) (Eq.trans (s_word_Valid_1_eq C w letters (seqK Try.prog ann C 23 36 0 (codesAt Try.prog 23 [[1, 0, 1], [1, 1, 0, 0], [1, 1, 0, 1], [1, 1, 1, 0], [1, 1, 1, 1]]) K)) ?_)
  · exact Eq.trans (by kernel_rfl) (Eq.trans (congrArg (fun HOLE : Bool → Option β => s_word_Valid_1 C w letters HOLE) (funext fun (t160 : Bool) => s_word_Valid_8c_eq C w letters t160 K)) ((by kernel_rfl)))


theorem f_word_Valid_all (C : CallF) (w : List UInt8) (letters : Int) {β : Type} (K : Out → St → Option β) : execK Try.prog ann C 23 (ntmpsOf Try.prog 23) ([] : List V).length (bodyOf Try.prog 23) (enter [.str w, .int .i64 letters] []) K =
      s_word_Valid_1 C w letters
        (fun (t_9 : Bool) =>
          bif t_9 then
            K .ret (mk [(4, .bool false)] [])
          else
            s_word_Valid_4L C w letters (w.length : Int) 0
              (fun (t_6 : Bool) =>
                K .ret (mk [(4, .bool t_6)] []))
              (fun (t_7 : Int) (t_8 : Bool) =>
                K .ret (mk [(4, .bool true)] []))) :=
  Eq.trans (execK_items (by kernel_rfl)) (s_word_Valid_9c_eq C w letters K)

noncomputable def f_word_Valid (C : CallF) (w : List UInt8) (letters : Int) : Option (V × List V) :=
  s_word_Valid_1 C w letters
    (fun (t_9 : Bool) =>
      bif t_9 then
        some (.bool false, [])
      else
        s_word_Valid_4L C w letters (w.length : Int) 0
          (fun (t_6 : Bool) =>
            some (.bool t_6, []))
          (fun (t_7 : Int) (t_8 : Bool) =>
            some (.bool true, [])))

theorem f_word_Valid_eq (C : CallF) (w : List UInt8) (letters : Int) : bodyK Try.prog ann C 23 [.str w, .int .i64 letters] [] = f_word_Valid C w letters :=
  Eq.trans (bodyK_fin (by kernel_rfl)) (Eq.trans (f_word_Valid_all C w letters (finK Try.prog ann C 23 [])) (by kernel_rfl))

theorem f_word_Valid_of {w : List UInt8} {letters : Int} {r : V × List V} (h : f_word_Valid CC w letters = some r) : CC F_word_Valid [.str w, .int .i64 letters] [] = some r :=
  Call_of_body ((bodyK_eq ..).trans ((f_word_Valid_eq ..).trans h))

end Go.AM

set_option maxRecDepth 100000
namespace Go.AM
open Go.Proofs
/-! (*semigroup/semigroupmade.Tape).Graph -/
theorem s_semigroupmade_Tape_Graph_1d_eq (C : CallF) (t_L : List V) (t_At : Int) (letters : Int) (most : Int) {β : Type} (K : Out → St → Option β) :
    execL Try.prog ann C 9 67 1 (codesAt Try.prog 9 [[0], [1, 0], [1, 1, 0], [1, 1, 1, 0, 0]]) (mk [(0, .ptr 0 0 0), (1, .int .i64 letters), (2, .int .i64 most)] [.var [.list T_int t_L, .int .i64 t_At]]) K =
      (C F_semigroupmade_Tape_Next [.ptr 0 0 0, .int .i64 most] [.agg [.list T_int t_L, .int .i64 t_At]]).bind fun r2 =>
        K .norm (mk [(0, .ptr 0 0 0), (1, .int .i64 letters), (6, .ptr 1 0 0), (7, .ptr 2 0 0), (8, .int .i64 (IntKind.wrap .i64 (1 + r2.1.toInt))), (9, .int .i64 0)] [.var [.list T_int (((V.nth r2.2 0).cell 0).toList), .int .i64 (((V.nth r2.2 0).cell 1).toInt)], .var [.whole T_api_SfNode 3, .int .i64 0], .var [.whole T_api_SfNode 4, .int .i64 0], .arr T_api_SfNode ([] : List V) false, .arr T_api_SfNode ([] : List V) false]) := by kernel_rfl

theorem s_semigroupmade_Tape_Graph_2d_eq (C : CallF) (letters : Int) (n : Int) (i : Int) (ts_0 : List V) (ts_1 : Int) (t6s_1 : Int) (gs_1 : Int) (t6_0s : List V) (g_0s : List V) {β : Type} (K : Out → St → Option β) :
    execL Try.prog ann C 9 67 1 (codesAt Try.prog 9 [[1, 1, 1, 0, 1, 0, 0, 0, 0], [1, 1, 1, 0, 1, 0, 0, 0, 1]]) (mk [(0, .ptr 0 0 0), (1, .int .i64 letters), (6, .ptr 1 0 0), (7, .ptr 2 0 0), (8, .int .i64 n), (9, .int .i64 i)] [.var [.list T_int ts_0, .int .i64 ts_1], .var [.whole T_api_SfNode 3, .int .i64 t6s_1], .var [.whole T_api_SfNode 4, .int .i64 gs_1], .arr T_api_SfNode t6_0s false, .arr T_api_SfNode g_0s false]) K =
      bif decide ((i : Int) < n) then
        K .norm (mk [(0, .ptr 0 0 0), (1, .int .i64 letters), (6, .ptr 1 0 0), (7, .ptr 2 0 0), (8, .int .i64 n), (9, .int .i64 i)] [.var [.list T_int ts_0, .int .i64 ts_1], .var [.whole T_api_SfNode 3, .int .i64 t6s_1], .var [.whole T_api_SfNode 4, .int .i64 gs_1], .arr T_api_SfNode t6_0s false, .arr T_api_SfNode g_0s false])
      else
        K (.exit 0) (mk [(0, .ptr 0 0 0), (1, .int .i64 letters), (6, .ptr 1 0 0), (7, .ptr 2 0 0), (8, .int .i64 n), (9, .int .i64 i), (17, .bool (decide ((i : Int) < n)))] [.var [.list T_int ts_0, .int .i64 ts_1], .var [.whole T_api_SfNode 3, .int .i64 t6s_1], .var [.whole T_api_SfNode 4, .int .i64 gs_1], .arr T_api_SfNode t6_0s false, .arr T_api_SfNode g_0s false]) := by kernel_rfl

noncomputable def s_semigroupmade_Tape_Graph_3 (C : CallF) (i : Int) (ts_0 : List V) (ts_1 : Int) {β : Type} (k0 : (List V) → Int → Int → Option β) : Option β :=
  (C F_semigroupmade_Tape_Next [.ptr 0 0 0, .int .i64 8] [.agg [.list T_int ts_0, .int .i64 ts_1]]).bind fun r41 =>
    bif (i : Int) == 0 then
      (C F_semigroupmade_Mod [.int .i64 (IntKind.wrap .i64 (1 + r41.1.toInt)), .int .i64 4] []).bind fun r42 =>
        k0 (((V.nth r41.2 0).cell 0).toList) (((V.nth r41.2 0).cell 1).toInt) (IntKind.wrap .i64 (1 + r42.1.toInt))
    else
      k0 (((V.nth r41.2 0).cell 0).toList) (((V.nth r41.2 0).cell 1).toInt) (IntKind.wrap .i64 (1 + r41.1.toInt))

theorem s_semigroupmade_Tape_Graph_3_eq (C : CallF) (letters : Int) (n : Int) (i : Int) (ts_0 : List V) (ts_1 : Int) (t6s_1 : Int) (gs_1 : Int) (t6_0s : List V) (g_0s : List V) {β : Type} (K : Out → St → Option β) :
    execL Try.prog ann C 9 67 1 (codesAt Try.prog 9 [[1, 1, 1, 0, 1, 0, 0, 1, 0, 0, 0], [1, 1, 1, 0, 1, 0, 0, 1, 0, 0, 1, 0, 0], [1, 1, 1, 0, 1, 0, 0, 1, 0, 0, 1, 0, 1]]) (mk [(0, .ptr 0 0 0), (1, .int .i64 letters), (6, .ptr 1 0 0), (7, .ptr 2 0 0), (8, .int .i64 n), (9, .int .i64 i)] [.var [.list T_int ts_0, .int .i64 ts_1], .var [.whole T_api_SfNode 3, .int .i64 t6s_1], .var [.whole T_api_SfNode 4, .int .i64 gs_1], .arr T_api_SfNode t6_0s false, .arr T_api_SfNode g_0s false]) K =
      s_semigroupmade_Tape_Graph_3 C i ts_0 ts_1
        (fun (ts_00 : List V) (ts_10 : Int) (xs_00 : Int) => K .norm (mk [(0, .ptr 0 0 0), (1, .int .i64 letters), (6, .ptr 1 0 0), (7, .ptr 2 0 0), (8, .int .i64 n), (9, .int .i64 i), (10, .ptr 3 0 0)] [.var [.list T_int ts_00, .int .i64 ts_10], .var [.whole T_api_SfNode 4, .int .i64 t6s_1], .var [.whole T_api_SfNode 5, .int .i64 gs_1], .var [.int .i64 xs_00, .int .i64 0, .int .i64 0, .int .i64 0], .arr T_api_SfNode t6_0s false, .arr T_api_SfNode g_0s false])) := by kernel_rfl

noncomputable def s_semigroupmade_Tape_Graph_4 (C : CallF) (letters : Int) (ts_0 : List V) (ts_1 : Int) (xs_0 : Int) (xs_1 : Int) {β : Type} (k0 : (List V) → Int → Int → Option β) : Option β :=
  bif (xs_0 : Int) == 3 then
    (C F_semigroupmade_Tape_Next [.ptr 0 0 0, .int .i64 letters] [.agg [.list T_int ts_0, .int .i64 ts_1]]).bind fun r51 =>
      k0 (((V.nth r51.2 0).cell 0).toList) (((V.nth r51.2 0).cell 1).toInt) r51.1.toInt
  else
    k0 ts_0 ts_1 xs_1

theorem s_semigroupmade_Tape_Graph_4_eq (C : CallF) (letters : Int) (n : Int) (i : Int) (ts_0 : List V) (ts_1 : Int) (t6s_1 : Int) (gs_1 : Int) (xs_0 : Int) (xs_1 : Int) (xs_2 : Int) (xs_3 : Int) (t6_0s : List V) (g_0s : List V) {β : Type} (K : Out → St → Option β) :
    execL Try.prog ann C 9 67 1 (codesAt Try.prog 9 [[1, 1, 1, 0, 1, 0, 0, 1, 0, 0, 1, 1, 0, 0], [1, 1, 1, 0, 1, 0, 0, 1, 0, 0, 1, 1, 0, 1]]) (mk [(0, .ptr 0 0 0), (1, .int .i64 letters), (6, .ptr 1 0 0), (7, .ptr 2 0 0), (8, .int .i64 n), (9, .int .i64 i), (10, .ptr 3 0 0)] [.var [.list T_int ts_0, .int .i64 ts_1], .var [.whole T_api_SfNode 4, .int .i64 t6s_1], .var [.whole T_api_SfNode 5, .int .i64 gs_1], .var [.int .i64 xs_0, .int .i64 xs_1, .int .i64 xs_2, .int .i64 xs_3], .arr T_api_SfNode t6_0s false, .arr T_api_SfNode g_0s false]) K =
      s_semigroupmade_Tape_Graph_4 C letters ts_0 ts_1 xs_0 xs_1
        (fun (ts_00 : List V) (ts_10 : Int) (xs_10 : Int) => K .norm (mk [(0, .ptr 0 0 0), (1, .int .i64 letters), (6, .ptr 1 0 0), (7, .ptr 2 0 0), (8, .int .i64 n), (9, .int .i64 i), (10, .ptr 3 0 0)] [.var [.list T_int ts_00, .int .i64 ts_10], .var [.whole T_api_SfNode 4, .int .i64 t6s_1], .var [.whole T_api_SfNode 5, .int .i64 gs_1], .var [.int .i64 xs_0, .int .i64 xs_10, .int .i64 xs_2, .int .i64 xs_3], .arr T_api_SfNode t6_0s false, .arr T_api_SfNode g_0s false])) := by kernel_rfl

noncomputable def s_semigroupmade_Tape_Graph_5 (C : CallF) (i : Int) (ts_0 : List V) (ts_1 : Int) (xs_0 : Int) (xs_2 : Int) {β : Type} (k0 : (List V) → Int → Int → Option β) : Option β :=
  bif decide ((xs_0 : Int) ≥ 5) then
    (C F_semigroupmade_Tape_Next [.ptr 0 0 0, .int .i64 i] [.agg [.list T_int ts_0, .int .i64 ts_1]]).bind fun r58 =>
      k0 (((V.nth r58.2 0).cell 0).toList) (((V.nth r58.2 0).cell 1).toInt) r58.1.toInt
  else
    k0 ts_0 ts_1 xs_2

theorem s_semigroupmade_Tape_Graph_5_eq (C : CallF) (letters : Int) (n : Int) (i : Int) (ts_0 : List V) (ts_1 : Int) (t6s_1 : Int) (gs_1 : Int) (xs_0 : Int) (xs_1 : Int) (xs_2 : Int) (xs_3 : Int) (t6_0s : List V) (g_0s : List V) {β : Type} (K : Out → St → Option β) :
    execL Try.prog ann C 9 67 1 (codesAt Try.prog 9 [[1, 1, 1, 0, 1, 0, 0, 1, 0, 0, 1, 1, 1, 0, 0], [1, 1, 1, 0, 1, 0, 0, 1, 0, 0, 1, 1, 1, 0, 1]]) (mk [(0, .ptr 0 0 0), (1, .int .i64 letters), (6, .ptr 1 0 0), (7, .ptr 2 0 0), (8, .int .i64 n), (9, .int .i64 i), (10, .ptr 3 0 0)] [.var [.list T_int ts_0, .int .i64 ts_1], .var [.whole T_api_SfNode 4, .int .i64 t6s_1], .var [.whole T_api_SfNode 5, .int .i64 gs_1], .var [.int .i64 xs_0, .int .i64 xs_1, .int .i64 xs_2, .int .i64 xs_3], .arr T_api_SfNode t6_0s false, .arr T_api_SfNode g_0s false]) K =
      s_semigroupmade_Tape_Graph_5 C i ts_0 ts_1 xs_0 xs_2
        (fun (ts_00 : List V) (ts_10 : Int) (xs_20 : Int) => K .norm (mk [(0, .ptr 0 0 0), (1, .int .i64 letters), (6, .ptr 1 0 0), (7, .ptr 2 0 0), (8, .int .i64 n), (9, .int .i64 i), (10, .ptr 3 0 0)] [.var [.list T_int ts_00, .int .i64 ts_10], .var [.whole T_api_SfNode 4, .int .i64 t6s_1], .var [.whole T_api_SfNode 5, .int .i64 gs_1], .var [.int .i64 xs_0, .int .i64 xs_1, .int .i64 xs_20, .int .i64 xs_3], .arr T_api_SfNode t6_0s false, .arr T_api_SfNode g_0s false])) := by kernel_rfl

noncomputable def s_semigroupmade_Tape_Graph_6 (C : CallF) (i : Int) (ts_0 : List V) (ts_1 : Int) (xs_0 : Int) (xs_1 : Int) (xs_2 : Int) (xs_3 : Int) (g_0s : List V) {β : Type} (k0 : (List V) → Int → (List V) → Option β) : Option β :=
  bif decide ((xs_0 : Int) ≥ 5) then
    bif (xs_0 : Int) != 8 then
      (C F_semigroupmade_Tape_Next [.ptr 0 0 0, .int .i64 i] [.agg [.list T_int ts_0, .int .i64 ts_1]]).bind fun r62 =>
        bif Nat.ble ((g_0s.length + ([.agg [.int .i64 xs_0, .int .i64 xs_1, .int .i64 xs_2, .int .i64 r62.1.toInt]] : List V).length) * 32) maxBytes then
          k0 (((V.nth r62.2 0).cell 0).toList) (((V.nth r62.2 0).cell 1).toInt) (g_0s ++ ([.agg [.int .i64 xs_0, .int .i64 xs_1, .int .i64 xs_2, .int .i64 r62.1.toInt]] : List V))
        else none
    else
      bif Nat.ble ((g_0s.length + ([.agg [.int .i64 xs_0, .int .i64 xs_1, .int .i64 xs_2, .int .i64 xs_3]] : List V).length) * 32) maxBytes then
        k0 ts_0 ts_1 (g_0s ++ ([.agg [.int .i64 xs_0, .int .i64 xs_1, .int .i64 xs_2, .int .i64 xs_3]] : List V))
      else none
  else
    bif Nat.ble ((g_0s.length + ([.agg [.int .i64 xs_0, .int .i64 xs_1, .int .i64 xs_2, .int .i64 xs_3]] : List V).length) * 32) maxBytes then
      k0 ts_0 ts_1 (g_0s ++ ([.agg [.int .i64 xs_0, .int .i64 xs_1, .int .i64 xs_2, .int .i64 xs_3]] : List V))
    else none

theorem s_semigroupmade_Tape_Graph_6_eq (C : CallF) (letters : Int) (n : Int) (i : Int) (ts_0 : List V) (ts_1 : Int) (t6s_1 : Int) (gs_1 : Int) (xs_0 : Int) (xs_1 : Int) (xs_2 : Int) (xs_3 : Int) (t6_0s : List V) (g_0s : List V) {β : Type} (K : Out → St → Option β) :
    execL Try.prog ann C 9 67 1 (codesAt Try.prog 9 [[1, 1, 1, 0, 1, 0, 0, 1, 0, 0, 1, 1, 1, 1, 0, 0], [1, 1, 1, 0, 1, 0, 0, 1, 0, 0, 1, 1, 1, 1, 0, 1], [1, 1, 1, 0, 1, 0, 0, 1, 0, 0, 1, 1, 1, 1, 1]]) (mk [(0, .ptr 0 0 0), (1, .int .i64 letters), (6, .ptr 1 0 0), (7, .ptr 2 0 0), (8, .int .i64 n), (9, .int .i64 i), (10, .ptr 3 0 0)] [.var [.list T_int ts_0, .int .i64 ts_1], .var [.whole T_api_SfNode 4, .int .i64 t6s_1], .var [.whole T_api_SfNode 5, .int .i64 gs_1], .var [.int .i64 xs_0, .int .i64 xs_1, .int .i64 xs_2, .int .i64 xs_3], .arr T_api_SfNode t6_0s false, .arr T_api_SfNode g_0s false]) K =
      s_semigroupmade_Tape_Graph_6 C i ts_0 ts_1 xs_0 xs_1 xs_2 xs_3 g_0s
        (fun (ts_00 : List V) (ts_10 : Int) (g_0s0 : List V) => K .norm (mk [(0, .ptr 0 0 0), (1, .int .i64 letters), (6, .ptr 1 0 0), (7, .ptr 2 0 0), (8, .int .i64 n), (9, .int .i64 i)] [.var [.list T_int ts_00, .int .i64 ts_10], .var [.whole T_api_SfNode 3, .int .i64 t6s_1], .var [.whole T_api_SfNode 4, .int .i64 gs_1], .arr T_api_SfNode t6_0s false, .arr T_api_SfNode g_0s0 false])) := by kernel_rfl

theorem s_semigroupmade_Tape_Graph_7c_eq (C : CallF) (letters : Int) (n : Int) (i : Int) (ts_0 : List V) (ts_1 : Int) (t6s_1 : Int) (gs_1 : Int) (xs_0 : Int) (xs_1 : Int) (xs_2 : Int) (xs_3 : Int) (t6_0s : List V) (g_0s : List V) {β : Type} (K : Out → St → Option β) :
    execL Try.prog ann C 9 67 1 (codesAt Try.prog 9 [[1, 1, 1, 0, 1, 0, 0, 1, 0, 0, 1, 1, 1, 0, 0], [1, 1, 1, 0, 1, 0, 0, 1, 0, 0, 1, 1, 1, 0, 1], [1, 1, 1, 0, 1, 0, 0, 1, 0, 0, 1, 1, 1, 1, 0, 0], [1, 1, 1, 0, 1, 0, 0, 1, 0, 0, 1, 1, 1, 1, 0, 1], [1, 1, 1, 0, 1, 0, 0, 1, 0, 0, 1, 1, 1, 1, 1]]) (mk [(0, .ptr 0 0 0), (1, .int .i64 letters), (6, .ptr 1 0 0), (7, .ptr 2 0 0), (8, .int .i64 n), (9, .int .i64 i), (10, .ptr 3 0 0)] [.var [.list T_int ts_0, .int .i64 ts_1], .var [.whole T_api_SfNode 4, .int .i64 t6s_1], .var [.whole T_api_SfNode 5, .int .i64 gs_1], .var [.int .i64 xs_0, .int .i64 xs_1, .int .i64 xs_2, .int .i64 xs_3], .arr T_api_SfNode t6_0s false, .arr T_api_SfNode g_0s false]) K =
      s_semigroupmade_Tape_Graph_5 C i ts_0 ts_1 xs_0 xs_2
        (fun (ts_63 : List V) (ts_64 : Int) (xs_65 : Int) =>
          s_semigroupmade_Tape_Graph_6 C i ts_63 ts_64 xs_0 xs_1 xs_65 xs_3 g_0s
            (fun (ts_66 : List V) (ts_67 : Int) (g_0s_68 : List V) =>
              K .norm (mk [(0, .ptr 0 0 0), (1, .int .i64 letters), (6, .ptr 1 0 0), (7, .ptr 2 0 0), (8, .int .i64 n), (9, .int .i64 i)] [.var [.list T_int ts_66, .int .i64 ts_67], .var [.whole T_api_SfNode 3, .int .i64 t6s_1], .var [.whole T_api_SfNode 4, .int .i64 gs_1], .arr T_api_SfNode t6_0s false, .arr T_api_SfNode g_0s_68 false]))) := by
  refine Eq.trans (execL_app (P := Try.prog) (A := ann) (C := C) (f := 9) (n := 67) (m := 1) (codesAt Try.prog 9 [[1, 1, 1, 0, 1, 0, 0, 1, 0, 0, 1, 1, 1, 0, 0], [1, 1, 1, 0, 1, 0, 0, 1, 0, 0, 1, 1, 1, 0, 1]]) (codesAt Try.prog 9 [[1, 1, 1, 0, 1, 0, 0, 1, 0, 0, 1, 1, 1, 1, 0, 0], [1, 1, 1, 0, 1, 0, 0, 1, 0, 0, 1, 1, 1, 1, 0, 1], [1, 1, 1, 0, 1, 0, 0, 1, 0, 0, 1, 1, 1, 1, 1]]) (st := mk [(0, .ptr 0 0 0), (1, .int .i64 letters), (6, .ptr 1 0 0), (7, .ptr 2 0 0), (8, .int .i64 n), (9, .int .i64 i), (10, .ptr 3 0 0)] [.var [.list T_int ts_0, .int .i64 ts_1], .var [.whole T_api_SfNode 4, .int .i64 t6s_1], .var [.whole T_api_SfNode 5, .int .i64 gs_1], .var [.int .i64 xs_0, .int .i64 xs_1, .int .i64 xs_2, .int .i64 xs_3], .arr T_api_SfNode t6_0s false, .arr T_api_SfNode g_0s false]) (K := K)) (Eq.trans (s_semigroupmade_Tape_Graph_5_eq C letters n i ts_0 ts_1 t6s_1 gs_1 xs_0 xs_1 xs_2 xs_3 t6_0s g_0s (seqK Try.prog ann C 9 67 1 (codesAt Try.prog 9 [[1, 1, 1, 0, 1, 0, 0, 1, 0, 0, 1, 1, 1, 1, 0, 0], [1, 1, 1, 0, 1, 0, 0, 1, 0, 0, 1, 1, 1, 1, 0, 1], [1, 1, 1, 0, 1, 0, 0, 1, 0, 0, 1, 1, 1, 1, 1]]) K)) ?_)
  · exact Eq.trans (by kernel_rfl) (Eq.trans (congrArg (fun HOLE : (List V) → Int → Int → Option β => s_semigroupmade_Tape_Graph_5 C i ts_0 ts_1 xs_0 xs_2 HOLE) (funext fun (ts_00 : List V) => funext fun (ts_10 : Int) => funext fun (xs_20 : Int) => s_semigroupmade_Tape_Graph_6_eq C letters n i ts_00 ts_10 t6s_1 gs_1 xs_0 xs_1 xs_20 xs_3 t6_0s g_0s K)) ((by kernel_rfl)))


theorem s_semigroupmade_Tape_Graph_8c_eq (C : CallF) (letters : Int) (n : Int) (i : Int) (ts_0 : List V) (ts_1 : Int) (t6s_1 : Int) (gs_1 : Int) (xs_0 : Int) (xs_1 : Int) (xs_2 : Int) (xs_3 : Int) (t6_0s : List V) (g_0s : List V) {β : Type} (K : Out → St → Option β) :
    execL Try.prog ann C 9 67 1 (codesAt Try.prog 9 [[1, 1, 1, 0, 1, 0, 0, 1, 0, 0, 1, 1, 0, 0], [1, 1, 1, 0, 1, 0, 0, 1, 0, 0, 1, 1, 0, 1], [1, 1, 1, 0, 1, 0, 0, 1, 0, 0, 1, 1, 1, 0, 0], [1, 1, 1, 0, 1, 0, 0, 1, 0, 0, 1, 1, 1, 0, 1], [1, 1, 1, 0, 1, 0, 0, 1, 0, 0, 1, 1, 1, 1, 0, 0], [1, 1, 1, 0, 1, 0, 0, 1, 0, 0, 1, 1, 1, 1, 0, 1], [1, 1, 1, 0, 1, 0, 0, 1, 0, 0, 1, 1, 1, 1, 1]]) (mk [(0, .ptr 0 0 0), (1, .int .i64 letters), (6, .ptr 1 0 0), (7, .ptr 2 0 0), (8, .int .i64 n), (9, .int .i64 i), (10, .ptr 3 0 0)] [.var [.list T_int ts_0, .int .i64 ts_1], .var [.whole T_api_SfNode 4, .int .i64 t6s_1], .var [.whole T_api_SfNode 5, .int .i64 gs_1], .var [.int .i64 xs_0, .int .i64 xs_1, .int .i64 xs_2, .int .i64 xs_3], .arr T_api_SfNode t6_0s false, .arr T_api_SfNode g_0s false]) K =
      s_semigroupmade_Tape_Graph_4 C letters ts_0 ts_1 xs_0 xs_1
        (fun (ts_69 : List V) (ts_70 : Int) (xs_71 : Int) =>
          s_semigroupmade_Tape_Graph_5 C i ts_69 ts_70 xs_0 xs_2
            (fun (ts_63 : List V) (ts_64 : Int) (xs_65 : Int) =>
              s_semigroupmade_Tape_Graph_6 C i ts_63 ts_64 xs_0 xs_71 xs_65 xs_3 g_0s
                (fun (ts_66 : List V) (ts_67 : Int) (g_0s_68 : List V) =>
                  K .norm (mk [(0, .ptr 0 0 0), (1, .int .i64 letters), (6, .ptr 1 0 0), (7, .ptr 2 0 0), (8, .int .i64 n), (9, .int .i64 i)] [.var [.list T_int ts_66, .int .i64 ts_67], .var [.whole T_api_SfNode 3, .int .i64 t6s_1], .var [.whole T_api_SfNode 4, .int .i64 gs_1], .arr T_api_SfNode t6_0s false, .arr T_api_SfNode g_0s_68 false])))) := by
  refine Eq.trans (execL_app (P := Try.prog) (A := ann) (C := C) (f := 9) (n := 67) (m := 1) (codesAt Try.prog 9 [[1, 1, 1, 0, 1, 0, 0, 1, 0, 0, 1, 1, 0, 0], [1, 1, 1, 0, 1, 0, 0, 1, 0, 0, 1, 1, 0, 1]]) (codesAt Try.prog 9 [[1, 1, 1, 0, 1, 0, 0, 1, 0, 0, 1, 1, 1, 0, 0], [1, 1, 1, 0, 1, 0, 0, 1, 0, 0, 1, 1, 1, 0, 1], [1, 1, 1, 0, 1, 0, 0, 1, 0, 0, 1, 1, 1, 1, 0, 0], [1, 1, 1, 0, 1, 0, 0, 1, 0, 0, 1, 1, 1, 1, 0, 1], [1, 1, 1, 0, 1, 0, 0, 1, 0, 0, 1, 1, 1, 1, 1]]) (st := mk [(0, .ptr 0 0 0), (1, .int .i64 letters), (6, .ptr 1 0 0), (7, .ptr 2 0 0), (8, .int .i64 n), (9, .int .i64 i), (10, .ptr 3 0 0)] [.var [.list T_int ts_0, .int .i64 ts_1], .var [.whole T_api_SfNode 4, .int .i64 t6s_1], .var [.whole T_api_SfNode 5, .int .i64 gs_1], .var [.int .i64 xs_0, .int .i64 xs_1, .int .i64 xs_2, .int .i64 xs_3], .arr T_api_SfNode t6_0s false, .arr T_api_SfNode g_0s false]) (K := K)) (Eq.trans (s_semigroupmade_Tape_Graph_4_eq C letters n i ts_0 ts_1 t6s_1 gs_1 xs_0 xs_1 xs_2 xs_3 t6_0s g_0s (seqK Try.prog ann C 9 67 1 (codesAt Try.prog 9 [[1, 1, 1, 0, 1, 0, 0, 1, 0, 0, 1, 1, 1, 0, 0], [1, 1, 1, 0, 1, 0, 0, 1, 0, 0, 1, 1, 1, 0, 1], [1, 1, 1, 0, 1, 0, 0, 1, 0, 0, 1, 1, 1, 1, 0, 0], [1, 1, 1, 0, 1, 0, 0, 1, 0, 0, 1, 1, 1, 1, 0, 1], [1, 1, 1, 0, 1, 0, 0, 1, 0, 0, 1, 1, 1, 1, 1]]) K)) ?_)
  · exact Eq.trans (by kernel_rfl) (Eq.trans (congrArg (fun HOLE : (List V) → Int → Int → Option β => s_semigroupmade_Tape_Graph_4 C letters ts_0 ts_1 xs_0 xs_1 HOLE) (funext fun (ts_00 : List V) => funext fun (ts_10 : Int) => funext fun (xs_10 : Int) => s_semigroupmade_Tape_Graph_7c_eq C letters n i ts_00 ts_10 t6s_1 gs_1 xs_0 xs_10 xs_2 xs_3 t6_0s g_0s K)) ((by kernel_rfl)))


theorem s_semigroupmade_Tape_Graph_9c_eq (C : CallF) (letters : Int) (n : Int) (i : Int) (ts_0 : List V) (ts_1 : Int) (t6s_1 : Int) (gs_1 : Int) (t6_0s : List V) (g_0s : List V) {β : Type} (K : Out → St → Option β) :
    execL Try.prog ann C 9 67 1 (codesAt Try.prog 9 [[1, 1, 1, 0, 1, 0, 0, 1, 0, 0, 0], [1, 1, 1, 0, 1, 0, 0, 1, 0, 0, 1, 0, 0], [1, 1, 1, 0, 1, 0, 0, 1, 0, 0, 1, 0, 1], [1, 1, 1, 0, 1, 0, 0, 1, 0, 0, 1, 1, 0, 0], [1, 1, 1, 0, 1, 0, 0, 1, 0, 0, 1, 1, 0, 1], [1, 1, 1, 0, 1, 0, 0, 1, 0, 0, 1, 1, 1, 0, 0], [1, 1, 1, 0, 1, 0, 0, 1, 0, 0, 1, 1, 1, 0, 1], [1, 1, 1, 0, 1, 0, 0, 1, 0, 0, 1, 1, 1, 1, 0, 0], [1, 1, 1, 0, 1, 0, 0, 1, 0, 0, 1, 1, 1, 1, 0, 1], [1, 1, 1, 0, 1, 0, 0, 1, 0, 0, 1, 1, 1, 1, 1]]) (mk [(0, .ptr 0 0 0), (1, .int .i64 letters), (6, .ptr 1 0 0), (7, .ptr 2 0 0), (8, .int .i64 n), (9, .int .i64 i)] [.var [.list T_int ts_0, .int .i64 ts_1], .var [.whole T_api_SfNode 3, .int .i64 t6s_1], .var [.whole T_api_SfNode 4, .int .i64 gs_1], .arr T_api_SfNode t6_0s false, .arr T_api_SfNode g_0s false]) K =
      s_semigroupmade_Tape_Graph_3 C i ts_0 ts_1
        (fun (ts_72 : List V) (ts_73 : Int) (xs_74 : Int) =>
          s_semigroupmade_Tape_Graph_4 C letters ts_72 ts_73 xs_74 0
            (fun (ts_69 : List V) (ts_70 : Int) (xs_71 : Int) =>
              s_semigroupmade_Tape_Graph_5 C i ts_69 ts_70 xs_74 0
                (fun (ts_63 : List V) (ts_64 : Int) (xs_65 : Int) =>
                  s_semigroupmade_Tape_Graph_6 C i ts_63 ts_64 xs_74 xs_71 xs_65 0 g_0s
                    (fun (ts_66 : List V) (ts_67 : Int) (g_0s_68 : List V) =>
                      K .norm (mk [(0, .ptr 0 0 0), (1, .int .i64 letters), (6, .ptr 1 0 0), (7, .ptr 2 0 0), (8, .int .i64 n), (9, .int .i64 i)] [.var [.list T_int ts_66, .int .i64 ts_67], .var [.whole T_api_SfNode 3, .int .i64 t6s_1], .var [.whole T_api_SfNode 4, .int .i64 gs_1], .arr T_api_SfNode t6_0s false, .arr T_api_SfNode g_0s_68 false]))))) := by
  refine Eq.trans (execL_app (P := Try.prog) (A := ann) (C := C) (f := 9) (n := 67) (m := 1) (codesAt Try.prog 9 [[1, 1, 1, 0, 1, 0, 0, 1, 0, 0, 0], [1, 1, 1, 0, 1, 0, 0, 1, 0, 0, 1, 0, 0], [1, 1, 1, 0, 1, 0, 0, 1, 0, 0, 1, 0, 1]]) (codesAt Try.prog 9 [[1, 1, 1, 0, 1, 0, 0, 1, 0, 0, 1, 1, 0, 0], [1, 1, 1, 0, 1, 0, 0, 1, 0, 0, 1, 1, 0, 1], [1, 1, 1, 0, 1, 0, 0, 1, 0, 0, 1, 1, 1, 0, 0], [1, 1, 1, 0, 1, 0, 0, 1, 0, 0, 1, 1, 1, 0, 1], [1, 1, 1, 0, 1, 0, 0, 1, 0, 0, 1, 1, 1, 1, 0, 0], [1, 1, 1, 0, 1, 0, 0, 1, 0, 0, 1, 1, 1, 1, 0, 1], [1, 1, 1, 0, 1, 0, 0, 1, 0, 0, 1, 1, 1, 1, 1]]) (st := mk [(0, .ptr 0 0 0), (1, .int .i64 letters), (6, .ptr 1 0 0), (7, .ptr 2 0 0), (8, .int .i64 n), (9, .int .i64 i)] [.var [.list T_int ts_0, .int .i64 ts_1], .var [.whole T_api_SfNode 3, .int .i64 t6s_1], .var [.whole T_api_SfNode 4, .int .i64 gs_1], .arr T_api_SfNode t6_0s false, .arr T_api_SfNode g_0s false]) (K := K)) (Eq.trans (s_semigroupmade_Tape_Graph_3_eq C letters n i ts_0 ts_1 t6s_1 gs_1 t6_0s g_0s (seqK Try.prog ann C 9 67 1 (codesAt Try.prog 9 [[1, 1, 1, 0, 1, 0, 0, 1, 0, 0, 1, 1, 0, 0], [1, 1, 1, 0, 1, 0, 0, 1, 0, 0, 1, 1, 0, 1], [1, 1, 1, 0, 1, 0, 0, 1, 0, 0, 1, 1, 1, 0, 0], [1, 1, 1, 0, 1, 0, 0, 1, 0, 0, 1, 1, 1, 0, 1], [1, 1, 1, 0, 1, 0, 0, 1, 0, 0, 1, 1, 1, 1, 0, 0], [1, 1, 1, 0, 1, 0, 0, 1, 0, 0, 1, 1, 1, 1, 0, 1], [1, 1, 1, 0, 1, 0, 0, 1, 0, 0, 1, 1, 1, 1, 1]]) K)) ?_)
  · exact Eq.trans (by kernel_rfl) (Eq.trans (congrArg (fun HOLE : (List V) → Int → Int → Option β => s_semigroupmade_Tape_Graph_3 C i ts_0 ts_1 HOLE) (funext fun (ts_00 : List V) => funext fun (ts_10 : Int) => funext fun (xs_00 : Int) => s_semigroupmade_Tape_Graph_8c_eq C letters n i ts_00 ts_10 t6s_1 gs_1 xs_00 0 0 0 t6_0s g_0s K)) ((by kernel_rfl)))


theorem s_semigroupmade_Tape_Graph_10b_eq (C : CallF) (letters : Int) (n : Int) (i : Int) (ts_0 : List V) (ts_1 : Int) (t6s_1 : Int) (gs_1 : Int) (t6_0s : List V) (g_0s : List V) {β : Type} (K : Out → St → Option β) :
    execL Try.prog ann C 9 67 1 (codesAt Try.prog 9 [[1, 1, 1, 0, 1, 0, 0, 1, 0]]) (mk [(0, .ptr 0 0 0), (1, .int .i64 letters), (6, .ptr 1 0 0), (7, .ptr 2 0 0), (8, .int .i64 n), (9, .int .i64 i)] [.var [.list T_int ts_0, .int .i64 ts_1], .var [.whole T_api_SfNode 3, .int .i64 t6s_1], .var [.whole T_api_SfNode 4, .int .i64 gs_1], .arr T_api_SfNode t6_0s false, .arr T_api_SfNode g_0s false]) K =
      s_semigroupmade_Tape_Graph_3 C i ts_0 ts_1
        (fun (ts_72 : List V) (ts_73 : Int) (xs_74 : Int) =>
          s_semigroupmade_Tape_Graph_4 C letters ts_72 ts_73 xs_74 0
            (fun (ts_69 : List V) (ts_70 : Int) (xs_71 : Int) =>
              s_semigroupmade_Tape_Graph_5 C i ts_69 ts_70 xs_74 0
                (fun (ts_63 : List V) (ts_64 : Int) (xs_65 : Int) =>
                  s_semigroupmade_Tape_Graph_6 C i ts_63 ts_64 xs_74 xs_71 xs_65 0 g_0s
                    (fun (ts_66 : List V) (ts_67 : Int) (g_0s_68 : List V) =>
                      K .norm (mk [(0, .ptr 0 0 0), (1, .int .i64 letters), (6, .ptr 1 0 0), (7, .ptr 2 0 0), (8, .int .i64 n), (9, .int .i64 i)] [.var [.list T_int ts_66, .int .i64 ts_67], .var [.whole T_api_SfNode 3, .int .i64 t6s_1], .var [.whole T_api_SfNode 4, .int .i64 gs_1], .arr T_api_SfNode t6_0s false, .arr T_api_SfNode g_0s_68 false]))))) := Eq.trans (execL_block (P := Try.prog) (A := ann) (C := C) (f := 9) (n := 67) (m := 1) (id := 1) (c := codeAt [1, 1, 1, 0, 1, 0, 0, 1, 0] (bodyOf Try.prog 9)) (d := codeAt [1, 1, 1, 0, 1, 0, 0, 1, 0, 0] (bodyOf Try.prog 9)) (l := codesAt Try.prog 9 [[1, 1, 1, 0, 1, 0, 0, 1, 0, 0, 0], [1, 1, 1, 0, 1, 0, 0, 1, 0, 0, 1, 0, 0], [1, 1, 1, 0, 1, 0, 0, 1, 0, 0, 1, 0, 1], [1, 1, 1, 0, 1, 0, 0, 1, 0, 0, 1, 1, 0, 0], [1, 1, 1, 0, 1, 0, 0, 1, 0, 0, 1, 1, 0, 1], [1, 1, 1, 0, 1, 0, 0, 1, 0, 0, 1, 1, 1, 0, 0], [1, 1, 1, 0, 1, 0, 0, 1, 0, 0, 1, 1, 1, 0, 1], [1, 1, 1, 0, 1, 0, 0, 1, 0, 0, 1, 1, 1, 1, 0, 0], [1, 1, 1, 0, 1, 0, 0, 1, 0, 0, 1, 1, 1, 1, 0, 1], [1, 1, 1, 0, 1, 0, 0, 1, 0, 0, 1, 1, 1, 1, 1]]) (st := mk [(0, .ptr 0 0 0), (1, .int .i64 letters), (6, .ptr 1 0 0), (7, .ptr 2 0 0), (8, .int .i64 n), (9, .int .i64 i)] [.var [.list T_int ts_0, .int .i64 ts_1], .var [.whole T_api_SfNode 3, .int .i64 t6s_1], .var [.whole T_api_SfNode 4, .int .i64 gs_1], .arr T_api_SfNode t6_0s false, .arr T_api_SfNode g_0s false]) (K := K) (by kernel_rfl) (by kernel_rfl)) (Eq.trans (s_semigroupmade_Tape_Graph_9c_eq C letters n i ts_0 ts_1 t6s_1 gs_1 t6_0s g_0s (blockK ann 9 1 1 K)) (by kernel_rfl))

theorem s_semigroupmade_Tape_Graph_11d_eq (C : CallF) (letters : Int) (n : Int) (i : Int) (ts_0 : List V) (ts_1 : Int) (t6s_1 : Int) (gs_1 : Int) (t6_0s : List V) (g_0s : List V) {β : Type} (K : Out → St → Option β) :
    execL Try.prog ann C 9 67 1 (codesAt Try.prog 9 [[1, 1, 1, 0, 1, 0, 0, 1, 1]]) (mk [(0, .ptr 0 0 0), (1, .int .i64 letters), (6, .ptr 1 0 0), (7, .ptr 2 0 0), (8, .int .i64 n), (9, .int .i64 i)] [.var [.list T_int ts_0, .int .i64 ts_1], .var [.whole T_api_SfNode 3, .int .i64 t6s_1], .var [.whole T_api_SfNode 4, .int .i64 gs_1], .arr T_api_SfNode t6_0s false, .arr T_api_SfNode g_0s false]) K =
      K .norm (mk [(0, .ptr 0 0 0), (1, .int .i64 letters), (6, .ptr 1 0 0), (7, .ptr 2 0 0), (8, .int .i64 n), (9, .int .i64 (IntKind.wrap .i64 (i + 1)))] [.var [.list T_int ts_0, .int .i64 ts_1], .var [.whole T_api_SfNode 3, .int .i64 t6s_1], .var [.whole T_api_SfNode 4, .int .i64 gs_1], .arr T_api_SfNode t6_0s false, .arr T_api_SfNode g_0s false]) := by kernel_rfl

theorem s_semigroupmade_Tape_Graph_12c_eq (C : CallF) (letters : Int) (n : Int) (i : Int) (ts_0 : List V) (ts_1 : Int) (t6s_1 : Int) (gs_1 : Int) (t6_0s : List V) (g_0s : List V) {β : Type} (K : Out → St → Option β) :
    execL Try.prog ann C 9 67 1 (codesAt Try.prog 9 [[1, 1, 1, 0, 1, 0, 0, 1, 0], [1, 1, 1, 0, 1, 0, 0, 1, 1]]) (mk [(0, .ptr 0 0 0), (1, .int .i64 letters), (6, .ptr 1 0 0), (7, .ptr 2 0 0), (8, .int .i64 n), (9, .int .i64 i)] [.var [.list T_int ts_0, .int .i64 ts_1], .var [.whole T_api_SfNode 3, .int .i64 t6s_1], .var [.whole T_api_SfNode 4, .int .i64 gs_1], .arr T_api_SfNode t6_0s false, .arr T_api_SfNode g_0s false]) K =
      s_semigroupmade_Tape_Graph_3 C i ts_0 ts_1
        (fun (ts_72 : List V) (ts_73 : Int) (xs_74 : Int) =>
          s_semigroupmade_Tape_Graph_4 C letters ts_72 ts_73 xs_74 0
            (fun (ts_69 : List V) (ts_70 : Int) (xs_71 : Int) =>
              s_semigroupmade_Tape_Graph_5 C i ts_69 ts_70 xs_74 0
                (fun (ts_63 : List V) (ts_64 : Int) (xs_65 : Int) =>
                  s_semigroupmade_Tape_Graph_6 C i ts_63 ts_64 xs_74 xs_71 xs_65 0 g_0s
                    (fun (ts_66 : List V) (ts_67 : Int) (g_0s_68 : List V) =>
                      K .norm (mk [(0, .ptr 0 0 0), (1, .int .i64 letters), (6, .ptr 1 0 0), (7, .ptr 2 0 0), (8, .int .i64 n), (9, .int .i64 (IntKind.wrap .i64 (i + 1)))] [.var [.list T_int ts_66, .int .i64 ts_67], .var [.whole T_api_SfNode 3, .int .i64 t6s_1], .var [.whole T_api_SfNode 4, .int .i64 gs_1], .arr T_api_SfNode t6_0s false, .arr T_api_SfNode g_0s_68 false]))))) := by
  refine Eq.trans (execL_app (P := Try.prog) (A := ann) (C := C) (f := 9) (n := 67) (m := 1) (codesAt Try.prog 9 [[1, 1, 1, 0, 1, 0, 0, 1, 0]]) (codesAt Try.prog 9 [[1, 1, 1, 0, 1, 0, 0, 1, 1]]) (st := mk [(0, .ptr 0 0 0), (1, .int .i64 letters), (6, .ptr 1 0 0), (7, .ptr 2 0 0), (8, .int .i64 n), (9, .int .i64 i)] [.var [.list T_int ts_0, .int .i64 ts_1], .var [.whole T_api_SfNode 3, .int .i64 t6s_1], .var [.whole T_api_SfNode 4, .int .i64 gs_1], .arr T_api_SfNode t6_0s false, .arr T_api_SfNode g_0s false]) (K := K)) (Eq.trans (s_semigroupmade_Tape_Graph_10b_eq C letters n i ts_0 ts_1 t6s_1 gs_1 t6_0s g_0s (seqK Try.prog ann C 9 67 1 (codesAt Try.prog 9 [[1, 1, 1, 0, 1, 0, 0, 1, 1]]) K)) ?_)
  · exact Eq.trans (by kernel_rfl) (Eq.trans (congrArg (fun HOLE : (List V) → Int → (List V) → Option β => (s_semigroupmade_Tape_Graph_3 C i ts_0 ts_1
        (fun (ts_72 : List V) (ts_73 : Int) (xs_74 : Int) =>
          s_semigroupmade_Tape_Graph_4 C letters ts_72 ts_73 xs_74 0
            (fun (ts_69 : List V) (ts_70 : Int) (xs_71 : Int) =>
              s_semigroupmade_Tape_Graph_5 C i ts_69 ts_70 xs_74 0
                (fun (ts_63 : List V) (ts_64 : Int) (xs_65 : Int) =>
                  s_semigroupmade_Tape_Graph_6 C i ts_63 ts_64 xs_74 xs_71 xs_65 0 g_0s
                    (fun (ts_66 : List V) (ts_67 : Int) (g_0s_68 : List V) =>
                      HOLE ts_66 ts_67 g_0s_68)))))) (funext fun (ts_00 : List V) => funext fun (ts_10 : Int) => funext fun (g_0s0 : List V) => s_semigroupmade_Tape_Graph_11d_eq C letters n i ts_00 ts_10 t6s_1 gs_1 t6_0s g_0s0 K)) ((by kernel_rfl)))


theorem s_semigroupmade_Tape_Graph_13c_eq (C : CallF) (letters : Int) (n : Int) (i : Int) (ts_0 : List V) (ts_1 : Int) (t6s_1 : Int) (gs_1 : Int) (t6_0s : List V) (g_0s : List V) {β : Type} (K : Out → St → Option β) :
    execL Try.prog ann C 9 67 1 (codesAt Try.prog 9 [[1, 1, 1, 0, 1, 0, 0, 0, 0], [1, 1, 1, 0, 1, 0, 0, 0, 1], [1, 1, 1, 0, 1, 0, 0, 1, 0], [1, 1, 1, 0, 1, 0, 0, 1, 1]]) (mk [(0, .ptr 0 0 0), (1, .int .i64 letters), (6, .ptr 1 0 0), (7, .ptr 2 0 0), (8, .int .i64 n), (9, .int .i64 i)] [.var [.list T_int ts_0, .int .i64 ts_1], .var [.whole T_api_SfNode 3, .int .i64 t6s_1], .var [.whole T_api_SfNode 4, .int .i64 gs_1], .arr T_api_SfNode t6_0s false, .arr T_api_SfNode g_0s false]) K =
      bif decide ((i : Int) < n) then
        s_semigroupmade_Tape_Graph_3 C i ts_0 ts_1
          (fun (ts_72 : List V) (ts_73 : Int) (xs_74 : Int) =>
            s_semigroupmade_Tape_Graph_4 C letters ts_72 ts_73 xs_74 0
              (fun (ts_69 : List V) (ts_70 : Int) (xs_71 : Int) =>
                s_semigroupmade_Tape_Graph_5 C i ts_69 ts_70 xs_74 0
                  (fun (ts_63 : List V) (ts_64 : Int) (xs_65 : Int) =>
                    s_semigroupmade_Tape_Graph_6 C i ts_63 ts_64 xs_74 xs_71 xs_65 0 g_0s
                      (fun (ts_66 : List V) (ts_67 : Int) (g_0s_68 : List V) =>
                        K .norm (mk [(0, .ptr 0 0 0), (1, .int .i64 letters), (6, .ptr 1 0 0), (7, .ptr 2 0 0), (8, .int .i64 n), (9, .int .i64 (IntKind.wrap .i64 (i + 1)))] [.var [.list T_int ts_66, .int .i64 ts_67], .var [.whole T_api_SfNode 3, .int .i64 t6s_1], .var [.whole T_api_SfNode 4, .int .i64 gs_1], .arr T_api_SfNode t6_0s false, .arr T_api_SfNode g_0s_68 false])))))
      else
        K (.exit 0) (mk [(0, .ptr 0 0 0), (1, .int .i64 letters), (6, .ptr 1 0 0), (7, .ptr 2 0 0), (8, .int .i64 n), (9, .int .i64 i), (17, .bool (decide ((i : Int) < n)))] [.var [.list T_int ts_0, .int .i64 ts_1], .var [.whole T_api_SfNode 3, .int .i64 t6s_1], .var [.whole T_api_SfNode 4, .int .i64 gs_1], .arr T_api_SfNode t6_0s false, .arr T_api_SfNode g_0s false]) := by
  refine Eq.trans (execL_app (P := Try.prog) (A := ann) (C := C) (f := 9) (n := 67) (m := 1) (codesAt Try.prog 9 [[1, 1, 1, 0, 1, 0, 0, 0, 0], [1, 1, 1, 0, 1, 0, 0, 0, 1]]) (codesAt Try.prog 9 [[1, 1, 1, 0, 1, 0, 0, 1, 0], [1, 1, 1, 0, 1, 0, 0, 1, 1]]) (st := mk [(0, .ptr 0 0 0), (1, .int .i64 letters), (6, .ptr 1 0 0), (7, .ptr 2 0 0), (8, .int .i64 n), (9, .int .i64 i)] [.var [.list T_int ts_0, .int .i64 ts_1], .var [.whole T_api_SfNode 3, .int .i64 t6s_1], .var [.whole T_api_SfNode 4, .int .i64 gs_1], .arr T_api_SfNode t6_0s false, .arr T_api_SfNode g_0s false]) (K := K)) (Eq.trans (s_semigroupmade_Tape_Graph_2d_eq C letters n i ts_0 ts_1 t6s_1 gs_1 t6_0s g_0s (seqK Try.prog ann C 9 67 1 (codesAt Try.prog 9 [[1, 1, 1, 0, 1, 0, 0, 1, 0], [1, 1, 1, 0, 1, 0, 0, 1, 1]]) K)) ?_)
  · exact Eq.trans (by kernel_rfl) (Eq.trans (congrArg (fun HOLE : Option β => (bif decide ((i : Int) < n) then
        HOLE
      else
        (K (.exit 0) (mk [(0, .ptr 0 0 0), (1, .int .i64 letters), (6, .ptr 1 0 0), (7, .ptr 2 0 0), (8, .int .i64 n), (9, .int .i64 i), (17, .bool (decide ((i : Int) < n)))] [.var [.list T_int ts_0, .int .i64 ts_1], .var [.whole T_api_SfNode 3, .int .i64 t6s_1], .var [.whole T_api_SfNode 4, .int .i64 gs_1], .arr T_api_SfNode t6_0s false, .arr T_api_SfNode g_0s false])))) (s_semigroupmade_Tape_Graph_12c_eq C letters n i ts_0 ts_1 t6s_1 gs_1 t6_0s g_0s K)) ((by kernel_rfl)))


noncomputable def s_semigroupmade_Tape_Graph_14L_step (C : CallF) (letters : Int) (n : Int) : (Int × (List V) × Int × (List V)) → Option ((Int × (List V) × Int × (List V)) ⊕ ((Int × Bool × (List V) × Int × (List V)))) := fun (i, ts_0, ts_1, g_0s) =>
  bif decide ((i : Int) < n) then
    s_semigroupmade_Tape_Graph_3 C i ts_0 ts_1
      (fun (ts_72 : List V) (ts_73 : Int) (xs_74 : Int) =>
        s_semigroupmade_Tape_Graph_4 C letters ts_72 ts_73 xs_74 0
          (fun (ts_69 : List V) (ts_70 : Int) (xs_71 : Int) =>
            s_semigroupmade_Tape_Graph_5 C i ts_69 ts_70 xs_74 0
              (fun (ts_63 : List V) (ts_64 : Int) (xs_65 : Int) =>
                s_semigroupmade_Tape_Graph_6 C i ts_63 ts_64 xs_74 xs_71 xs_65 0 g_0s
                  (fun (ts_66 : List V) (ts_67 : Int) (g_0s_68 : List V) =>
                    some (.inl (IntKind.wrap .i64 (i + 1), ts_66, ts_67, g_0s_68))))))
  else
    some (.inr (i, decide ((i : Int) < n), ts_0, ts_1, g_0s))

noncomputable def s_semigroupmade_Tape_Graph_14L (C : CallF) (letters : Int) (n : Int) (i : Int) (ts_0 : List V) (ts_1 : Int) (g_0s : List V) {β : Type} (k0 : Int → Bool → (List V) → Int → (List V) → Option β) : Option β :=
  (Loop (s_semigroupmade_Tape_Graph_14L_step C letters n) (i, ts_0, ts_1, g_0s)).bind fun (i0, t170, ts_00, ts_10, g_0s0) => k0 i0 t170 ts_00 ts_10 g_0s0

def s_semigroupmade_Tape_Graph_14L_dec : Out → St → Option ((Int × (List V) × Int × (List V)) ⊕ ((Int × Bool × (List V) × Int × (List V)))) := fun o st => match o with
    | .norm => some (.inl (V.toInt (st.sl 9), V.toList (V.nth (varOf (st.hp 0)) 0), V.toInt (V.nth (varOf (st.hp 0)) 1), arrOf (st.hp 4)))
    | .exit q => bif Nat.beq q 0 then some (.inr (V.toInt (st.sl 9), V.toBool (st.sl 17), V.toList (V.nth (varOf (st.hp 0)) 0), V.toInt (V.nth (varOf (st.hp 0)) 1), arrOf (st.hp 4))) else none
    | .ret => none

def s_semigroupmade_Tape_Graph_14L_hd (letters : Int) (n : Int) (t6s_1 : Int) (gs_1 : Int) (t6_0s : List V) : (Int × (List V) × Int × (List V)) → St := fun (i, ts_0, ts_1, g_0s) => mk [(0, .ptr 0 0 0), (1, .int .i64 letters), (6, .ptr 1 0 0), (7, .ptr 2 0 0), (8, .int .i64 n), (9, .int .i64 i)] [.var [.list T_int ts_0, .int .i64 ts_1], .var [.whole T_api_SfNode 3, .int .i64 t6s_1], .var [.whole T_api_SfNode 4, .int .i64 gs_1], .arr T_api_SfNode t6_0s false, .arr T_api_SfNode g_0s false]

def s_semigroupmade_Tape_Graph_14L_enc (letters : Int) (n : Int) (t6s_1 : Int) (gs_1 : Int) (t6_0s : List V) : ((Int × Bool × (List V) × Int × (List V))) → Out × St := fun (i0, t170, ts_00, ts_10, g_0s0) => (.exit 0, mk [(0, .ptr 0 0 0), (1, .int .i64 letters), (6, .ptr 1 0 0), (7, .ptr 2 0 0), (8, .int .i64 n), (9, .int .i64 i0), (17, .bool t170)] [.var [.list T_int ts_00, .int .i64 ts_10], .var [.whole T_api_SfNode 3, .int .i64 t6s_1], .var [.whole T_api_SfNode 4, .int .i64 gs_1], .arr T_api_SfNode t6_0s false, .arr T_api_SfNode g_0s0 false])

theorem s_semigroupmade_Tape_Graph_14L_eq (C : CallF) (letters : Int) (n : Int) (i : Int) (ts_0 : List V) (ts_1 : Int) (t6s_1 : Int) (gs_1 : Int) (t6_0s : List V) (g_0s : List V) {β : Type} (K : Out → St → Option β) :
    execL Try.prog ann C 9 67 1 (codesAt Try.prog 9 [[1, 1, 1, 0, 1, 0]]) (mk [(0, .ptr 0 0 0), (1, .int .i64 letters), (6, .ptr 1 0 0), (7, .ptr 2 0 0), (8, .int .i64 n), (9, .int .i64 i)] [.var [.list T_int ts_0, .int .i64 ts_1], .var [.whole T_api_SfNode 3, .int .i64 t6s_1], .var [.whole T_api_SfNode 4, .int .i64 gs_1], .arr T_api_SfNode t6_0s false, .arr T_api_SfNode g_0s false]) K =
      s_semigroupmade_Tape_Graph_14L C letters n i ts_0 ts_1 g_0s
        (fun (i0 : Int) (t170 : Bool) (ts_00 : List V) (ts_10 : Int) (g_0s0 : List V) => K (.exit 0) (mk [(0, .ptr 0 0 0), (1, .int .i64 letters), (6, .ptr 1 0 0), (7, .ptr 2 0 0), (8, .int .i64 n), (9, .int .i64 i0), (17, .bool t170)] [.var [.list T_int ts_00, .int .i64 ts_10], .var [.whole T_api_SfNode 3, .int .i64 t6s_1], .var [.whole T_api_SfNode 4, .int .i64 gs_1], .arr T_api_SfNode t6_0s false, .arr T_api_SfNode g_0s0 false])) := by
  have hitems : flatC (codeAt [1, 1, 1, 0, 1, 0, 0] (bodyOf Try.prog 9)) = codesAt Try.prog 9 [[1, 1, 1, 0, 1, 0, 0, 0, 0], [1, 1, 1, 0, 1, 0, 0, 0, 1], [1, 1, 1, 0, 1, 0, 0, 1, 0], [1, 1, 1, 0, 1, 0, 0, 1, 1]] := by kernel_rfl
  have hloop : [codeAt [1, 1, 1, 0, 1, 0] (bodyOf Try.prog 9)] = [Code.loop (codeAt [1, 1, 1, 0, 1, 0, 0] (bodyOf Try.prog 9))] := by kernel_rfl
  have h := loopK_eq (P := Try.prog) (A := ann) (C := C) (f := 9) (n := 67) (m := 1) (c := codeAt [1, 1, 1, 0, 1, 0, 0] (bodyOf Try.prog 9)) (s_semigroupmade_Tape_Graph_14L_hd letters n t6s_1 gs_1 t6_0s) (s_semigroupmade_Tape_Graph_14L_enc letters n t6s_1 gs_1 t6_0s) s_semigroupmade_Tape_Graph_14L_dec (s_semigroupmade_Tape_Graph_14L_step C letters n)
    (by rintro ⟨i, ts_0, ts_1, g_0s⟩; exact Eq.trans (execK_items hitems) (Eq.trans (s_semigroupmade_Tape_Graph_13c_eq C letters n i ts_0 ts_1 t6s_1 gs_1 t6_0s g_0s s_semigroupmade_Tape_Graph_14L_dec) (by kernel_rfl)))
    (by rintro ⟨i, ts_0, ts_1, g_0s⟩; exact Eq.trans (execK_items hitems) (Eq.trans (s_semigroupmade_Tape_Graph_13c_eq C letters n i ts_0 ts_1 t6s_1 gs_1 t6_0s g_0s (fun o st => some (o, st))) (Eq.trans (by kernel_rfl) (Eq.trans (s_semigroupmade_Tape_Graph_13c_eq C letters n i ts_0 ts_1 t6s_1 gs_1 t6_0s g_0s (fun o st => (s_semigroupmade_Tape_Graph_14L_dec o st).map (outS (s_semigroupmade_Tape_Graph_14L_hd letters n t6s_1 gs_1 t6_0s) (s_semigroupmade_Tape_Graph_14L_enc letters n t6s_1 gs_1 t6_0s)))).symm (execK_items hitems).symm))))
    (by intro r; intro h; cases h) (i, ts_0, ts_1, g_0s) K
  refine Eq.trans (congrArg (fun l => execL Try.prog ann C 9 67 1 l (mk [(0, .ptr 0 0 0), (1, .int .i64 letters), (6, .ptr 1 0 0), (7, .ptr 2 0 0), (8, .int .i64 n), (9, .int .i64 i)] [.var [.list T_int ts_0, .int .i64 ts_1], .var [.whole T_api_SfNode 3, .int .i64 t6s_1], .var [.whole T_api_SfNode 4, .int .i64 gs_1], .arr T_api_SfNode t6_0s false, .arr T_api_SfNode g_0s false]) K) hloop) (Eq.trans h ?_)
  · refine congrArg _ (funext fun r => ?_)
    rfl

theorem s_semigroupmade_Tape_Graph_15b_eq (C : CallF) (letters : Int) (n : Int) (i : Int) (ts_0 : List V) (ts_1 : Int) (t6s_1 : Int) (gs_1 : Int) (t6_0s : List V) (g_0s : List V) {β : Type} (K : Out → St → Option β) :
    execL Try.prog ann C 9 67 1 (codesAt Try.prog 9 [[1, 1, 1, 0, 1]]) (mk [(0, .ptr 0 0 0), (1, .int .i64 letters), (6, .ptr 1 0 0), (7, .ptr 2 0 0), (8, .int .i64 n), (9, .int .i64 i)] [.var [.list T_int ts_0, .int .i64 ts_1], .var [.whole T_api_SfNode 3, .int .i64 t6s_1], .var [.whole T_api_SfNode 4, .int .i64 gs_1], .arr T_api_SfNode t6_0s false, .arr T_api_SfNode g_0s false]) K =
      s_semigroupmade_Tape_Graph_14L C letters n i ts_0 ts_1 g_0s
        (fun (i_75 : Int) (t_76 : Bool) (ts_77 : List V) (ts_78 : Int) (g_0s_79 : List V) =>
          K .norm (mk [(6, .ptr 1 0 0), (7, .ptr 2 0 0), (8, .int .i64 n)] [.var [.list T_int ts_77, .int .i64 ts_78], .var [.whole T_api_SfNode 3, .int .i64 t6s_1], .var [.whole T_api_SfNode 4, .int .i64 gs_1], .arr T_api_SfNode t6_0s false, .arr T_api_SfNode g_0s_79 false])) := Eq.trans (execL_block (P := Try.prog) (A := ann) (C := C) (f := 9) (n := 67) (m := 1) (id := 0) (c := codeAt [1, 1, 1, 0, 1] (bodyOf Try.prog 9)) (d := codeAt [1, 1, 1, 0, 1, 0] (bodyOf Try.prog 9)) (l := codesAt Try.prog 9 [[1, 1, 1, 0, 1, 0]]) (st := mk [(0, .ptr 0 0 0), (1, .int .i64 letters), (6, .ptr 1 0 0), (7, .ptr 2 0 0), (8, .int .i64 n), (9, .int .i64 i)] [.var [.list T_int ts_0, .int .i64 ts_1], .var [.whole T_api_SfNode 3, .int .i64 t6s_1], .var [.whole T_api_SfNode 4, .int .i64 gs_1], .arr T_api_SfNode t6_0s false, .arr T_api_SfNode g_0s false]) (K := K) (by kernel_rfl) (by kernel_rfl)) (Eq.trans (s_semigroupmade_Tape_Graph_14L_eq C letters n i ts_0 ts_1 t6s_1 gs_1 t6_0s g_0s (blockK ann 9 1 0 K)) (by kernel_rfl))

theorem s_semigroupmade_Tape_Graph_16d_eq (C : CallF) (n : Int) (b0_0 : List V) (b0_1 : Int) (t6s_1 : Int) (gs_1 : Int) (t6_0s : List V) (g_0s : List V) {β : Type} (K : Out → St → Option β) :
    execL Try.prog ann C 9 67 1 (codesAt Try.prog 9 [[1, 1, 1, 1, 0], [1, 1, 1, 1, 1, 0], [1, 1, 1, 1, 1, 1]]) (mk [(6, .ptr 1 0 0), (7, .ptr 2 0 0), (8, .int .i64 n)] [.var [.list T_int b0_0, .int .i64 b0_1], .var [.whole T_api_SfNode 3, .int .i64 t6s_1], .var [.whole T_api_SfNode 4, .int .i64 gs_1], .arr T_api_SfNode t6_0s false, .arr T_api_SfNode g_0s false]) K =
      K .ret (mk [(6, .ptr 1 0 0)] [.var [.list T_int b0_0, .int .i64 b0_1], .var [.whole T_api_SfNode 2, .int .i64 (IntKind.wrap .i64 (n - 1))], .arr T_api_SfNode g_0s false]) := by kernel_rfl

theorem s_semigroupmade_Tape_Graph_17c_eq (C : CallF) (letters : Int) (n : Int) (i : Int) (ts_0 : List V) (ts_1 : Int) (t6s_1 : Int) (gs_1 : Int) (t6_0s : List V) (g_0s : List V) {β : Type} (K : Out → St → Option β) :
    execL Try.prog ann C 9 67 1 (codesAt Try.prog 9 [[1, 1, 1, 0, 1], [1, 1, 1, 1, 0], [1, 1, 1, 1, 1, 0], [1, 1, 1, 1, 1, 1]]) (mk [(0, .ptr 0 0 0), (1, .int .i64 letters), (6, .ptr 1 0 0), (7, .ptr 2 0 0), (8, .int .i64 n), (9, .int .i64 i)] [.var [.list T_int ts_0, .int .i64 ts_1], .var [.whole T_api_SfNode 3, .int .i64 t6s_1], .var [.whole T_api_SfNode 4, .int .i64 gs_1], .arr T_api_SfNode t6_0s false, .arr T_api_SfNode g_0s false]) K =
      s_semigroupmade_Tape_Graph_14L C letters n i ts_0 ts_1 g_0s
        (fun (i_75 : Int) (t_76 : Bool) (ts_77 : List V) (ts_78 : Int) (g_0s_79 : List V) =>
          K .ret (mk [(6, .ptr 1 0 0)] [.var [.list T_int ts_77, .int .i64 ts_78], .var [.whole T_api_SfNode 2, .int .i64 (IntKind.wrap .i64 (n - 1))], .arr T_api_SfNode g_0s_79 false])) := by
  refine Eq.trans (execL_app (P := Try.prog) (A := ann) (C := C) (f := 9) (n := 67) (m := 1) (codesAt Try.prog 9 [[1, 1, 1, 0, 1]]) (codesAt Try.prog 9 [[1, 1, 1, 1, 0], [1, 1, 1, 1, 1, 0], [1, 1, 1, 1, 1, 1]]) (st := mk [(0, .ptr 0 0 0), (1, .int .i64 letters), (6, .ptr 1 0 0), (7, .ptr 2 0 0), (8, .int .i64 n), (9, .int .i64 i)] [.var [.list T_int ts_0, .int .i64 ts_1], .var [.whole T_api_SfNode 3, .int .i64 t6s_1], .var [.whole T_api_SfNode 4, .int .i64 gs_1], .arr T_api_SfNode t6_0s false, .arr T_api_SfNode g_0s false]) (K := K)) (Eq.trans (s_semigroupmade_Tape_Graph_15b_eq C letters n i ts_0 ts_1 t6s_1 gs_1 t6_0s g_0s (seqK Try.prog ann C 9 67 1 (codesAt Try.prog 9 [[1, 1, 1, 1, 0], [1, 1, 1, 1, 1, 0], [1, 1, 1, 1, 1, 1]]) K)) ?_)
  · exact Eq.trans (by kernel_rfl) (Eq.trans (congrArg (fun HOLE : (List V) → Int → (List V) → Option β => (s_semigroupmade_Tape_Graph_14L C letters n i ts_0 ts_1 g_0s
        (fun (i_75 : Int) (t_76 : Bool) (ts_77 : List V) (ts_78 : Int) (g_0s_79 : List V) =>
          HOLE ts_77 ts_78 g_0s_79))) (funext fun (b0_00 : List V) => funext fun (b0_10 : Int) => funext fun (g_0s0 : List V) => s_semigroupmade_Tape_Graph_16d_eq C n b0_00 b0_10 t6s_1 gs_1 t6_0s g_0s0 K)) ((by kernel_rfl)))


theorem s_semigroupmade_Tape_Graph_18c_eq (C : CallF) (t_L : List V) (t_At : Int) (letters : Int) (most : Int) {β : Type} (K : Out → St → Option β) :
    execL Try.prog ann C 9 67 1 (codesAt Try.prog 9 [[0], [1, 0], [1, 1, 0], [1, 1, 1, 0, 0], [1, 1, 1, 0, 1], [1, 1, 1, 1, 0], [1, 1, 1, 1, 1, 0], [1, 1, 1, 1, 1, 1]]) (mk [(0, .ptr 0 0 0), (1, .int .i64 letters), (2, .int .i64 most)] [.var [.list T_int t_L, .int .i64 t_At]]) K =
      (C F_semigroupmade_Tape_Next [.ptr 0 0 0, .int .i64 most] [.agg [.list T_int t_L, .int .i64 t_At]]).bind fun r2 =>
        s_semigroupmade_Tape_Graph_14L C letters (IntKind.wrap .i64 (1 + r2.1.toInt)) 0 (((V.nth r2.2 0).cell 0).toList) (((V.nth r2.2 0).cell 1).toInt) ([] : List V)
          (fun (i_75 : Int) (t_76 : Bool) (ts_77 : List V) (ts_78 : Int) (g_0s_79 : List V) =>
            K .ret (mk [(6, .ptr 1 0 0)] [.var [.list T_int ts_77, .int .i64 ts_78], .var [.whole T_api_SfNode 2, .int .i64 (IntKind.wrap .i64 ((IntKind.wrap .i64 (1 + r2.1.toInt)) - 1))], .arr T_api_SfNode g_0s_79 false])) := by
  refine Eq.trans (execL_app (P := Try.prog) (A := ann) (C := C) (f := 9) (n := 67) (m := 1) (codesAt Try.prog 9 [[0], [1, 0], [1, 1, 0], [1, 1, 1, 0, 0]]) (codesAt Try.prog 9 [[1, 1, 1, 0, 1], [1, 1, 1, 1, 0], [1, 1, 1, 1, 1, 0], [1, 1, 1, 1, 1, 1]]) (st := mk [(0, .ptr 0 0 0), (1, .int .i64 letters), (2, .int .i64 most)] [.var [.list T_int t_L, .int .i64 t_At]]) (K := K)) (Eq.trans (s_semigroupmade_Tape_Graph_1d_eq C t_L t_At letters most (seqK Try.prog ann C 9 67 1 (codesAt Try.prog 9 [[1, 1, 1, 0, 1], [1, 1, 1, 1, 0], [1, 1, 1, 1, 1, 0], [1, 1, 1, 1, 1, 1]]) K)) ?_)
  · exact Eq.trans (by kernel_rfl) (Eq.trans (congrArg (fun HOLE : Int → (List V) → Int → Option β => ((C F_semigroupmade_Tape_Next [.ptr 0 0 0, .int .i64 most] [.agg [.list T_int t_L, .int .i64 t_At]]).bind fun r2 =>
        HOLE (IntKind.wrap .i64 (1 + r2.1.toInt)) (((V.nth r2.2 0).cell 0).toList) (((V.nth r2.2 0).cell 1).toInt))) (funext fun (n0 : Int) => funext fun (ts_00 : List V) => funext fun (ts_10 : Int) => s_semigroupmade_Tape_Graph_17c_eq C letters n0 0 ts_00 ts_10 0 0 ([] : List V) ([] : List V) K)) ((by kernel_rfl)))


theorem f_semigroupmade_Tape_Graph_all (C : CallF) (t_L : List V) (t_At : Int) (letters : Int) (most : Int) {β : Type} (K : Out → St → Option β) : execK Try.prog ann C 9 (ntmpsOf Try.prog 9) ([.agg [.list T_int t_L, .int .i64 t_At]] : List V).length (bodyOf Try.prog 9) (enter [.ptr 0 0 0, .int .i64 letters, .int .i64 most] [.agg [.list T_int t_L, .int .i64 t_At]]) K =
      (C F_semigroupmade_Tape_Next [.ptr 0 0 0, .int .i64 most] [.agg [.list T_int t_L, .int .i64 t_At]]).bind fun r2 =>
        s_semigroupmade_Tape_Graph_14L C letters (IntKind.wrap .i64 (1 + r2.1.toInt)) 0 (((V.nth r2.2 0).cell 0).toList) (((V.nth r2.2 0).cell 1).toInt) ([] : List V)
          (fun (i_75 : Int) (t_76 : Bool) (ts_77 : List V) (ts_78 : Int) (g_0s_79 : List V) =>
            K .ret (mk [(6, .ptr 1 0 0)] [.var [.list T_int ts_77, .int .i64 ts_78], .var [.whole T_api_SfNode 2, .int .i64 (IntKind.wrap .i64 ((IntKind.wrap .i64 (1 + r2.1.toInt)) - 1))], .arr T_api_SfNode g_0s_79 false])) :=
  Eq.trans (execK_items (by kernel_rfl)) (s_semigroupmade_Tape_Graph_18c_eq C t_L t_At letters most K)

noncomputable def f_semigroupmade_Tape_Graph (C : CallF) (t_L : List V) (t_At : Int) (letters : Int) (most : Int) : Option (V × List V) :=
  (C F_semigroupmade_Tape_Next [.ptr 0 0 0, .int .i64 most] [.agg [.list T_int t_L, .int .i64 t_At]]).bind fun r2 =>
    s_semigroupmade_Tape_Graph_14L C letters (IntKind.wrap .i64 (1 + r2.1.toInt)) 0 (((V.nth r2.2 0).cell 0).toList) (((V.nth r2.2 0).cell 1).toInt) ([] : List V)
      (fun (i_75 : Int) (t_76 : Bool) (ts_77 : List V) (ts_78 : Int) (g_0s_79 : List V) =>
        some (.agg [.own T_api_SfNode g_0s_79, .int .i64 (IntKind.wrap .i64 ((IntKind.wrap .i64 (1 + r2.1.toInt)) - 1))], [.agg [.list T_int ts_77, .int .i64 ts_78]]))

theorem f_semigroupmade_Tape_Graph_eq (C : CallF) (t_L : List V) (t_At : Int) (letters : Int) (most : Int) : bodyK Try.prog ann C 9 [.ptr 0 0 0, .int .i64 letters, .int .i64 most] [.agg [.list T_int t_L, .int .i64 t_At]] = f_semigroupmade_Tape_Graph C t_L t_At letters most :=
  Eq.trans (bodyK_fin (by kernel_rfl)) (Eq.trans (f_semigroupmade_Tape_Graph_all C t_L t_At letters most (finK Try.prog ann C 9 [.agg [.list T_int t_L, .int .i64 t_At]])) (by kernel_rfl))

theorem f_semigroupmade_Tape_Graph_of {t_L : List V} {t_At : Int} {letters : Int} {most : Int} {r : V × List V} (h : f_semigroupmade_Tape_Graph CC t_L t_At letters most = some r) : CC F_semigroupmade_Tape_Graph [.ptr 0 0 0, .int .i64 letters, .int .i64 most] [.agg [.list T_int t_L, .int .i64 t_At]] = some r :=
  Call_of_body ((bodyK_eq ..).trans ((f_semigroupmade_Tape_Graph_eq ..).trans h))

end Go.AM

/-
  Star-free graphs: what is valid, what a tape makes.
-/
namespace Go.AM
open Go.Proofs

structure Node where
  op : Int
  letter : Int
  a : Int
  b : Int
  deriving DecidableEq
def Node.v (n : Node) : V := .agg [.int .i64 n.op, .int .i64 n.letter, .int .i64 n.a, .int .i64 n.b]
abbrev nodesV (l : List Node) : List V := l.map Node.v
abbrev graphV (l : List Node) (root : Int) : V := .agg [.list T_api_SfNode (nodesV l), .int .i64 root]

def partsN (op : Int) : Int := if op = 5 ∨ op = 6 ∨ op = 7 then 2 else if op = 8 then 1 else 0

theorem parts_spec (op : Int) : CC F_starfree_parts [.int .i64 op] [] = some (.int .i64 (partsN op), []) := by
  refine f_starfree_parts_of ?_
  unfold f_starfree_parts s_starfree_parts_1 partsN
  by_cases h5 : op = 5
  · subst h5; rfl
  by_cases h6 : op = 6
  · subst h6; rfl
  by_cases h7 : op = 7
  · subst h7; rfl
  by_cases h8 : op = 8
  · subst h8; rfl
  simp [h5, h6, h7, h8]

def validPartB (part i : Int) (needed : Bool) : Bool := if needed then decide (0 ≤ part ∧ part < i) else decide (part = 0)
theorem validPart_spec (part i : Int) (needed : Bool) : CC F_starfree_validPart [.int .i64 part, .int .i64 i, .bool needed] [] = some (.bool (validPartB part i needed), []) := by
  refine f_starfree_validPart_of ?_
  unfold f_starfree_validPart s_starfree_validPart_1 validPartB
  cases needed with
  | false =>
    have : (part == 0) = decide (part = 0) := rfl
    simp [this]
  | true =>
    by_cases h : 0 ≤ part
    · simp [h]
    · simp [h]

def validNodeB (n : Node) (i letters : Int) : Bool :=
  decide (1 ≤ n.op ∧ n.op ≤ 8) && ((if n.op = 3 then decide (0 ≤ n.letter ∧ n.letter < letters) else decide (n.letter = 0)) &&
    (validPartB n.a i (decide (1 ≤ partsN n.op)) && validPartB n.b i (decide (partsN n.op = 2))))

theorem validNode_spec (n : Node) (i letters : Int) : CC F_starfree_validNode [n.v, .int .i64 i, .int .i64 letters] [] = some (.bool (validNodeB n i letters), []) := by
  refine f_starfree_validNode_of ?_
  unfold f_starfree_validNode s_starfree_validNode_1 s_starfree_validNode_2 s_starfree_validNode_3 validNodeB
  simp only [bif_decide, parts_spec, validPart_spec, Option.bind_some, V.toInt_int, V.toBool_bool]
  have e2 : (partsN n.op == 2) = decide (partsN n.op = 2) := rfl
  have e3 : (n.op == 3) = decide (n.op = 3) := rfl
  have e4 : (n.letter != 0) = !decide (n.letter = 0) := rfl
  simp only [e2, e3, e4, ge_iff_le, gt_iff_lt]
  by_cases h1 : n.op < 1
  · rw [if_pos h1]
    have : ¬ (1 ≤ n.op ∧ n.op ≤ 8) := by omega
    simp [this]
  rw [if_neg h1]
  by_cases h2 : 8 < n.op
  · have : ¬ (1 ≤ n.op ∧ n.op ≤ 8) := by omega
    simp [this, h2]
  have h3 : 1 ≤ n.op ∧ n.op ≤ 8 := by omega
  simp only [h2, h3, bif_decide, decide_true, Bool.true_and, and_self]
  cases hA : validPartB n.a i (decide (1 ≤ partsN n.op)) <;> by_cases h5 : n.op = 3 <;> simp only [h5, if_true, if_false, cond_true, cond_false, Bool.false_and, Bool.true_and, Bool.and_false]
  · by_cases h6 : n.letter < 0 <;> by_cases h7 : letters ≤ n.letter <;> simp [h6, h7]
  · by_cases h6 : n.letter = 0 <;> simp [h6]
  · by_cases h6 : n.letter < 0
    · have : ¬ (0 ≤ n.letter) := by omega
      simp [h6, this]
    · have h6' : 0 ≤ n.letter := by omega
      by_cases h7 : letters ≤ n.letter
      · have : ¬ (n.letter < letters) := by omega
        simp [h6, h7, this]
      · have : n.letter < letters := by omega
        simp [h6, h7, this, h6']
  · by_cases h6 : n.letter = 0 <;> simp [h6]

/-- The nodes from number i on are valid. -/
def validFrom (letters : Int) : Nat → List Node → Bool
  | _, [] => true
  | i, n :: l => validNodeB n i letters && validFrom letters (i + 1) l

def validateN (l : List Node) (root letters : Int) : Int :=
  if letters < 1 ∨ 6 < letters then 1 else if 20000 < l.length then 3 else
    if validFrom letters 0 l && decide (0 ≤ root ∧ root < l.length) then 0 else 22

theorem validFrom_iff {letters : Int} : ∀ {l : List Node} {i : Nat}, validFrom letters i l = true ↔ ∀ (j : Nat) n, l[j]? = some n → validNodeB n (i + j : Nat) letters = true
  | [], i => by simp [validFrom]
  | n :: l, i => by
    simp only [validFrom, Bool.and_eq_true, validFrom_iff (l := l)]
    constructor
    · rintro ⟨h1, h2⟩ j m hj
      cases j with
      | zero => cases hj; exact h1
      | succ j =>
        have := h2 j m (by simpa using hj)
        rwa [show i + 1 + j = i + (j + 1) by omega] at this
    · intro h
      refine ⟨h 0 n rfl, fun j m hj => ?_⟩
      have := h (j + 1) m (by simpa using hj)
      rwa [show i + (j + 1) = i + 1 + j by omega] at this

theorem validate_spec (l : List Node) (root letters : Int) (hlen : l.length < 9223372036854775807) :
    CC F_starfree_Validate [graphV l root, .int .i64 letters] [] = some (.int .i64 (validateN l root letters), []) := by
  refine f_starfree_Validate_of ?_
  unfold f_starfree_Validate s_starfree_Validate_1 s_starfree_Validate_2 s_starfree_Validate_4L s_starfree_Validate_6 validateN
  simp only [bif_decide, List.length_map]
  by_cases h1 : letters < 1
  · simp [h1]
  by_cases h2 : letters > 6
  · simp [h1, h2]
  rw [if_neg h1, if_neg h2, if_neg (show ¬ (letters < 1 ∨ 6 < letters) by omega)]
  by_cases h3 : (l.length : Int) > 20000
  · rw [if_pos h3, if_pos (show 20000 < l.length by omega)]
  rw [if_neg h3, if_neg (show ¬ 20000 < l.length by omega)]
  -- the loop
  have key : ∀ (k i : Nat), k + i = l.length → Loop (s_starfree_Validate_4L_step CC letters (nodesV l) (l.length : Int)) (i : Int) =
      some (if validFrom letters i (l.drop i) then .inr ((l.length : Int), false) else .inl ()) := by
    intro k
    induction k with
    | zero =>
      intro i hi
      have : i = l.length := by omega
      subst this
      refine Loop_end ?_
      unfold s_starfree_Validate_4L_step
      simp [validFrom]
    | succ k ih =>
      intro i hi
      have hlt : i < l.length := by omega
      rw [List.drop_eq_getElem_cons hlt, validFrom]
      have hs : s_starfree_Validate_4L_step CC letters (nodesV l) (l.length : Int) (i : Int) = if validNodeB l[i] i letters then some (.inl ((i + 1 : Nat) : Int)) else some (.inr (.inl ())) := by
        unfold s_starfree_Validate_4L_step
        have := validNode_spec l[i] i letters
        simp only [bif_decide]
        rw [if_pos (by omega), idx_map (n := i) rfl hlt]
        simp only [Option.bind_some, Node.v, V.cell_agg, V.nth_zero, V.nth_one, V.nth_two, V.nth_three, V.toInt_int]
        rw [Node.v] at this
        rw [this]
        simp (disch := omega) only [wrap64, Option.bind_some, V.toBool_bool]
        cases validNodeB l[i] i letters <;> simp
      cases hv : validNodeB l[i] i letters with
      | false =>
        rw [hv] at hs
        rw [Loop_end hs]
        simp
      | true =>
        rw [hv] at hs
        rw [Loop_norm hs, ih (i + 1) (by omega)]
        simp
  have := key l.length 0 (by omega)
  rw [show ((0 : Nat) : Int) = 0 from rfl, List.drop_zero] at this
  rw [this]
  cases hv : validFrom letters 0 l with
  | false => simp
  | true =>
    simp only [if_true, Option.bind_some, Bool.true_and]
    by_cases h4 : root < 0
    · rw [if_pos h4, if_neg (by simp; omega)]
    · rw [if_neg h4]
      by_cases h5 : root ≥ (l.length : Int)
      · rw [if_pos h5, if_neg (by simp; omega)]
      · rw [if_neg h5, if_pos (by simp; omega)]

/-- A word: letters from 0 to letters - 1. -/
def wordB (letters : Int) (w : List UInt8) : Bool := w.all fun b => decide (97 ≤ b.toNat ∧ (b.toNat : Int) - 97 < letters)
def wordValidB (w : List UInt8) (letters : Int) : Bool := decide (1 ≤ letters ∧ letters ≤ 6 ∧ w.length ≤ 2048) && wordB letters w

theorem wordValid_spec (w : List UInt8) (letters : Int) : CC F_word_Valid [.str w, .int .i64 letters] [] = some (.bool (wordValidB w letters), []) := by
  refine f_word_Valid_of ?_
  unfold f_word_Valid s_word_Valid_1 s_word_Valid_4L wordValidB
  simp only [bif_decide]
  by_cases h1 : letters < 1
  · rw [if_pos h1]
    have : ¬ (1 ≤ letters ∧ letters ≤ 6 ∧ w.length ≤ 2048) := by omega
    simp [this]
  rw [if_neg h1]
  by_cases h2 : letters > 6
  · rw [if_pos h2]
    have : ¬ (1 ≤ letters ∧ letters ≤ 6 ∧ w.length ≤ 2048) := by omega
    simp [this]
  rw [if_neg h2]
  by_cases h3 : (w.length : Int) > 2048
  · rw [if_pos h3]
    have : ¬ (1 ≤ letters ∧ letters ≤ 6 ∧ w.length ≤ 2048) := by omega
    simp [this]
  rw [if_neg h3]
  have h4 : (1 ≤ letters ∧ letters ≤ 6 ∧ w.length ≤ 2048) := by omega
  simp only [h4, and_self, decide_true, Bool.true_and]
  have key : ∀ (k i : Nat), k + i = w.length → Loop (s_word_Valid_4L_step CC w letters (w.length : Int)) (i : Int) =
      some (if wordB letters (w.drop i) then .inr ((w.length : Int), false) else .inl false) := by
    intro k
    induction k with
    | zero =>
      intro i hi
      have : i = w.length := by omega
      subst this
      refine Loop_end ?_
      unfold s_word_Valid_4L_step s_word_Valid_3
      simp [wordB]
    | succ k ih =>
      intro i hi
      have hlt : i < w.length := by omega
      have hb := w[i].toNat_lt
      rw [List.drop_eq_getElem_cons hlt]
      have hs : s_word_Valid_4L_step CC w letters (w.length : Int) (i : Int) = if 97 ≤ w[i].toNat ∧ (w[i].toNat : Int) - 97 < letters then some (.inl ((i + 1 : Nat) : Int)) else some (.inr (.inl false)) := by
        unfold s_word_Valid_4L_step s_word_Valid_3
        simp only [bif_decide]
        rw [if_pos (by omega), if_pos (by omega)]
        simp only [Int.toNat_natCast, List.getElem?_eq_getElem hlt, Option.map_some, Option.bind_some, V.toInt_int]
        by_cases h6 : (w[i].toNat : Int) < 97
        · rw [if_pos h6, if_neg (by omega)]
        · rw [if_neg h6]
          simp (disch := omega) only [wrap8, wrap64]
          by_cases h7 : (w[i].toNat : Int) - 97 ≥ letters
          · rw [if_pos h7, if_neg (by omega)]
          · rw [if_neg h7, if_pos (by omega)]
            rfl
      unfold wordB at ih ⊢
      simp only [List.all_cons]
      by_cases hv : 97 ≤ w[i].toNat ∧ (w[i].toNat : Int) - 97 < letters
      · rw [if_pos hv] at hs
        rw [Loop_norm hs, ih (i + 1) (by omega)]
        simp [hv]
      · rw [if_neg hv] at hs
        rw [Loop_end hs]
        simp only [hv, decide_false, Bool.false_and]
        rfl
  have := key w.length 0 (by omega)
  rw [show ((0 : Nat) : Int) = 0 from rfl, List.drop_zero] at this
  rw [this]
  cases wordB letters w <;> rfl
end Go.AM

set_option maxRecDepth 100000
namespace Go.AM
open Go.Proofs
/-! (semigroup/starfree.cuts).has -/
theorem s_starfree_cuts_has_1d_eq (C : CallF) (c_0 : Int) (c_1 : Int) (j : Int) {β : Type} (K : Out → St → Option β) :
    execL Try.prog ann C 25 14 0 (codesAt Try.prog 25 [[0], [1, 0], [1, 1]]) (mk [(0, .agg [.int .u64 c_0, .int .u64 c_1]), (1, .int .i64 j)] []) K =
      bif (decide (0 ≤ (IntKind.wrap .i64 (Int.tdiv j 64)))) && (decide ((IntKind.wrap .i64 (Int.tdiv j 64)) < 2)) then
        (([.int .u64 c_0, .int .u64 c_1] : List V)[0 + (((IntKind.wrap .i64 (Int.tdiv j 64) : Int).toNat) * 1)]?).bind fun x2 =>
          bif decide (0 ≤ (Int.tmod j 64)) then
            K .ret (mk [(4, .bool (((IntKind.wrap .u64 ((BitVec.ofInt (IntKind.bits .u64) (Int.fdiv x2.toInt (2 ^ (min (Int.tmod j 64).toNat (IntKind.bits .u64)))) &&& BitVec.ofInt (IntKind.bits .u64) 1).toNat)) : Int) == 1))] [])
          else none
      else none := by kernel_rfl

theorem f_starfree_cuts_has_all (C : CallF) (c_0 : Int) (c_1 : Int) (j : Int) {β : Type} (K : Out → St → Option β) : execK Try.prog ann C 25 (ntmpsOf Try.prog 25) ([] : List V).length (bodyOf Try.prog 25) (enter [.agg [.int .u64 c_0, .int .u64 c_1], .int .i64 j] []) K =
      bif (decide (0 ≤ (IntKind.wrap .i64 (Int.tdiv j 64)))) && (decide ((IntKind.wrap .i64 (Int.tdiv j 64)) < 2)) then
        (([.int .u64 c_0, .int .u64 c_1] : List V)[0 + (((IntKind.wrap .i64 (Int.tdiv j 64) : Int).toNat) * 1)]?).bind fun x2 =>
          bif decide (0 ≤ (Int.tmod j 64)) then
            K .ret (mk [(4, .bool (((IntKind.wrap .u64 ((BitVec.ofInt (IntKind.bits .u64) (Int.fdiv x2.toInt (2 ^ (min (Int.tmod j 64).toNat (IntKind.bits .u64)))) &&& BitVec.ofInt (IntKind.bits .u64) 1).toNat)) : Int) == 1))] [])
          else none
      else none :=
  Eq.trans (execK_items (by kernel_rfl)) (s_starfree_cuts_has_1d_eq C c_0 c_1 j K)

noncomputable def f_starfree_cuts_has (C : CallF) (c_0 : Int) (c_1 : Int) (j : Int) : Option (V × List V) :=
  bif (decide (0 ≤ (IntKind.wrap .i64 (Int.tdiv j 64)))) && (decide ((IntKind.wrap .i64 (Int.tdiv j 64)) < 2)) then
    (([.int .u64 c_0, .int .u64 c_1] : List V)[0 + (((IntKind.wrap .i64 (Int.tdiv j 64) : Int).toNat) * 1)]?).bind fun x2 =>
      bif decide (0 ≤ (Int.tmod j 64)) then
        some (.bool (((IntKind.wrap .u64 ((BitVec.ofInt (IntKind.bits .u64) (Int.fdiv x2.toInt (2 ^ (min (Int.tmod j 64).toNat (IntKind.bits .u64)))) &&& BitVec.ofInt (IntKind.bits .u64) 1).toNat)) : Int) == 1), [])
      else none
  else none

theorem f_starfree_cuts_has_eq (C : CallF) (c_0 : Int) (c_1 : Int) (j : Int) : bodyK Try.prog ann C 25 [.agg [.int .u64 c_0, .int .u64 c_1], .int .i64 j] [] = f_starfree_cuts_has C c_0 c_1 j :=
  Eq.trans (bodyK_fin (by kernel_rfl)) (Eq.trans (f_starfree_cuts_has_all C c_0 c_1 j (finK Try.prog ann C 25 [])) (by kernel_rfl))

theorem f_starfree_cuts_has_of {c_0 : Int} {c_1 : Int} {j : Int} {r : V × List V} (h : f_starfree_cuts_has CC c_0 c_1 j = some r) : CC F_starfree_cuts_has [.agg [.int .u64 c_0, .int .u64 c_1], .int .i64 j] [] = some r :=
  Call_of_body ((bodyK_eq ..).trans ((f_starfree_cuts_has_eq ..).trans h))

end Go.AM

set_option maxRecDepth 100000
namespace Go.AM
open Go.Proofs
/-! (semigroup/starfree.cuts).with -/
theorem s_starfree_cuts_with_1d_eq (C : CallF) (c_0 : Int) (c_1 : Int) (j : Int) {β : Type} (K : Out → St → Option β) :
    execL Try.prog ann C 34 15 0 (codesAt Try.prog 34 [[0], [1, 0], [1, 1, 0], [1, 1, 1]]) (mk [(0, .agg [.int .u64 c_0, .int .u64 c_1]), (1, .int .i64 j)] []) K =
      bif (decide (0 ≤ (IntKind.wrap .i64 (Int.tdiv j 64)))) && (decide ((IntKind.wrap .i64 (Int.tdiv j 64)) < 2)) then
        (([.int .u64 c_0, .int .u64 c_1] : List V)[0 + (((IntKind.wrap .i64 (Int.tdiv j 64) : Int).toNat) * 1)]?).bind fun x3 =>
          bif decide (0 ≤ (Int.tmod j 64)) then
            bif (decide (0 ≤ (IntKind.wrap .i64 (Int.tdiv j 64)))) && (decide ((IntKind.wrap .i64 (Int.tdiv j 64)) < 2)) then
              bif Nat.blt (0 + (((IntKind.wrap .i64 (Int.tdiv j 64) : Int).toNat) * 1)) 2 then
                K .ret (mk [(4, .ptr 0 0 0)] [.var [.int .u64 (bif Nat.beq (0 + (((IntKind.wrap .i64 (Int.tdiv j 64) : Int).toNat) * 1)) 0 then IntKind.wrap .u64 ((BitVec.ofInt (IntKind.bits .u64) x3.toInt ||| BitVec.ofInt (IntKind.bits .u64) (IntKind.wrap .u64 (1 * 2 ^ (min (Int.tmod j 64).toNat (IntKind.bits .u64))))).toNat) else c_0), .int .u64 (bif Nat.beq (0 + (((IntKind.wrap .i64 (Int.tdiv j 64) : Int).toNat) * 1)) 1 then IntKind.wrap .u64 ((BitVec.ofInt (IntKind.bits .u64) x3.toInt ||| BitVec.ofInt (IntKind.bits .u64) (IntKind.wrap .u64 (1 * 2 ^ (min (Int.tmod j 64).toNat (IntKind.bits .u64))))).toNat) else c_1)]])
              else none
            else none
          else none
      else none := by kernel_rfl

theorem f_starfree_cuts_with_all (C : CallF) (c_0 : Int) (c_1 : Int) (j : Int) {β : Type} (K : Out → St → Option β) : execK Try.prog ann C 34 (ntmpsOf Try.prog 34) ([] : List V).length (bodyOf Try.prog 34) (enter [.agg [.int .u64 c_0, .int .u64 c_1], .int .i64 j] []) K =
      bif (decide (0 ≤ (IntKind.wrap .i64 (Int.tdiv j 64)))) && (decide ((IntKind.wrap .i64 (Int.tdiv j 64)) < 2)) then
        (([.int .u64 c_0, .int .u64 c_1] : List V)[0 + (((IntKind.wrap .i64 (Int.tdiv j 64) : Int).toNat) * 1)]?).bind fun x3 =>
          bif decide (0 ≤ (Int.tmod j 64)) then
            bif (decide (0 ≤ (IntKind.wrap .i64 (Int.tdiv j 64)))) && (decide ((IntKind.wrap .i64 (Int.tdiv j 64)) < 2)) then
              bif Nat.blt (0 + (((IntKind.wrap .i64 (Int.tdiv j 64) : Int).toNat) * 1)) 2 then
                K .ret (mk [(4, .ptr 0 0 0)] [.var [.int .u64 (bif Nat.beq (0 + (((IntKind.wrap .i64 (Int.tdiv j 64) : Int).toNat) * 1)) 0 then IntKind.wrap .u64 ((BitVec.ofInt (IntKind.bits .u64) x3.toInt ||| BitVec.ofInt (IntKind.bits .u64) (IntKind.wrap .u64 (1 * 2 ^ (min (Int.tmod j 64).toNat (IntKind.bits .u64))))).toNat) else c_0), .int .u64 (bif Nat.beq (0 + (((IntKind.wrap .i64 (Int.tdiv j 64) : Int).toNat) * 1)) 1 then IntKind.wrap .u64 ((BitVec.ofInt (IntKind.bits .u64) x3.toInt ||| BitVec.ofInt (IntKind.bits .u64) (IntKind.wrap .u64 (1 * 2 ^ (min (Int.tmod j 64).toNat (IntKind.bits .u64))))).toNat) else c_1)]])
              else none
            else none
          else none
      else none :=
  Eq.trans (execK_items (by kernel_rfl)) (s_starfree_cuts_with_1d_eq C c_0 c_1 j K)

noncomputable def f_starfree_cuts_with (C : CallF) (c_0 : Int) (c_1 : Int) (j : Int) : Option (V × List V) :=
  bif (decide (0 ≤ (IntKind.wrap .i64 (Int.tdiv j 64)))) && (decide ((IntKind.wrap .i64 (Int.tdiv j 64)) < 2)) then
    (([.int .u64 c_0, .int .u64 c_1] : List V)[0 + (((IntKind.wrap .i64 (Int.tdiv j 64) : Int).toNat) * 1)]?).bind fun x3 =>
      bif decide (0 ≤ (Int.tmod j 64)) then
        bif (decide (0 ≤ (IntKind.wrap .i64 (Int.tdiv j 64)))) && (decide ((IntKind.wrap .i64 (Int.tdiv j 64)) < 2)) then
          bif Nat.blt (0 + (((IntKind.wrap .i64 (Int.tdiv j 64) : Int).toNat) * 1)) 2 then
            some (.agg [.int .u64 (bif Nat.beq (0 + (((IntKind.wrap .i64 (Int.tdiv j 64) : Int).toNat) * 1)) 0 then IntKind.wrap .u64 ((BitVec.ofInt (IntKind.bits .u64) x3.toInt ||| BitVec.ofInt (IntKind.bits .u64) (IntKind.wrap .u64 (1 * 2 ^ (min (Int.tmod j 64).toNat (IntKind.bits .u64))))).toNat) else c_0), .int .u64 (bif Nat.beq (0 + (((IntKind.wrap .i64 (Int.tdiv j 64) : Int).toNat) * 1)) 1 then IntKind.wrap .u64 ((BitVec.ofInt (IntKind.bits .u64) x3.toInt ||| BitVec.ofInt (IntKind.bits .u64) (IntKind.wrap .u64 (1 * 2 ^ (min (Int.tmod j 64).toNat (IntKind.bits .u64))))).toNat) else c_1)], [])
          else none
        else none
      else none
  else none

theorem f_starfree_cuts_with_eq (C : CallF) (c_0 : Int) (c_1 : Int) (j : Int) : bodyK Try.prog ann C 34 [.agg [.int .u64 c_0, .int .u64 c_1], .int .i64 j] [] = f_starfree_cuts_with C c_0 c_1 j :=
  Eq.trans (bodyK_fin (by kernel_rfl)) (Eq.trans (f_starfree_cuts_with_all C c_0 c_1 j (finK Try.prog ann C 34 [])) (by kernel_rfl))

theorem f_starfree_cuts_with_of {c_0 : Int} {c_1 : Int} {j : Int} {r : V × List V} (h : f_starfree_cuts_with CC c_0 c_1 j = some r) : CC F_starfree_cuts_with [.agg [.int .u64 c_0, .int .u64 c_1], .int .i64 j] [] = some r :=
  Call_of_body ((bodyK_eq ..).trans ((f_starfree_cuts_with_eq ..).trans h))

end Go.AM

set_option maxRecDepth 100000
namespace Go.AM
open Go.Proofs
/-! (semigroup/starfree.cuts).union -/
theorem s_starfree_cuts_union_1d_eq (C : CallF) (c_0 : Int) (c_1 : Int) (d_0 : Int) (d_1 : Int) {β : Type} (K : Out → St → Option β) :
    execL Try.prog ann C 36 16 0 (codesAt Try.prog 36 [[0], [1, 0], [1, 1]]) (mk [(0, .agg [.int .u64 c_0, .int .u64 c_1]), (1, .agg [.int .u64 d_0, .int .u64 d_1])] []) K =
      K .ret (mk [(4, .ptr 0 0 0)] [.var [.int .u64 (IntKind.wrap .u64 ((BitVec.ofInt (IntKind.bits .u64) c_0 ||| BitVec.ofInt (IntKind.bits .u64) d_0).toNat)), .int .u64 (IntKind.wrap .u64 ((BitVec.ofInt (IntKind.bits .u64) c_1 ||| BitVec.ofInt (IntKind.bits .u64) d_1).toNat))]]) := by kernel_rfl

theorem f_starfree_cuts_union_all (C : CallF) (c_0 : Int) (c_1 : Int) (d_0 : Int) (d_1 : Int) {β : Type} (K : Out → St → Option β) : execK Try.prog ann C 36 (ntmpsOf Try.prog 36) ([] : List V).length (bodyOf Try.prog 36) (enter [.agg [.int .u64 c_0, .int .u64 c_1], .agg [.int .u64 d_0, .int .u64 d_1]] []) K =
      K .ret (mk [(4, .ptr 0 0 0)] [.var [.int .u64 (IntKind.wrap .u64 ((BitVec.ofInt (IntKind.bits .u64) c_0 ||| BitVec.ofInt (IntKind.bits .u64) d_0).toNat)), .int .u64 (IntKind.wrap .u64 ((BitVec.ofInt (IntKind.bits .u64) c_1 ||| BitVec.ofInt (IntKind.bits .u64) d_1).toNat))]]) :=
  Eq.trans (execK_items (by kernel_rfl)) (s_starfree_cuts_union_1d_eq C c_0 c_1 d_0 d_1 K)

noncomputable def f_starfree_cuts_union (C : CallF) (c_0 : Int) (c_1 : Int) (d_0 : Int) (d_1 : Int) : Option (V × List V) :=
  some (.agg [.int .u64 (IntKind.wrap .u64 ((BitVec.ofInt (IntKind.bits .u64) c_0 ||| BitVec.ofInt (IntKind.bits .u64) d_0).toNat)), .int .u64 (IntKind.wrap .u64 ((BitVec.ofInt (IntKind.bits .u64) c_1 ||| BitVec.ofInt (IntKind.bits .u64) d_1).toNat))], [])

theorem f_starfree_cuts_union_eq (C : CallF) (c_0 : Int) (c_1 : Int) (d_0 : Int) (d_1 : Int) : bodyK Try.prog ann C 36 [.agg [.int .u64 c_0, .int .u64 c_1], .agg [.int .u64 d_0, .int .u64 d_1]] [] = f_starfree_cuts_union C c_0 c_1 d_0 d_1 :=
  Eq.trans (bodyK_fin (by kernel_rfl)) (Eq.trans (f_starfree_cuts_union_all C c_0 c_1 d_0 d_1 (finK Try.prog ann C 36 [])) (by kernel_rfl))

theorem f_starfree_cuts_union_of {c_0 : Int} {c_1 : Int} {d_0 : Int} {d_1 : Int} {r : V × List V} (h : f_starfree_cuts_union CC c_0 c_1 d_0 d_1 = some r) : CC F_starfree_cuts_union [.agg [.int .u64 c_0, .int .u64 c_1], .agg [.int .u64 d_0, .int .u64 d_1]] [] = some r :=
  Call_of_body ((bodyK_eq ..).trans ((f_starfree_cuts_union_eq ..).trans h))

end Go.AM

set_option maxRecDepth 100000
namespace Go.AM
open Go.Proofs
/-! (semigroup/starfree.cuts).meet -/
theorem s_starfree_cuts_meet_1d_eq (C : CallF) (c_0 : Int) (c_1 : Int) (d_0 : Int) (d_1 : Int) {β : Type} (K : Out → St → Option β) :
    execL Try.prog ann C 37 16 0 (codesAt Try.prog 37 [[0], [1, 0], [1, 1]]) (mk [(0, .agg [.int .u64 c_0, .int .u64 c_1]), (1, .agg [.int .u64 d_0, .int .u64 d_1])] []) K =
      K .ret (mk [(4, .ptr 0 0 0)] [.var [.int .u64 (IntKind.wrap .u64 ((BitVec.ofInt (IntKind.bits .u64) c_0 &&& BitVec.ofInt (IntKind.bits .u64) d_0).toNat)), .int .u64 (IntKind.wrap .u64 ((BitVec.ofInt (IntKind.bits .u64) c_1 &&& BitVec.ofInt (IntKind.bits .u64) d_1).toNat))]]) := by kernel_rfl

theorem f_starfree_cuts_meet_all (C : CallF) (c_0 : Int) (c_1 : Int) (d_0 : Int) (d_1 : Int) {β : Type} (K : Out → St → Option β) : execK Try.prog ann C 37 (ntmpsOf Try.prog 37) ([] : List V).length (bodyOf Try.prog 37) (enter [.agg [.int .u64 c_0, .int .u64 c_1], .agg [.int .u64 d_0, .int .u64 d_1]] []) K =
      K .ret (mk [(4, .ptr 0 0 0)] [.var [.int .u64 (IntKind.wrap .u64 ((BitVec.ofInt (IntKind.bits .u64) c_0 &&& BitVec.ofInt (IntKind.bits .u64) d_0).toNat)), .int .u64 (IntKind.wrap .u64 ((BitVec.ofInt (IntKind.bits .u64) c_1 &&& BitVec.ofInt (IntKind.bits .u64) d_1).toNat))]]) :=
  Eq.trans (execK_items (by kernel_rfl)) (s_starfree_cuts_meet_1d_eq C c_0 c_1 d_0 d_1 K)

noncomputable def f_starfree_cuts_meet (C : CallF) (c_0 : Int) (c_1 : Int) (d_0 : Int) (d_1 : Int) : Option (V × List V) :=
  some (.agg [.int .u64 (IntKind.wrap .u64 ((BitVec.ofInt (IntKind.bits .u64) c_0 &&& BitVec.ofInt (IntKind.bits .u64) d_0).toNat)), .int .u64 (IntKind.wrap .u64 ((BitVec.ofInt (IntKind.bits .u64) c_1 &&& BitVec.ofInt (IntKind.bits .u64) d_1).toNat))], [])

theorem f_starfree_cuts_meet_eq (C : CallF) (c_0 : Int) (c_1 : Int) (d_0 : Int) (d_1 : Int) : bodyK Try.prog ann C 37 [.agg [.int .u64 c_0, .int .u64 c_1], .agg [.int .u64 d_0, .int .u64 d_1]] [] = f_starfree_cuts_meet C c_0 c_1 d_0 d_1 :=
  Eq.trans (bodyK_fin (by kernel_rfl)) (Eq.trans (f_starfree_cuts_meet_all C c_0 c_1 d_0 d_1 (finK Try.prog ann C 37 [])) (by kernel_rfl))

theorem f_starfree_cuts_meet_of {c_0 : Int} {c_1 : Int} {d_0 : Int} {d_1 : Int} {r : V × List V} (h : f_starfree_cuts_meet CC c_0 c_1 d_0 d_1 = some r) : CC F_starfree_cuts_meet [.agg [.int .u64 c_0, .int .u64 c_1], .agg [.int .u64 d_0, .int .u64 d_1]] [] = some r :=
  Call_of_body ((bodyK_eq ..).trans ((f_starfree_cuts_meet_eq ..).trans h))

end Go.AM

set_option maxRecDepth 100000
namespace Go.AM
open Go.Proofs
/-! (semigroup/starfree.cuts).without -/
theorem s_starfree_cuts_without_1d_eq (C : CallF) (c_0 : Int) (c_1 : Int) (d_0 : Int) (d_1 : Int) {β : Type} (K : Out → St → Option β) :
    execL Try.prog ann C 38 16 0 (codesAt Try.prog 38 [[0], [1, 0], [1, 1]]) (mk [(0, .agg [.int .u64 c_0, .int .u64 c_1]), (1, .agg [.int .u64 d_0, .int .u64 d_1])] []) K =
      K .ret (mk [(4, .ptr 0 0 0)] [.var [.int .u64 (IntKind.wrap .u64 ((BitVec.ofInt (IntKind.bits .u64) c_0 &&& ~~~ BitVec.ofInt (IntKind.bits .u64) d_0).toNat)), .int .u64 (IntKind.wrap .u64 ((BitVec.ofInt (IntKind.bits .u64) c_1 &&& ~~~ BitVec.ofInt (IntKind.bits .u64) d_1).toNat))]]) := by kernel_rfl

theorem f_starfree_cuts_without_all (C : CallF) (c_0 : Int) (c_1 : Int) (d_0 : Int) (d_1 : Int) {β : Type} (K : Out → St → Option β) : execK Try.prog ann C 38 (ntmpsOf Try.prog 38) ([] : List V).length (bodyOf Try.prog 38) (enter [.agg [.int .u64 c_0, .int .u64 c_1], .agg [.int .u64 d_0, .int .u64 d_1]] []) K =
      K .ret (mk [(4, .ptr 0 0 0)] [.var [.int .u64 (IntKind.wrap .u64 ((BitVec.ofInt (IntKind.bits .u64) c_0 &&& ~~~ BitVec.ofInt (IntKind.bits .u64) d_0).toNat)), .int .u64 (IntKind.wrap .u64 ((BitVec.ofInt (IntKind.bits .u64) c_1 &&& ~~~ BitVec.ofInt (IntKind.bits .u64) d_1).toNat))]]) :=
  Eq.trans (execK_items (by kernel_rfl)) (s_starfree_cuts_without_1d_eq C c_0 c_1 d_0 d_1 K)

noncomputable def f_starfree_cuts_without (C : CallF) (c_0 : Int) (c_1 : Int) (d_0 : Int) (d_1 : Int) : Option (V × List V) :=
  some (.agg [.int .u64 (IntKind.wrap .u64 ((BitVec.ofInt (IntKind.bits .u64) c_0 &&& ~~~ BitVec.ofInt (IntKind.bits .u64) d_0).toNat)), .int .u64 (IntKind.wrap .u64 ((BitVec.ofInt (IntKind.bits .u64) c_1 &&& ~~~ BitVec.ofInt (IntKind.bits .u64) d_1).toNat))], [])

theorem f_starfree_cuts_without_eq (C : CallF) (c_0 : Int) (c_1 : Int) (d_0 : Int) (d_1 : Int) : bodyK Try.prog ann C 38 [.agg [.int .u64 c_0, .int .u64 c_1], .agg [.int .u64 d_0, .int .u64 d_1]] [] = f_starfree_cuts_without C c_0 c_1 d_0 d_1 :=
  Eq.trans (bodyK_fin (by kernel_rfl)) (Eq.trans (f_starfree_cuts_without_all C c_0 c_1 d_0 d_1 (finK Try.prog ann C 38 [])) (by kernel_rfl))

theorem f_starfree_cuts_without_of {c_0 : Int} {c_1 : Int} {d_0 : Int} {d_1 : Int} {r : V × List V} (h : f_starfree_cuts_without CC c_0 c_1 d_0 d_1 = some r) : CC F_starfree_cuts_without [.agg [.int .u64 c_0, .int .u64 c_1], .agg [.int .u64 d_0, .int .u64 d_1]] [] = some r :=
  Call_of_body ((bodyK_eq ..).trans ((f_starfree_cuts_without_eq ..).trans h))

end Go.AM

set_option maxRecDepth 100000
namespace Go.AM
open Go.Proofs
/-! semigroup/starfree.between -/
theorem s_starfree_between_1d_eq (C : CallF) (first : Int) (last : Int) {β : Type} (K : Out → St → Option β) :
    execL Try.prog ann C 35 17 0 (codesAt Try.prog 35 [[0], [1, 0], [1, 1, 0, 0]]) (mk [(0, .int .i64 first), (1, .int .i64 last)] []) K =
      K .norm (mk [(1, .int .i64 last), (4, .ptr 0 0 0), (5, .ptr 1 0 0), (6, .int .i64 first)] [.var [.int .u64 0, .int .u64 0], .var [.int .u64 0, .int .u64 0]]) := by kernel_rfl

theorem s_starfree_between_2d_eq (C : CallF) (last : Int) (j : Int) (t4s_0 : Int) (t4s_1 : Int) (cs_0 : Int) (cs_1 : Int) {β : Type} (K : Out → St → Option β) :
    execL Try.prog ann C 35 17 0 (codesAt Try.prog 35 [[1, 1, 0, 1, 0, 0, 0, 0], [1, 1, 0, 1, 0, 0, 0, 1], [1, 1, 0, 1, 0, 0, 1, 0], [1, 1, 0, 1, 0, 0, 1, 1]]) (mk [(1, .int .i64 last), (4, .ptr 0 0 0), (5, .ptr 1 0 0), (6, .int .i64 j)] [.var [.int .u64 t4s_0, .int .u64 t4s_1], .var [.int .u64 cs_0, .int .u64 cs_1]]) K =
      bif decide ((j : Int) ≤ last) then
        (C F_starfree_cuts_with [.agg [.int .u64 cs_0, .int .u64 cs_1], .int .i64 j] []).bind fun r2 =>
          K .norm (mk [(1, .int .i64 last), (4, .ptr 0 0 0), (5, .ptr 1 0 0), (6, .int .i64 (IntKind.wrap .i64 (j + 1)))] [.var [.int .u64 t4s_0, .int .u64 t4s_1], .var [.int .u64 ((r2.1.cell 0).toInt), .int .u64 ((r2.1.cell 1).toInt)]])
      else
        K (.exit 0) (mk [(1, .int .i64 last), (4, .ptr 0 0 0), (5, .ptr 1 0 0), (6, .int .i64 j), (10, .bool (decide ((j : Int) ≤ last)))] [.var [.int .u64 t4s_0, .int .u64 t4s_1], .var [.int .u64 cs_0, .int .u64 cs_1]]) := by kernel_rfl

noncomputable def s_starfree_between_3L_step (C : CallF) (last : Int) : (Int × Int × Int) → Option ((Int × Int × Int) ⊕ ((Int × Bool × Int × Int))) := fun (j, cs_0, cs_1) =>
  bif decide ((j : Int) ≤ last) then
    (C F_starfree_cuts_with [.agg [.int .u64 cs_0, .int .u64 cs_1], .int .i64 j] []).bind fun r2 =>
      some (.inl (IntKind.wrap .i64 (j + 1), ((r2.1.cell 0).toInt), ((r2.1.cell 1).toInt)))
  else
    some (.inr (j, decide ((j : Int) ≤ last), cs_0, cs_1))

noncomputable def s_starfree_between_3L (C : CallF) (last : Int) (j : Int) (cs_0 : Int) (cs_1 : Int) {β : Type} (k0 : Int → Bool → Int → Int → Option β) : Option β :=
  (Loop (s_starfree_between_3L_step C last) (j, cs_0, cs_1)).bind fun (j0, t100, cs_00, cs_10) => k0 j0 t100 cs_00 cs_10

def s_starfree_between_3L_dec : Out → St → Option ((Int × Int × Int) ⊕ ((Int × Bool × Int × Int))) := fun o st => match o with
    | .norm => some (.inl (V.toInt (st.sl 6), V.toInt (V.nth (varOf (st.hp 1)) 0), V.toInt (V.nth (varOf (st.hp 1)) 1)))
    | .exit q => bif Nat.beq q 0 then some (.inr (V.toInt (st.sl 6), V.toBool (st.sl 10), V.toInt (V.nth (varOf (st.hp 1)) 0), V.toInt (V.nth (varOf (st.hp 1)) 1))) else none
    | .ret => none

def s_starfree_between_3L_hd (last : Int) (t4s_0 : Int) (t4s_1 : Int) : (Int × Int × Int) → St := fun (j, cs_0, cs_1) => mk [(1, .int .i64 last), (4, .ptr 0 0 0), (5, .ptr 1 0 0), (6, .int .i64 j)] [.var [.int .u64 t4s_0, .int .u64 t4s_1], .var [.int .u64 cs_0, .int .u64 cs_1]]

def s_starfree_between_3L_enc (last : Int) (t4s_0 : Int) (t4s_1 : Int) : ((Int × Bool × Int × Int)) → Out × St := fun (j0, t100, cs_00, cs_10) => (.exit 0, mk [(1, .int .i64 last), (4, .ptr 0 0 0), (5, .ptr 1 0 0), (6, .int .i64 j0), (10, .bool t100)] [.var [.int .u64 t4s_0, .int .u64 t4s_1], .var [.int .u64 cs_00, .int .u64 cs_10]])

theorem s_starfree_between_3L_eq (C : CallF) (last : Int) (j : Int) (t4s_0 : Int) (t4s_1 : Int) (cs_0 : Int) (cs_1 : Int) {β : Type} (K : Out → St → Option β) :
    execL Try.prog ann C 35 17 0 (codesAt Try.prog 35 [[1, 1, 0, 1, 0]]) (mk [(1, .int .i64 last), (4, .ptr 0 0 0), (5, .ptr 1 0 0), (6, .int .i64 j)] [.var [.int .u64 t4s_0, .int .u64 t4s_1], .var [.int .u64 cs_0, .int .u64 cs_1]]) K =
      s_starfree_between_3L C last j cs_0 cs_1
        (fun (j0 : Int) (t100 : Bool) (cs_00 : Int) (cs_10 : Int) => K (.exit 0) (mk [(1, .int .i64 last), (4, .ptr 0 0 0), (5, .ptr 1 0 0), (6, .int .i64 j0), (10, .bool t100)] [.var [.int .u64 t4s_0, .int .u64 t4s_1], .var [.int .u64 cs_00, .int .u64 cs_10]])) := by
  have hitems : flatC (codeAt [1, 1, 0, 1, 0, 0] (bodyOf Try.prog 35)) = codesAt Try.prog 35 [[1, 1, 0, 1, 0, 0, 0, 0], [1, 1, 0, 1, 0, 0, 0, 1], [1, 1, 0, 1, 0, 0, 1, 0], [1, 1, 0, 1, 0, 0, 1, 1]] := by kernel_rfl
  have hloop : [codeAt [1, 1, 0, 1, 0] (bodyOf Try.prog 35)] = [Code.loop (codeAt [1, 1, 0, 1, 0, 0] (bodyOf Try.prog 35))] := by kernel_rfl
  have h := loopK_eq (P := Try.prog) (A := ann) (C := C) (f := 35) (n := 17) (m := 0) (c := codeAt [1, 1, 0, 1, 0, 0] (bodyOf Try.prog 35)) (s_starfree_between_3L_hd last t4s_0 t4s_1) (s_starfree_between_3L_enc last t4s_0 t4s_1) s_starfree_between_3L_dec (s_starfree_between_3L_step C last)
    (by rintro ⟨j, cs_0, cs_1⟩; exact Eq.trans (execK_items hitems) (Eq.trans (s_starfree_between_2d_eq C last j t4s_0 t4s_1 cs_0 cs_1 s_starfree_between_3L_dec) (by kernel_rfl)))
    (by rintro ⟨j, cs_0, cs_1⟩; exact Eq.trans (execK_items hitems) (Eq.trans (s_starfree_between_2d_eq C last j t4s_0 t4s_1 cs_0 cs_1 (fun o st => some (o, st))) (Eq.trans (by kernel_rfl) (Eq.trans (s_starfree_between_2d_eq C last j t4s_0 t4s_1 cs_0 cs_1 (fun o st => (s_starfree_between_3L_dec o st).map (outS (s_starfree_between_3L_hd last t4s_0 t4s_1) (s_starfree_between_3L_enc last t4s_0 t4s_1)))).symm (execK_items hitems).symm))))
    (by intro r; intro h; cases h) (j, cs_0, cs_1) K
  refine Eq.trans (congrArg (fun l => execL Try.prog ann C 35 17 0 l (mk [(1, .int .i64 last), (4, .ptr 0 0 0), (5, .ptr 1 0 0), (6, .int .i64 j)] [.var [.int .u64 t4s_0, .int .u64 t4s_1], .var [.int .u64 cs_0, .int .u64 cs_1]]) K) hloop) (Eq.trans h ?_)
  · refine congrArg _ (funext fun r => ?_)
    rfl

theorem s_starfree_between_4b_eq (C : CallF) (last : Int) (j : Int) (t4s_0 : Int) (t4s_1 : Int) (cs_0 : Int) (cs_1 : Int) {β : Type} (K : Out → St → Option β) :
    execL Try.prog ann C 35 17 0 (codesAt Try.prog 35 [[1, 1, 0, 1]]) (mk [(1, .int .i64 last), (4, .ptr 0 0 0), (5, .ptr 1 0 0), (6, .int .i64 j)] [.var [.int .u64 t4s_0, .int .u64 t4s_1], .var [.int .u64 cs_0, .int .u64 cs_1]]) K =
      s_starfree_between_3L C last j cs_0 cs_1
        (fun (j_3 : Int) (t_4 : Bool) (cs_5 : Int) (cs_6 : Int) =>
          K .norm (mk [(4, .ptr 0 0 0), (5, .ptr 1 0 0)] [.var [.int .u64 t4s_0, .int .u64 t4s_1], .var [.int .u64 cs_5, .int .u64 cs_6]])) := Eq.trans (execL_block (P := Try.prog) (A := ann) (C := C) (f := 35) (n := 17) (m := 0) (id := 0) (c := codeAt [1, 1, 0, 1] (bodyOf Try.prog 35)) (d := codeAt [1, 1, 0, 1, 0] (bodyOf Try.prog 35)) (l := codesAt Try.prog 35 [[1, 1, 0, 1, 0]]) (st := mk [(1, .int .i64 last), (4, .ptr 0 0 0), (5, .ptr 1 0 0), (6, .int .i64 j)] [.var [.int .u64 t4s_0, .int .u64 t4s_1], .var [.int .u64 cs_0, .int .u64 cs_1]]) (K := K) (by kernel_rfl) (by kernel_rfl)) (Eq.trans (s_starfree_between_3L_eq C last j t4s_0 t4s_1 cs_0 cs_1 (blockK ann 35 0 0 K)) (by kernel_rfl))

theorem s_starfree_between_5d_eq (C : CallF) (t4s_0 : Int) (t4s_1 : Int) (cs_0 : Int) (cs_1 : Int) {β : Type} (K : Out → St → Option β) :
    execL Try.prog ann C 35 17 0 (codesAt Try.prog 35 [[1, 1, 1, 0], [1, 1, 1, 1]]) (mk [(4, .ptr 0 0 0), (5, .ptr 1 0 0)] [.var [.int .u64 t4s_0, .int .u64 t4s_1], .var [.int .u64 cs_0, .int .u64 cs_1]]) K =
      K .ret (mk [(4, .ptr 0 0 0)] [.var [.int .u64 cs_0, .int .u64 cs_1]]) := by kernel_rfl

theorem s_starfree_between_6c_eq (C : CallF) (last : Int) (j : Int) (t4s_0 : Int) (t4s_1 : Int) (cs_0 : Int) (cs_1 : Int) {β : Type} (K : Out → St → Option β) :
    execL Try.prog ann C 35 17 0 (codesAt Try.prog 35 [[1, 1, 0, 1], [1, 1, 1, 0], [1, 1, 1, 1]]) (mk [(1, .int .i64 last), (4, .ptr 0 0 0), (5, .ptr 1 0 0), (6, .int .i64 j)] [.var [.int .u64 t4s_0, .int .u64 t4s_1], .var [.int .u64 cs_0, .int .u64 cs_1]]) K =
      s_starfree_between_3L C last j cs_0 cs_1
        (fun (j_3 : Int) (t_4 : Bool) (cs_5 : Int) (cs_6 : Int) =>
          K .ret (mk [(4, .ptr 0 0 0)] [.var [.int .u64 cs_5, .int .u64 cs_6]])) := by
  refine Eq.trans (execL_app (P := Try.prog) (A := ann) (C := C) (f := 35) (n := 17) (m := 0) (codesAt Try.prog 35 [[1, 1, 0, 1]]) (codesAt Try.prog 35 [[1, 1, 1, 0], [1, 1, 1, 1]]) (st := mk [(1, .int .i64 last), (4, .ptr 0 0 0), (5, .ptr 1 0 0), (6, .int .i64 j)] [.var [.int .u64 t4s_0, .int .u64 t4s_1], .var [.int .u64 cs_0, .int .u64 cs_1]]) (K := K)) (Eq.trans (s_starfree_between_4b_eq C last j t4s_0 t4s_1 cs_0 cs_1 (seqK Try.prog ann C 35 17 0 (codesAt Try.prog 35 [[1, 1, 1, 0], [1, 1, 1, 1]]) K)) ?_)
  · exact Eq.trans (by kernel_rfl) (Eq.trans (congrArg (fun HOLE : Int → Int → Option β => (s_starfree_between_3L C last j cs_0 cs_1
        (fun (j_3 : Int) (t_4 : Bool) (cs_5 : Int) (cs_6 : Int) =>
          HOLE cs_5 cs_6))) (funext fun (cs_00 : Int) => funext fun (cs_10 : Int) => s_starfree_between_5d_eq C t4s_0 t4s_1 cs_00 cs_10 K)) ((by kernel_rfl)))


theorem s_starfree_between_7c_eq (C : CallF) (first : Int) (last : Int) {β : Type} (K : Out → St → Option β) :
    execL Try.prog ann C 35 17 0 (codesAt Try.prog 35 [[0], [1, 0], [1, 1, 0, 0], [1, 1, 0, 1], [1, 1, 1, 0], [1, 1, 1, 1]]) (mk [(0, .int .i64 first), (1, .int .i64 last)] []) K =
      s_starfree_between_3L C last first 0 0
        (fun (j_3 : Int) (t_4 : Bool) (cs_5 : Int) (cs_6 : Int) =>
          K .ret (mk [(4, .ptr 0 0 0)] [.var [.int .u64 cs_5, .int .u64 cs_6]])) := by
  refine Eq.trans (execL_app (P := Try.prog) (A := ann) (C := C) (f := 35) (n := 17) (m := 0) (codesAt Try.prog 35 [[0], [1, 0], [1, 1, 0, 0]]) (codesAt Try.prog 35 [[1, 1, 0, 1], [1, 1, 1, 0], [1, 1, 1, 1]]) (st := mk [(0, .int .i64 first), (1, .int .i64 last)] []) (K := K)) (Eq.trans (s_starfree_between_1d_eq C first last (seqK Try.prog ann C 35 17 0 (codesAt Try.prog 35 [[1, 1, 0, 1], [1, 1, 1, 0], [1, 1, 1, 1]]) K)) ?_)
  · exact Eq.trans (by kernel_rfl) (Eq.trans (congrArg (fun HOLE : Option β => (HOLE)) (s_starfree_between_6c_eq C last first 0 0 0 0 K)) ((by kernel_rfl)))


theorem f_starfree_between_all (C : CallF) (first : Int) (last : Int) {β : Type} (K : Out → St → Option β) : execK Try.prog ann C 35 (ntmpsOf Try.prog 35) ([] : List V).length (bodyOf Try.prog 35) (enter [.int .i64 first, .int .i64 last] []) K =
      s_starfree_between_3L C last first 0 0
        (fun (j_3 : Int) (t_4 : Bool) (cs_5 : Int) (cs_6 : Int) =>
          K .ret (mk [(4, .ptr 0 0 0)] [.var [.int .u64 cs_5, .int .u64 cs_6]])) :=
  Eq.trans (execK_items (by kernel_rfl)) (s_starfree_between_7c_eq C first last K)

noncomputable def f_starfree_between (C : CallF) (first : Int) (last : Int) : Option (V × List V) :=
  s_starfree_between_3L C last first 0 0
    (fun (j_3 : Int) (t_4 : Bool) (cs_5 : Int) (cs_6 : Int) =>
      some (.agg [.int .u64 cs_5, .int .u64 cs_6], []))

theorem f_starfree_between_eq (C : CallF) (first : Int) (last : Int) : bodyK Try.prog ann C 35 [.int .i64 first, .int .i64 last] [] = f_starfree_between C first last :=
  Eq.trans (bodyK_fin (by kernel_rfl)) (Eq.trans (f_starfree_between_all C first last (finK Try.prog ann C 35 [])) (by kernel_rfl))

theorem f_starfree_between_of {first : Int} {last : Int} {r : V × List V} (h : f_starfree_between CC first last = some r) : CC F_starfree_between [.int .i64 first, .int .i64 last] [] = some r :=
  Call_of_body ((bodyK_eq ..).trans ((f_starfree_between_eq ..).trans h))

end Go.AM

/-
  Sets of cuts: two words of 64 bits.
-/
namespace Go.AM
open Go.Proofs

/-- The value is the set of the cuts j with f j. -/
def IsCut (v : V) (f : Nat → Bool) : Prop := ∃ A B : Nat, A < 2 ^ 64 ∧ B < 2 ^ 64 ∧ v = .agg [.int .u64 A, .int .u64 B] ∧ ∀ k, k < 64 → A.testBit k = f k ∧ B.testBit k = f (64 + k)

theorem IsCut.congr {v : V} {f g : Nat → Bool} (h : IsCut v f) (hfg : ∀ k, k < 128 → f k = g k) : IsCut v g := by
  obtain ⟨A, B, a, b, e, hk⟩ := h
  exact ⟨A, B, a, b, e, fun k h => ⟨by rw [(hk k h).1, hfg k (by omega)], by rw [(hk k h).2, hfg (64 + k) (by omega)]⟩⟩
theorem isCut_zero : IsCut (.agg [.int .u64 0, .int .u64 0]) fun _ => false :=
  ⟨0, 0, by omega, by omega, rfl, fun k _ => by simp⟩

theorem div64 {j : Nat} (h : j < 128) : IntKind.wrap .i64 (Int.tdiv (j : Int) 64) = ((j / 64 : Nat) : Int) := by
  have : Int.tdiv (j : Int) 64 = ((j / 64 : Nat) : Int) := by
    rw [Int.tdiv_eq_ediv_of_nonneg (by omega)]; exact (Int.natCast_ediv j 64).symm
  rw [this, wrap64 (by omega) (by omega)]
theorem mod64 (j : Nat) : Int.tmod (j : Int) 64 = ((j % 64 : Nat) : Int) := by
  rw [Int.tmod_eq_emod_of_nonneg (by omega)]; exact (Int.natCast_emod j 64).symm

theorem has_spec {v : V} {f : Nat → Bool} {j : Nat} (h : IsCut v f) (hj : j < 128) : CC F_starfree_cuts_has [v, .int .i64 j] [] = some (.bool (f j), []) := by
  obtain ⟨A, B, hA, hB, rfl, hk⟩ := h
  refine f_starfree_cuts_has_of ?_
  unfold f_starfree_cuts_has
  rw [div64 hj, mod64]
  have hm : j % 64 < 64 := Nat.mod_lt _ (by omega)
  simp only [bif_and, bif_decide]
  rw [if_pos (by omega), if_pos (by omega)]
  by_cases h64 : j < 64
  · have : j / 64 = 0 := by omega
    simp only [this, Int.toNat_natCast]
    simp only [Nat.zero_mul, Nat.add_zero, List.getElem?_cons_zero, Option.bind_some, V.toInt_int]
    rw [if_pos (by omega), u64_has hA hm, Nat.mod_eq_of_lt h64, (hk j h64).1]
  · have : j / 64 = 1 := by omega
    simp only [this, Int.toNat_natCast]
    simp only [Nat.one_mul, Nat.zero_add, List.getElem?_cons_succ, List.getElem?_cons_zero, Option.bind_some, V.toInt_int]
    rw [if_pos (by omega), u64_has hB hm, (hk _ hm).2]
    have : 64 + j % 64 = j := by omega
    rw [this]

theorem with_spec {v : V} {f : Nat → Bool} {j : Nat} (h : IsCut v f) (hj : j < 128) : ∃ v', IsCut v' (fun k => f k || decide (k = j)) ∧ CC F_starfree_cuts_with [v, .int .i64 j] [] = some (v', []) := by
  obtain ⟨A, B, hA, hB, rfl, hk⟩ := h
  have hm : j % 64 < 64 := Nat.mod_lt _ (by omega)
  have hp : 2 ^ (j % 64) < 2 ^ 64 := Nat.pow_lt_pow_right (by omega) hm
  by_cases h64 : j < 64
  · have h0 : j / 64 = 0 := by omega
    refine ⟨.agg [.int .u64 ((A ||| 2 ^ (j % 64) : Nat) : Int), .int .u64 B], ⟨_, B, Nat.or_lt_two_pow hA hp, hB, rfl, fun k hk' => ⟨?_, ?_⟩⟩, f_starfree_cuts_with_of ?_⟩
    · rw [Nat.testBit_or, (hk k hk').1, Nat.testBit_two_pow]
      congr 1
      rw [decide_eq_decide]; omega
    · rw [(hk k hk').2]
      have : ¬ (64 + k = j) := by omega
      simp [this]
    · unfold f_starfree_cuts_with
      rw [div64 hj, mod64]
      simp only [bif_and, bif_decide, h0, Int.toNat_natCast]
      rw [if_pos (by omega), if_pos (by omega)]
      simp only [Nat.zero_mul, Nat.add_zero, List.getElem?_cons_zero, Option.bind_some, V.toInt_int]
      rw [if_pos (by omega), if_pos (by omega), if_pos (by omega), u64_bit hm, u64_or hA hp]
      rfl
  · have h0 : j / 64 = 1 := by omega
    refine ⟨.agg [.int .u64 A, .int .u64 ((B ||| 2 ^ (j % 64) : Nat) : Int)], ⟨A, _, hA, Nat.or_lt_two_pow hB hp, rfl, fun k hk' => ⟨?_, ?_⟩⟩, f_starfree_cuts_with_of ?_⟩
    · rw [(hk k hk').1]
      have : ¬ (k = j) := by omega
      simp [this]
    · rw [Nat.testBit_or, (hk k hk').2, Nat.testBit_two_pow]
      congr 1
      rw [decide_eq_decide]; omega
    · unfold f_starfree_cuts_with
      rw [div64 hj, mod64]
      simp only [bif_and, bif_decide, h0, Int.toNat_natCast]
      rw [if_pos (by omega), if_pos (by omega)]
      simp only [Nat.one_mul, Nat.zero_add, List.getElem?_cons_succ, List.getElem?_cons_zero, Option.bind_some, V.toInt_int]
      rw [if_pos (by omega), if_pos (by omega), if_pos (by omega), u64_bit hm, u64_or hB hp]
      rfl

theorem union_spec {v u : V} {f g : Nat → Bool} (h : IsCut v f) (h' : IsCut u g) : ∃ v', IsCut v' (fun k => f k || g k) ∧ CC F_starfree_cuts_union [v, u] [] = some (v', []) := by
  obtain ⟨A, B, hA, hB, rfl, hk⟩ := h
  obtain ⟨A', B', hA', hB', rfl, hk'⟩ := h'
  refine ⟨.agg [.int .u64 ((A ||| A' : Nat) : Int), .int .u64 ((B ||| B' : Nat) : Int)], ⟨_, _, Nat.or_lt_two_pow hA hA', Nat.or_lt_two_pow hB hB', rfl, fun k h => ⟨?_, ?_⟩⟩, f_starfree_cuts_union_of ?_⟩
  · rw [Nat.testBit_or, (hk k h).1, (hk' k h).1]
  · rw [Nat.testBit_or, (hk k h).2, (hk' k h).2]
  · unfold f_starfree_cuts_union
    rw [u64_or hA hA', u64_or hB hB']
theorem meet_spec {v u : V} {f g : Nat → Bool} (h : IsCut v f) (h' : IsCut u g) : ∃ v', IsCut v' (fun k => f k && g k) ∧ CC F_starfree_cuts_meet [v, u] [] = some (v', []) := by
  obtain ⟨A, B, hA, hB, rfl, hk⟩ := h
  obtain ⟨A', B', hA', hB', rfl, hk'⟩ := h'
  refine ⟨.agg [.int .u64 ((A &&& A' : Nat) : Int), .int .u64 ((B &&& B' : Nat) : Int)], ⟨_, _, Nat.lt_of_le_of_lt Nat.and_le_left hA, Nat.lt_of_le_of_lt Nat.and_le_left hB, rfl, fun k h => ⟨?_, ?_⟩⟩, f_starfree_cuts_meet_of ?_⟩
  · rw [Nat.testBit_and, (hk k h).1, (hk' k h).1]
  · rw [Nat.testBit_and, (hk k h).2, (hk' k h).2]
  · unfold f_starfree_cuts_meet
    rw [u64_and hA hA', u64_and hB hB']
theorem without_spec {v u : V} {f g : Nat → Bool} (h : IsCut v f) (h' : IsCut u g) : ∃ v', IsCut v' (fun k => f k && !(g k)) ∧ CC F_starfree_cuts_without [v, u] [] = some (v', []) := by
  obtain ⟨A, B, hA, hB, rfl, hk⟩ := h
  obtain ⟨A', B', hA', hB', rfl, hk'⟩ := h'
  obtain ⟨D, d1, d2, d3⟩ := u64_andNot A' hA
  obtain ⟨E, e1, e2, e3⟩ := u64_andNot B' hB
  refine ⟨.agg [.int .u64 (D : Int), .int .u64 (E : Int)], ⟨_, _, d1, e1, rfl, fun k h => ⟨?_, ?_⟩⟩, f_starfree_cuts_without_of ?_⟩
  · rw [d2, (hk k h).1, (hk' k h).1]
  · rw [e2, (hk k h).2, (hk' k h).2]
  · unfold f_starfree_cuts_without
    rw [d3, e3]

theorem between_spec {i n : Nat} (hn : n < 128) (hi : i ≤ n + 1) : ∃ v, IsCut v (fun k => decide (i ≤ k ∧ k ≤ n)) ∧ CC F_starfree_between [.int .i64 i, .int .i64 n] [] = some (v, []) := by
  have key := Loop_inv (step := s_starfree_between_3L_step CC (n : Int))
    (fun x => ∃ (j : Nat) (A B : Int), i ≤ j ∧ j ≤ n + 1 ∧ IsCut (.agg [.int .u64 A, .int .u64 B]) (fun k => decide (i ≤ k ∧ k < j)) ∧ x = ((j : Int), A, B))
    (fun x => ((n + 1 : Int) - x.1).toNat)
    (fun r => ∃ (j : Int) (b : Bool) (A B : Int), IsCut (.agg [.int .u64 A, .int .u64 B]) (fun k => decide (i ≤ k ∧ k ≤ n)) ∧ r = (j, b, A, B)) (by
      rintro x ⟨j, A, B, h1, h2, h3, rfl⟩
      unfold s_starfree_between_3L_step
      simp only [bif_decide]
      by_cases h : j ≤ n
      · left
        obtain ⟨v', hv, hc⟩ := with_spec h3 (show j < 128 by omega)
        have hv2 := hv
        obtain ⟨A', B', _, _, rfl, _⟩ := hv2
        refine ⟨((j + 1 : Nat), (A' : Int), (B' : Int)), ?_, ⟨j + 1, _, _, by omega, by omega, ?_, rfl⟩, by simp; omega⟩
        · rw [if_pos (by omega), hc]
          simp (disch := omega) only [wrap64, Option.bind_some, V.cell_agg, V.nth_zero, V.nth_one, V.toInt_int]
          rfl
        · refine hv.congr fun k _ => ?_
          by_cases hkj : k = j
          · subst hkj; simp [h1]
          · by_cases hik : i ≤ k ∧ k < j
            · simp [hik]; omega
            · have : ¬ (i ≤ k ∧ k < j + 1) := by omega
              rw [decide_eq_false hik, decide_eq_false this, decide_eq_false hkj]; rfl
      · right
        rw [if_neg (by omega)]
        refine ⟨_, rfl, _, _, A, B, h3.congr fun k _ => ?_, rfl⟩
        rw [decide_eq_decide]; omega)
  obtain ⟨r, hr, j, b, A, B, hc, rfl⟩ := key ((i : Int), 0, 0) ⟨i, 0, 0, Nat.le_refl _, hi, isCut_zero.congr fun k _ => by
    have : ¬ (i ≤ k ∧ k < i) := by omega
    simp [this], rfl⟩
  refine ⟨_, hc, f_starfree_between_of ?_⟩
  unfold f_starfree_between s_starfree_between_3L
  rw [hr]
  rfl
end Go.AM
