/-
  Functions of the program, lifted to plain data.
-/
import Derived.Test.YtjmolnomobmkdaaGreatDoorProg
import Derived.Tactics
import Derived.Tactics2
import Derived.StillTactics
import Derived.Laws.Pointers
import Derived.Lib.LazyBuf
import Derived.RegionTactic
import Derived.LoopTactic
import Derived.WalkKit
import Derived.Laws.Externs
import Derived.Lib.Builder
import Derived.Recover
import Derived.Test.YtjmolnomobmkdaaGreatDoorRows
import Derived.Lib.LaidTab
import Derived.LaidHandle
import Derived.MakeChecks
import Derived.Lay
import Derived.Test.YtjmolnomobmkdaaGreatDoorP4
set_option linter.unusedVariables false
set_option linter.unusedSimpArgs false
set_option linter.unusedSectionVars false
set_option maxRecDepth 100000
namespace Go.AM
open Go.IntKind (wrap)
open Go.Proofs
abbrev RQ:FuncId:=3
abbrev Mj:FuncId:=4
abbrev Mz:FuncId:=5
abbrev yh:FuncId:=6
abbrev GC:FuncId:=7
abbrev qT:FuncId:=8
abbrev yi:FuncId:=9
abbrev o9:FuncId:=10
abbrev Mp:FuncId:=11
abbrev Mw:FuncId:=12
abbrev My:FuncId:=13
abbrev GH:FuncId:=14
abbrev Mh:FuncId:=15
abbrev L8:FuncId:=16
abbrev uD:FuncId:=17
abbrev zu:FuncId:=18
abbrev NG:FuncId:=19
abbrev NH:FuncId:=20
abbrev DN:FuncId:=21
abbrev TN:FuncId:=22
abbrev Mi:FuncId:=23
abbrev zW:FuncId:=24
abbrev qS:FuncId:=25
abbrev L7:FuncId:=26
abbrev v9:FuncId:=27
abbrev wb:FuncId:=28
abbrev NI:FuncId:=29
abbrev FH:FuncId:=30
abbrev o4:FuncId:=31
abbrev Lb:FuncId:=32
abbrev FJ:FuncId:=33
abbrev TO:FuncId:=34
abbrev TP:FuncId:=35
abbrev TQ:FuncId:=36
abbrev TR:FuncId:=37
abbrev DO:FuncId:=38
abbrev TS:FuncId:=39
abbrev aon:FuncId:=40
abbrev aoo:FuncId:=41
abbrev aop:FuncId:=42
abbrev ac1:FuncId:=43
abbrev aoq:FuncId:=44
abbrev aor:FuncId:=45
abbrev Gm:FuncId:=46
abbrev DP:FuncId:=47
abbrev NJ:FuncId:=48
abbrev Gh:FuncId:=49
abbrev HO:FuncId:=50
abbrev Cs:FuncId:=51
abbrev jL:FuncId:=52
abbrev Gb:FuncId:=53
abbrev Ga:FuncId:=54
abbrev aos:FuncId:=55
abbrev aot:FuncId:=56
abbrev NK:FuncId:=57
abbrev aou:FuncId:=58
abbrev yA:FuncId:=59
abbrev yB:FuncId:=60
abbrev HP:FuncId:=61
abbrev aov:FuncId:=62
abbrev aow:FuncId:=63
abbrev aox:FuncId:=64
abbrev aoy:FuncId:=65
abbrev yC:FuncId:=66
abbrev DQ:FuncId:=67
abbrev NL:FuncId:=68
abbrev wS:FuncId:=69
abbrev wU:FuncId:=70
abbrev NM:FuncId:=71
abbrev NN:FuncId:=73
abbrev NO:FuncId:=74
abbrev Cr:FuncId:=75
abbrev zD:FuncId:=76
abbrev CK:FuncId:=77
abbrev CH:FuncId:=78
abbrev F0:FuncId:=79
abbrev FW:FuncId:=80
abbrev aoz:FuncId:=81
abbrev aoA:FuncId:=82
abbrev aoB:FuncId:=83
abbrev aoC:FuncId:=84
abbrev aoD:FuncId:=85
abbrev aoE:FuncId:=86
abbrev TT:FuncId:=87
abbrev DR:FuncId:=88
abbrev aoF:FuncId:=89
abbrev yD:FuncId:=90
abbrev DS:FuncId:=91
abbrev DT:FuncId:=92
abbrev DU:FuncId:=93
abbrev DV:FuncId:=94
abbrev DW:FuncId:=95
abbrev DX:FuncId:=96
abbrev aoG:FuncId:=97
abbrev HQ:FuncId:=98
abbrev NQ:FuncId:=99
abbrev NR:FuncId:=100
abbrev HR:FuncId:=101
abbrev NS:FuncId:=102
abbrev gk:FuncId:=103
abbrev nJ:FuncId:=104
abbrev mq:FuncId:=105
abbrev NT:FuncId:=106
abbrev NU:FuncId:=107
abbrev HS:FuncId:=108
abbrev NV:FuncId:=109
abbrev HT:FuncId:=110
abbrev HU:FuncId:=111
abbrev HV:FuncId:=112
abbrev NW:FuncId:=113
abbrev ac2:FuncId:=114
abbrev fO:FuncId:=115
abbrev CJ:FuncId:=116
abbrev FQ:FuncId:=117
abbrev LA:FuncId:=118
abbrev xZ:FuncId:=119
abbrev FT:FuncId:=120
abbrev FY:FuncId:=121
abbrev aoH:FuncId:=122
abbrev aoI:FuncId:=123
abbrev aoJ:FuncId:=124
abbrev aoK:FuncId:=125
abbrev aoL:FuncId:=126
abbrev aoM:FuncId:=127
abbrev aoN:FuncId:=128
abbrev aoO:FuncId:=129
abbrev NY:FuncId:=130
abbrev yE:FuncId:=131
abbrev DY:FuncId:=132
abbrev DZ:FuncId:=133
abbrev NZ:FuncId:=134
abbrev yF:FuncId:=135
abbrev HW:FuncId:=136
abbrev HX:FuncId:=137
abbrev HY:FuncId:=138
abbrev aoP:FuncId:=139
abbrev aoQ:FuncId:=140
abbrev aoR:FuncId:=141
abbrev aoS:FuncId:=142
abbrev aoT:FuncId:=143
abbrev HZ:FuncId:=144
abbrev N3:FuncId:=146
abbrev N4:FuncId:=147
abbrev N5:FuncId:=148
abbrev N6:FuncId:=149
abbrev TU:FuncId:=150
abbrev N7:FuncId:=151
abbrev Az:FuncId:=152
abbrev ac3:FuncId:=153
abbrev N8:FuncId:=155
abbrev nH:FuncId:=156
abbrev Lh:FuncId:=157
abbrev TV:FuncId:=158
abbrev aoU:FuncId:=159
abbrev TW:FuncId:=160
abbrev aoV:FuncId:=161
abbrev aoW:FuncId:=162
abbrev aoX:FuncId:=163
abbrev aoY:FuncId:=164
abbrev AA:FuncId:=165
abbrev aoZ:FuncId:=166
abbrev ao0:FuncId:=168
abbrev ao1:FuncId:=169
abbrev ao2:FuncId:=170
abbrev ao3:FuncId:=171
abbrev ao4:FuncId:=172
abbrev ao5:FuncId:=173
abbrev sw:FuncId:=174
abbrev N9:FuncId:=175
abbrev ao6:FuncId:=176
abbrev cH:FuncId:=177
abbrev ao7:FuncId:=178
abbrev D0:FuncId:=179
abbrev ao8:FuncId:=181
abbrev ao9:FuncId:=182
abbrev apa:FuncId:=183
abbrev apb:FuncId:=184
abbrev apc:FuncId:=185
abbrev apd:FuncId:=186
abbrev ape:FuncId:=188
abbrev apf:FuncId:=189
abbrev apg:FuncId:=190
abbrev aph:FuncId:=191
abbrev api:FuncId:=192
abbrev apj:FuncId:=193
abbrev apk:FuncId:=194
abbrev apl:FuncId:=195
abbrev apm:FuncId:=197
abbrev apn:FuncId:=198
abbrev apo:FuncId:=199
abbrev apq:FuncId:=200
abbrev apr:FuncId:=201
abbrev aps:FuncId:=202
abbrev apt:FuncId:=203
abbrev apu:FuncId:=204
abbrev ab:TypeId:=3
abbrev ak:TypeId:=4
abbrev H0:TypeId:=5
abbrev cv:TypeId:=9
abbrev ag:TypeId:=22
abbrev oP:TypeId:=26
abbrev cx:TypeId:=50
abbrev kb:TypeId:=62
abbrev D1:TypeId:=87
abbrev lQ:TypeId:=92
abbrev FD:TypeId:=106
abbrev FG:TypeId:=109
abbrev ai:TypeId:=114
abbrev iU:TypeId:=116
abbrev cJ:TypeId:=120
abbrev wV:TypeId:=131
abbrev H2:TypeId:=137
abbrev kD:TypeId:=142
abbrev kg:TypeId:=176
abbrev FR:TypeId:=201
abbrev eB:TypeId:=224
abbrev bG:TypeId:=237
abbrev TX:Nat:=226
abbrev Rh:Nat:=227
abbrev gE:Nat:=243
def Oa:List V:=[.int .u8 0,.int .u8 1,.int .u8 56,.int .u8 2,.int .u8 57,.int .u8 49,.int .u8 28,.int .u8 3,.int .u8 61,.int .u8 58,.int .u8 42,.int .u8 50,.int .u8 38,.int .u8 29,.int .u8 17,.int .u8 4,.int .u8 62,.int .u8 47,.int .u8 59,.int .u8 36,.int .u8 45,.int .u8 43,.int .u8 51,.int .u8 22,.int .u8 53,.int .u8 39,.int .u8 33,.int .u8 30,.int .u8 24,.int .u8 18,.int .u8 12,.int .u8 5,.int .u8 63,.int .u8 55,.int .u8 48,.int .u8 27,.int .u8 60,.int .u8 41,.int .u8 37,.int .u8 16,.int .u8 46,.int .u8 35,.int .u8 44,.int .u8 21,.int .u8 52,.int .u8 32,.int .u8 23,.int .u8 11,.int .u8 54,.int .u8 26,.int .u8 40,.int .u8 15,.int .u8 34,.int .u8 20,.int .u8 31,.int .u8 10,.int .u8 25,.int .u8 14,.int .u8 19,.int .u8 9,.int .u8 13,.int .u8 8,.int .u8 7,.int .u8 6]
abbrev aa:VS:= .one (.int .i64)
abbrev an:VS:= .one (.bool)
abbrev tM:VS:= .one (.nl ab)
abbrev aT:VS:= .one (.ay 0 0 0)
abbrev da:VS:= .one (.list ag)
abbrev c7:VS:= .one (.list ab)
abbrev cq:VS:= .one (.ay 1 0 0)
abbrev dD:VS:= .one (.list cx)
abbrev tN:VS:= .one (.list ak)
abbrev jb:VS:= .one (.str)
abbrev cp:VS:= .one (.whole cx 0)
abbrev dg:VS:= .one (.ay 2 0 0)
abbrev mI:VS:= .one (.whole ab 4)
abbrev dR:VS:= .one (.list wV)
abbrev lZ:VS:= .one (.whole ab 3)
abbrev apv:VS:= .one (.whole D1 3)
abbrev sx:VS:= .one (.list bG)
abbrev D2:VS:= .one (.whole ag 5)
abbrev qw:VS:= .one (.whole ag 1)
abbrev jx:VS:= .one (.int .u64)
abbrev AB:VS:= .one (.whole ag 6)
abbrev yG:VS:= .one (.whole ag 2)
abbrev kK:VS:= .one (.ay 3 0 0)
abbrev apw:VS:= .one (.whole D1 4)
abbrev AD:VS:= .one (.vB)
abbrev AE:VS:= .one (.whole ag 7)
abbrev H3:VS:= .one (.cK cJ 7)
abbrev tO:VS:= .one (.list ai)
abbrev oQ:VS:= .one (.whole ab 0)
abbrev qx:VS:= .one (.whole ab 1)
abbrev TY:VS:= .one (.whole ab 10)
abbrev TZ:VS:= .one (.whole ak 6)
abbrev apx:VS:= .one (.whole ak 5)
abbrev H4:VS:= .one (.list cv)
abbrev sy:VS:= .one (.ay 5 0 0)
abbrev ac4:VS:= .one (.whole ak 4)
abbrev ac5:VS:= .one (.whole ak 3)
abbrev wW:VS:= .one (.whole cv 3)
abbrev tP:VS:= .one (.ay 4 0 0)
abbrev T4:VS:= .one (.whole ag 8)
abbrev Ob:VS:= .one (.whole ag 9)
abbrev T6:VS:= .one (.whole cv 8)
abbrev T7:VS:= .one (.whole ab 9)
abbrev yH:VS:= .one (.whole ag 13)
abbrev yI:VS:= .one (.whole ag 12)
abbrev ac6:VS:= .one (.whole eB 6)
abbrev H5:VS:= .one (.whole cx 4)
abbrev AF:VS:= .one (.cK cJ 3)
abbrev AG:VS:= .one (.whole ab 2)
abbrev ac7:VS:= .one (.whole wV 4)
abbrev Oc:VS:= .one (.whole cx 1)
abbrev apy:VS:= .one (.whole ag 4)
abbrev H6:VS:= .one (.whole ab 15)
abbrev D3:VS:= .one (.whole ak 0)
abbrev H7:VS:= .one (.whole ab 16)
abbrev apz:VS:= .one (.whole H0 2)
abbrev apA:VS:= .one (.whole ak 8)
abbrev T8:VS:= .one (.whole ag 11)
abbrev H8:VS:= .one (.whole ak 11)
abbrev D4:VS:= .one (.whole cx 5)
abbrev T9:VS:= .one (.whole ab 20)
abbrev Od:VS:= .one (.whole ag 14)
abbrev Ua:VS:= .one (.whole eB 17)
abbrev D5:VS:= .one (.whole cx 3)
abbrev apB:VS:= .one (.whole ak 7)
abbrev Ub:VS:= .one (.whole ak 12)
abbrev H9:VS:= .one (.whole ak 10)
abbrev AH:VS:= .one (.whole cx 6)
abbrev Uc:VS:= .one (.whole ab 14)
abbrev ac8:VS:= .one (.whole ag 18)
abbrev ac9:VS:= .one (.whole ak 22)
abbrev ada:VS:= .one (.whole kD 7)
abbrev apC:VS:= .one (.whole D1 5)
abbrev Oe:VS:= .one (.whole ag 3)
abbrev adb:VS:= .one (.whole cv 19)
abbrev Ud:VS:= .one (.whole ab 17)
abbrev apD:VS:= .one (.whole H0 3)
abbrev Of:VS:= .one (.list FR)
abbrev ade:VS:= .one (.whole ag 10)
abbrev apE:VS:= .one (.whole ak 21)
abbrev apF:VS:= .one (.whole cv 9)
abbrev Ue:VS:= .one (.whole ab 12)
abbrev Uf:VS:= .one (.whole cx 2)
abbrev adf:VS:= .one (.whole wV 2)
abbrev Og:VS:= .one (.whole ab 11)
abbrev adg:VS:= .one (.whole ab 19)
abbrev adh:VS:= .one (.whole ab 13)
abbrev adi:VS:= .one (.whole ab 18)
abbrev apG:VS:= .one (.whole wV 5)
abbrev D6:VS:= .one (.int .u8)
abbrev Ug:VS:= .one (.whole cv 0)
abbrev Uh:VS:= .one (.whole ab 5)
abbrev adj:VS:= .one (.nilS kD)
abbrev adk:VS:= .one (.whole ag 16)
abbrev adl:VS:= .one (.whole ag 15)
abbrev Oh:VS:= .one (.whole wV 0)
abbrev apH:VS:= .one (.whole H0 1)
abbrev apI:VS:= .one (.whole D1 0)
abbrev adm:VS:= .one (.whole ak 2)
abbrev Oi:VS:= .one (.whole ab 7)
abbrev Ui:VS:= .one (.whole ab 6)
abbrev apJ:VS:= .one (.whole ak 9)
abbrev Uj:VS:= .one (.whole iU 2)
abbrev adn:VS:= .one (.cK H2 2)
abbrev ado:VS:= .one (.whole oP 6)
abbrev Uk:VS:= .one (.whole kD 8)
abbrev adp:VS:= .one (.whole ak 23)
abbrev Ul:VS:= .one (.whole D1 2)
abbrev Um:VS:= .one (.whole ai 2)
abbrev apK:VS:= .one (.whole ai 3)
abbrev adq:VS:= .one (.whole FG 0)
abbrev adr:VS:= .one (.whole ag 17)
abbrev ads:VS:= .one (.whole eB 18)
abbrev adt:VS:= .one (.whole ab 21)
abbrev adu:VS:= .one (.whole FD 0)
abbrev apL:VS:= .one (.whole cv 18)
abbrev apM:VS:= .one (.whole eB 16)
abbrev apO:VS:= .one (.whole cv 17)
abbrev apP:VS:= .one (.whole eB 15)
abbrev apQ:VS:= .one (.whole cv 16)
abbrev rA:VS:= .agg [.int .i64,.int .i64,.list cx]
abbrev wX:VS:= .agg [.int .i64,.int .i64,.list ak,.list ag]
abbrev rB:VS:= .agg [.int .i64,.int .i64,.list ai]
abbrev D7:VS:= .agg [.int .i64,.int .i64,.whole ak 0,.whole ag 1]
abbrev AI:VS:= .agg [.int .i64,.list ag,.list cv,.list ab,.list ak,.list ak]
abbrev D8:VS:= .agg [.int .i64,.int .i64]
abbrev Un:VS:= .agg [.str]
abbrev adv:VS:= .agg [.int .i64,.int .i64,.whole ak 1,.whole ag 2]
abbrev Ia:VS:= .agg [.int .i64,.int .i64,.list ai,.int .i64,.int .i64,.list ai]
abbrev apR:VS:= .agg [.int .i64,.int .i64,.list cx,.int .i64,.int .i64,.list cx,.bool]
abbrev apS:VS:= .agg [.int .i64,.bool]
abbrev apU:VS:= .agg [.int .i64,.int .i64,.whole cx 0]
abbrev fg:BS:= .var 29 [aa,aa,tN,da]
abbrev np:BS:= .var 3 [aa]
abbrev wY:BS:= .var 90 [apv]
abbrev yJ:BS:= .var 39 [c7,aa]
abbrev rC:BS:= .var 50 [aa,aa,dD]
abbrev rD:BS:= .var 85 [jb]
abbrev qy:BS:= .var 243 [da,aa,tM,tM,tM,tM,tM,tM,tM,tM,tM,tM,tM]
abbrev AJ:BS:= .var 90 [apw]
abbrev vc:BS:= .var 238 [an,an,an,an,an,an]
abbrev AK:BS:= .var 186 [jb,aa]
abbrev Ib:BS:= .var 29 [aa,aa,apx,AB]
abbrev D9:BS:= .var 29 [aa,aa,TZ,AE]
abbrev Ea:BS:= .var 4 [an]
abbrev yK:BS:= .var 29 [aa,aa,ac4,D2]
abbrev tQ:BS:= .var 69 [aa,da,H4,c7,tN,tN]
abbrev apV:BS:= .var 183 [aa,an,qw,yG,lZ,mI,D2,ac6,aa,H3,T6,T7,TY]
abbrev adw:BS:= .var 29 [aa,aa,ac5,apy]
abbrev apW:BS:= .var 87 [ac7]
abbrev apX:BS:= .var 170 [AD,apz]
abbrev yL:BS:= .var 29 [aa,aa,apA,Ob]
abbrev vd:BS:= .var 114 [aa,aa,tO]
abbrev apY:BS:= .var 27 [da]
abbrev Uo:BS:= .var 29 [aa,aa,apB,T4]
abbrev apZ:BS:= .var 90 [apC]
abbrev ap0:BS:= .var 206 [cq,sx,sx,da,mI]
abbrev ap1:BS:= .var 206 [cq,sx,sx,da,lZ]
abbrev ap2:BS:= .var 170 [AD,apD]
abbrev Up:BS:= .var 69 [aa,ac8,adb,T9,apE,ac9]
abbrev adx:BS:= .var 99 [qw,ada,aa]
abbrev ady:BS:= .var 69 [aa,T4,apF,TY,H8,Ub]
abbrev ap3:BS:= .var 22 [mI]
abbrev ap4:BS:= .var 26 [ac5]
abbrev Uq:BS:= .var 275 [jx]
abbrev ap5:BS:= .var 87 [apG]
abbrev Ic:BS:= .var 164 [aa,aa,H5,aa,aa,D4,an]
abbrev ap6:BS:= .var 124 [aa,Oc,yG,aa,AF]
abbrev ap7:BS:= .var 206 [cq,sx,sx,da,AG]
abbrev ap8:BS:= .var 170 [AD,apH]
abbrev Oj:BS:= .var 62 [aa,aa]
abbrev adz:BS:= .var 29 [aa,aa,H9,T8]
abbrev Ol:BS:= .var 29 [aa,aa,apJ,ade]
abbrev ap9:BS:= .var 124 [aa,H5,D2,aa,AF]
abbrev aqa:BS:= .var 99 [yG,adj,aa]
abbrev aqb:BS:= .var 145 [aa,an,yH,Od,H6,H7,AB,Ua,aa]
abbrev Om:BS:= .var 114 [aa,aa,apK]
abbrev On:BS:= .var 166 [aa,an]
abbrev aqc:BS:= .var 87 [adf]
abbrev adA:BS:= .var 29 [aa,aa,adm,Oe]
abbrev aqd:BS:= .var 183 [aa,an,yI,yH,Uc,H6,adk,Ua,aa,H3,apL,adg,T9]
abbrev aqe:BS:= .var 183 [aa,an,T8,yI,adh,Uc,adl,apM,aa,H3,apO,adi,adg]
abbrev Ur:BS:= .var 237 [aa,aa]
abbrev aqf:BS:= .var 183 [aa,an,qw,T8,Ue,adh,Od,apP,aa,H3,apQ,Ud,adi]
abbrev aqg:BS:= .var 124 [aa,H5,D2,aa,.one (.cK cJ 6)]
abbrev adB:BS:= .var 94 [.one (.whole kb 10),.one (.cK lQ 11)]
abbrev aqh:BS:= .var 94 [.one (.whole kb 8),.one (.cK lQ 9)]
abbrev adC:BS:= .var 145 [aa,an,yI,yH,Uc,H6,adk,Ua,aa]
abbrev adD:BS:= .var 69 [aa,ade,.one (.whole cv 11),Ue,.one (.whole ak 13),.one (.whole ak 14)]
abbrev adE:BS:= .var 145 [aa,an,adl,Ob,H7,Ud,ac8,.one (.whole eB 19),aa]
abbrev adF:BS:= .var 69 [aa,.one (.whole ag 20),.one (.whole cv 21),.one (.whole ab 22),adp,.one (.whole ak 24)]
abbrev aqi:BS:= .var 145 [aa,an,yH,Od,H6,H7,adr,ads,aa]
abbrev aqj:BS:= .var 69 [aa,.one (.whole ag 19),.one (.whole cv 20),adt,ac9,adp]
abbrev adG:BS:= .var 109 [jb,an,.one (.whole iU 3),aa,aa]
abbrev aqk:BS:= .var 145 [aa,an,yG,Oe,mI,Uh,AB,.one (.whole eB 7),aa]
abbrev aql:BS:= .var 183 [aa,an,T4,Ob,TY,Og,yI,.one (.whole eB 13),aa,.one (.cK cJ 14),.one (.whole cv 15),H7,Ud]
abbrev aZ:BS:= .arr ab false
abbrev bh:BS:= .arr ag false
abbrev bV:BS:= .arr ak false
abbrev dL:BS:= .arr cx false
abbrev jy:BS:= .arr cv false
abbrev pj:BS:= .arr eB false
abbrev oR:BS:= .arr wV false
abbrev Ie:BS:= .arr H0 false
abbrev wZ:BS:= .arr kD false
abbrev AL:BS:= .arr ag true
abbrev w5:BS:= .arr kb false
abbrev yM:BS:= .arr ai false
abbrev Us:BS:= .arr ab true
abbrev AN:BS:= .arr iU false
abbrev Ig:BS:= .arr FD false
abbrev Ut:BS:= .arr FG false
abbrev Uu:BS:= .arr bG false
abbrev iG:BS:= .nest D1
abbrev mJ:BS:= .nest ag
abbrev Uv:BS:= .nest oP
abbrev bt:List BS:=[dL]
abbrev iw:List BS:=[np]
abbrev oc:List BS:=[aZ]
abbrev oS:List BS:=[AK]
abbrev qz:List BS:=[apV,bh,bh,aZ,aZ,bh,pj,.map cJ,jy,aZ,aZ]
abbrev sA:List BS:=[bV]
abbrev sB:List BS:=[apW,wY,.dead,iG,oR]
abbrev tR:List BS:=[apX,.dead,Ie]
abbrev ve:List BS:=[rD,wY,rC,iG]
abbrev vf:List BS:=[wY,rC,AJ,iG,iG]
abbrev vg:List BS:=[apY]
abbrev vh:List BS:=[yJ]
abbrev w6:List BS:=[fg]
abbrev yN:List BS:=[yJ,adw,Ib,bV,bh,bV,mJ]
abbrev yO:List BS:=[rD,np,wY,iG]
abbrev yP:List BS:=[rD,AJ,Ea,apZ,iG,iG]
abbrev AO:List BS:=[ap0,qy,.dead,aZ,aZ]
abbrev AP:List BS:=[ap1,qy,.dead,aZ]
abbrev AQ:List BS:=[ap2,.dead,rC,Ie]
abbrev Eb:List BS:=[yJ,yK,D9,aZ,bV,bh,bV,mJ]
abbrev Ec:List BS:=[yJ,Ib,Uo,jy,aZ,bV,bh,bV,mJ]
abbrev Ed:List BS:=[aZ,ap3,ap4,bV,Us]
abbrev Ee:List BS:=[.dead,dL]
abbrev Ef:List BS:=[Ea,ap5,AJ,.dead,iG,oR]
abbrev Ih:List BS:=[vc,vc]
abbrev Ii:List BS:=[ap6,dL,bh,.map cJ]
abbrev Ij:List BS:=[ap7,qy,aZ]
abbrev Ik:List BS:=[ap8,Ie]
abbrev Il:List BS:=[yJ,bV,mJ]
abbrev Oo:List BS:=[ap9,.dead,.dead,.map cJ,dL,bh]
abbrev Oq:List BS:=[yK,D9,aZ,aZ,bV,bh,bV,bh]
abbrev Ot:List BS:=[aqa,fg,mJ]
abbrev Ou:List BS:=[adx,AL,.dead,ady,aqb,Up,bh,wZ,bh,jy,aZ,bV,bV,bh,bh,aZ,aZ,pj,mJ,jy,aZ,bV,bV]
abbrev Ov:List BS:=[tQ,adw,Ib,bV,bh,bV,mJ]
abbrev Ow:List BS:=[vc,vc,mJ]
abbrev Ox:List BS:=[dL,Uq]
abbrev Oy:List BS:=[aqc,wY,oR,iG]
abbrev Oz:List BS:=[bV,bh]
abbrev Uw:List BS:=[aqd,.dead,.dead,.dead,.dead,.dead,.dead,.map cJ,.dead,.dead,.dead,aZ,bh,bh,aZ,aZ,bh,pj,jy,aZ,aZ]
abbrev Ux:List BS:=[aqe,.dead,.dead,.dead,.dead,.dead,.dead,.map cJ,.dead,.dead,.dead,bh,bh,aZ,aZ,bh,pj,jy,aZ,aZ]
abbrev Uy:List BS:=[qy,aZ,aZ]
abbrev Uz:List BS:=[fg,fg,np]
abbrev UA:List BS:=[aqf,bh,.dead,.dead,.dead,.dead,.dead,.map cJ,.dead,.dead,.dead,bh,aZ,aZ,bh,pj,jy,aZ,aZ]
abbrev adH:List BS:=[yJ,yK,D9,jy,bV,bh,bV,mJ]
abbrev adI:List BS:=[adA,aqg,bV,bh,dL,bh,.map cJ]
abbrev adJ:List BS:=[fg,fg,np,D9,aqh,adz,bV,bh,w5,.map lQ,bV,bh]
abbrev adK:List BS:=[fg,D9,yL,aZ,aZ,adz,bV,bh,bV,bh,bV,bh]
abbrev adL:List BS:=[D9,aZ,yL,aZ,aZ,aZ,bV,bh,bV,bh]
abbrev adM:List BS:=[adx,AL,.dead,ady,aqi,aqj,Uv,wZ,bh,jy,aZ,bV,bV,bh,bh,aZ,aZ,bh,pj,mJ,jy,aZ,bV,bV]
abbrev adN:List BS:=[aqk,aql,bh,bh,aZ,aZ,bh,pj,bh,bh,aZ,aZ,bh,pj,.map cJ,jy,aZ,aZ]
abbrev dA:List (Nat×VS):=[(0,aa)]
abbrev dW:List (Nat×VS):=[(0,an)]
abbrev kL:List (Nat×VS):=[(0,aT)]
abbrev nq:List (Nat×VS):=[(0,rA)]
abbrev sC:List (Nat×VS):=[(4,an)]
abbrev AR:List (Nat×VS):=[(2,aa)]
abbrev AS:List (Nat×VS):=[(4,aa)]
abbrev AT:List (Nat×VS):=[(0,wX)]
abbrev AU:List (Nat×VS):=[(0,rA),(1,aa)]
abbrev AV:List (Nat×VS):=[(0,da)]
abbrev AW:List (Nat×VS):=[(0,cp)]
abbrev Eg:List (Nat×VS):=[(0,aT),(1,aa),(2,aa)]
abbrev Im:List (Nat×VS):=[(2,an)]
abbrev Io:List (Nat×VS):=[(0,c7)]
abbrev Ip:List (Nat×VS):=[(0,aT),(1,aa)]
abbrev Iq:List (Nat×VS):=[(0,aa),(1,aa)]
abbrev Ir:List (Nat×VS):=[(0,jx)]
abbrev Is:List (Nat×VS):=[(0,adv)]
abbrev It:List (Nat×VS):=[(0,apI)]
abbrev Iu:List (Nat×VS):=[(0,oQ)]
abbrev Iv:List (Nat×VS):=[(0,Oc)]
abbrev OA:List (Nat×VS):=[(0,Un),(1,rA),(2,dR)]
abbrev OB:List (Nat×VS):=[(0,aa),(1,aT),(2,cq),(3,dg)]
abbrev OC:List (Nat×VS):=[(0,apR)]
abbrev OD:List (Nat×VS):=[(0,apS),(1,rA)]
abbrev OE:List (Nat×VS):=[(0,apU)]
abbrev UB:List (Nat×VS):=[(0,aa),(1,dD)]
abbrev UC:List (Nat×VS):=[(0,aa),(1,aT)]
abbrev UD:List (Nat×VS):=[(0,c7),(1,aa)]
abbrev UE:List (Nat×VS):=[(0,aa),(1,aT),(2,cq)]
abbrev UF:List (Nat×VS):=[(0,D7),(1,aa)]
abbrev UG:List (Nat×VS):=[(0,rB),(1,an)]
abbrev adO:List (Nat×VS):=[(0,aT),(1,aa),(6,cq),(7,dg),(8,aa),(9,aa)]
abbrev adP:List (Nat×VS):=[(0,aT),(2,qx),(7,dg),(8,aa),(11,sx),(12,aa),(13,aa)]
abbrev adQ:List (Nat×VS):=[(11,c7),(13,c7),(15,c7),(17,c7),(84,aa),(85,aa)]
def RP:Shape×List (Out×Shape):=(⟨adQ,[]⟩,[(.ret,⟨Im,[]⟩),(.exit 0,⟨adQ++[(86,an)],[]⟩)])
def RB:Shape×List (Out×Shape):=(⟨[(6,cq),(7,dg),(8,aa),(17,aa),(18,aa),(25,.one (.row ab 3 [0])),(26,aa),(27,aa)],[yJ,yK,.var 29 [aa,aa,TZ,Oe],mJ,bV,bh,bV]⟩,[(.exit 2,⟨[(6,cq),(7,dg),(8,aa),(17,aa),(18,aa),(25,.one (.row ab 3 [0])),(26,aa),(27,aa),(28,an)],[yJ,yK,.var 29 [aa,aa,TZ,Oe],mJ,bV,bh,bV]⟩)])
abbrev adR:List (Nat×VS):=[(6,cq),(7,dg),(17,aa),(18,aa)]
def RC:Shape×List (Out×Shape):=(⟨adR,yN⟩,[(.exit 0,⟨adR++[(19,an)],yN⟩)])
def RF:Shape×List (Out×Shape):=(⟨adO,yN⟩,[(.exit 0,⟨[(0,aT),(1,aa),(6,cq),(7,dg),(8,aa),(9,aa),(27,an)],yN⟩)])
abbrev adS:List (Nat×VS):=[(0,aT),(1,aa),(6,cq),(7,dg),(8,aa),(10,aa),(11,lZ),(12,aa)]
def RH:Shape×List (Out×Shape):=(⟨adS,Eb⟩,[(.exit 4,⟨adS++[(52,an)],Eb⟩)])
abbrev adT:List (Nat×VS):=[(0,aT),(1,aa),(6,cq),(7,dg),(8,aa),(10,aa),(11,lZ),(13,aa)]
def RI:Shape×List (Out×Shape):=(⟨adT,Eb⟩,[(.exit 6,⟨adT++[(61,an)],Eb⟩)])
abbrev adU:List (Nat×VS):=[(0,aT),(1,aa),(6,cq),(7,dg),(8,aa),(10,aa)]
def RJ:Shape×List (Out×Shape):=(⟨adU,yN⟩,[(.exit 2,⟨adU++[(47,an)],yN⟩)])
abbrev adV:List (Nat×VS):=[(0,aT),(1,aa),(4,cq),(5,dg),(6,wW),(8,jb),(9,mI),(10,aa),(11,jb),(12,aa),(22,wW),(23,aa),(24,aa),(50,wW),(51,aa),(52,aa)]
def RK:Shape×List (Out×Shape):=(⟨adV,Ec⟩,[(.exit 6,⟨adV++[(53,an)],Ec⟩)])
abbrev adW:List (Nat×VS):=[(0,aT),(1,aa),(4,cq),(5,dg),(6,wW),(8,jb),(9,mI),(10,aa),(11,jb),(12,aa),(22,wW),(23,aa),(24,aa)]
def RL:Shape×List (Out×Shape):=(⟨adW,Ec⟩,[(.exit 4,⟨adW++[(49,an)],Ec⟩)])
abbrev adX:List (Nat×VS):=[(0,aT),(1,aa),(4,cq),(5,dg),(6,wW),(8,jb),(9,mI),(10,aa),(22,wW),(23,aa),(24,aa)]
def RM:Shape×List (Out×Shape):=(⟨adX,Ec⟩,[(.exit 2,⟨adX++[(38,an)],Ec⟩)])
abbrev adY:List (Nat×VS):=[(0,aT),(1,aa),(4,cq),(5,dg),(6,wW),(22,wW),(23,aa),(24,aa)]
def RN:Shape×List (Out×Shape):=(⟨adY,adH⟩,[(.exit 0,⟨adY++[(25,an)],adH⟩)])
abbrev adZ:List (Nat×VS):=[(0,aT),(1,aa),(6,cq),(7,dg),(8,aa),(9,aa),(10,lZ),(11,aa)]
def Rz:Shape×List (Out×Shape):=(⟨adZ,Eb⟩,[(.exit 2,⟨adZ++[(37,an)],Eb⟩)])
def RA:Shape×List (Out×Shape):=(⟨adO,yN⟩,[(.exit 0,⟨[(0,aT),(1,aa),(6,cq),(7,dg),(8,aa),(9,aa),(24,an)],yN⟩)])
abbrev ad0:List (Nat×VS):=[(1,aa),(7,aT),(9,qx),(33,aa),(34,aa)]
def QN:Shape×List (Out×Shape):=(⟨ad0,[tQ,aZ]⟩,[(.exit 0,⟨ad0++[(35,an)],[tQ,aZ]⟩)])
def UH:Shape×List (Out×Shape):=(⟨[(4,aT),(7,cq)],adI⟩,[(.ret,⟨[(4,aT),(5,aa)],[.var 29 [aa,aa,.one (.whole ak 1),yG],bV,bh]⟩),(.exit 0,⟨[(4,aT),(7,cq),(22,an)],adI⟩)])
abbrev ad1:List (Nat×VS):=[(0,aa),(1,aa),(5,Ug),(6,aa),(7,aa)]
def aqm:Shape×List (Out×Shape):=(⟨ad1,[jy]⟩,[(.exit 2,⟨ad1++[(26,an)],[jy]⟩)])
abbrev ad2:List (Nat×VS):=[(0,aa),(1,aa),(5,Ug),(6,aa)]
def aqn:Shape×List (Out×Shape):=(⟨ad2,[jy]⟩,[(.exit 0,⟨ad2++[(12,an)],[jy]⟩)])
abbrev ad3:List (Nat×VS):=[(1,aT),(3,aa),(38,da),(39,aa),(40,aa),(49,c7),(50,aa),(51,aa)]
def UI:Shape×List (Out×Shape):=(⟨ad3,w6⟩,[(.ret,⟨AR,[]⟩),(.exit 2,⟨ad3++[(52,an)],w6⟩)])
abbrev ad4:List (Nat×VS):=[(1,aT),(3,aa),(38,da),(39,aa),(40,aa)]
def UJ:Shape×List (Out×Shape):=(⟨ad4,w6⟩,[(.ret,⟨AR,[]⟩),(.exit 0,⟨ad4++[(41,an)],w6⟩)])
def Rk:Shape×List (Out×Shape):=(⟨[(0,aa),(2,.fn v9 [] [.ay 0 0 0,.ay 1 0 0]),(3,.fn wb [] [.ay 0 0 0,.ay 1 0 0,.ay 2 0 0]),(8,kK),(11,tP),(12,sy),(13,aa),(14,.one (.ay 6 0 0)),(15,Oi),(36,aa),(37,aa)],[fg,fg,np,yL,adB,.var 29 [aa,aa,Ub,yH],Oj,aZ,bV,bh,w5,.map lQ,bV,bh]⟩,[(.exit 2,⟨[(0,aa),(2,.fn v9 [] [.ay 0 0 0,.ay 1 0 0]),(3,.fn wb [] [.ay 0 0 0,.ay 1 0 0,.ay 2 0 0]),(8,kK),(11,tP),(12,sy),(13,aa),(14,.one (.ay 6 0 0)),(15,Oi),(36,aa),(37,aa),(38,an)],[fg,fg,np,yL,adB,.var 29 [aa,aa,Ub,yH],Oj,aZ,bV,bh,w5,.map lQ,bV,bh]⟩)])
def Rl:Shape×List (Out×Shape):=(⟨[(0,aa),(2,.fn v9 [] [.ay 0 0 0,.ay 1 0 0]),(3,.fn wb [] [.ay 0 0 0,.ay 1 0 0,.ay 2 0 0]),(8,kK),(11,tP),(12,sy),(13,aa)],adJ⟩,[(.ret,⟨[(8,kK),(9,.one (.whole kb 6)),(10,aa)],[fg,fg,np,yK,bV,bh,w5]⟩),(.exit 0,⟨[(0,aa),(2,.fn v9 [] [.ay 0 0 0,.ay 1 0 0]),(3,.fn wb [] [.ay 0 0 0,.ay 1 0 0,.ay 2 0 0]),(8,kK),(11,tP),(12,sy),(13,aa),(25,an)],adJ⟩)])
def Rg:Shape×List (Out×Shape):=(⟨[(2,cq),(3,dg),(4,kK),(6,aa),(12,an)],[fg,fg,np,Oj]⟩,[(.norm,⟨[(2,cq),(3,dg),(4,kK),(6,aa)],[fg,fg,np,Oj]⟩)])
abbrev ad5:List (Nat×VS):=[(1,aT),(2,cq),(4,dg),(5,lZ),(6,mI),(7,sy),(8,aa),(10,Ui),(28,mI),(29,aa),(30,aa),(47,c7),(48,aa),(49,aa)]
def UK:Shape×List (Out×Shape):=(⟨ad5,[fg,Uo,Ol,aZ,aZ,.var 29 [aa,aa,H8,yI],aZ,bV,bh,bV,bh,bV,bh]⟩,[(.exit 2,⟨ad5++[(50,an)],[fg,Uo,Ol,aZ,aZ,.var 29 [aa,aa,H8,yI],aZ,bV,bh,bV,bh,bV,bh]⟩)])
abbrev ad6:List (Nat×VS):=[(1,aT),(2,cq),(4,dg),(5,lZ),(6,mI),(7,sy),(28,mI),(29,aa),(30,aa)]
def UL:Shape×List (Out×Shape):=(⟨ad6,adK⟩,[(.exit 0,⟨ad6++[(31,an)],adK⟩)])
abbrev ad7:List (Nat×VS):=[(2,aT),(6,qx),(13,dg),(14,lZ),(15,mI),(87,Uh),(88,aa),(89,aa)]
def UM:Shape×List (Out×Shape):=(⟨ad7,adL⟩,[(.exit 4,⟨ad7++[(90,an)],adL⟩)])
abbrev ad8:List (Nat×VS):=[(1,adq),(4,.one (.whole FD 1)),(5,aa),(6,aa)]
def QM:Shape×List (Out×Shape):=(⟨ad8,[Ut,Ig]⟩,[(.exit 0,⟨ad8++[(7,an)],[Ut,Ig]⟩)])
abbrev ad9:List (Nat×VS):=[(2,aa),(3,aT),(11,qx),(13,aa),(39,Uj),(40,aa),(41,aa)]
def UN:Shape×List (Out×Shape):=(⟨ad9,[tQ,aZ,AN]⟩,[(.ret,⟨[(6,an),(7,aa),(8,oQ),(9,aa),(10,aa)],oc⟩),(.exit 0,⟨ad9++[(42,an)],[tQ,aZ,AN]⟩)])
abbrev aea:List (Nat×VS):=[(0,aT),(3,mI),(16,aa),(17,aa)]
def UO:Shape×List (Out×Shape):=(⟨aea,[.var 124 [aa,D4,AB,aa,AF],.dead,.dead,.map cJ,aZ,dL,bh]⟩,[(.ret,⟨AR,Oo⟩),(.exit 0,⟨aea++[(18,an)],[.var 124 [aa,D4,AB,aa,AF],.dead,.dead,.map cJ,aZ,dL,bh]⟩)])
abbrev aeb:List (Nat×VS):=[(2,tP),(3,sy),(21,AH),(22,aa),(23,aa)]
def aqo:Shape×List (Out×Shape):=(⟨aeb,[.var 124 [aa,AH,AE,aa,AF],.dead,.dead,.map cJ,yL,.var 29 [aa,aa,H9,AE],dL,bh,bV,bh,bV]⟩,[(.exit 0,⟨aeb++[(24,an)],[.var 124 [aa,AH,AE,aa,AF],.dead,.dead,.map cJ,yL,.var 29 [aa,aa,H9,AE],dL,bh,bV,bh,bV]⟩)])
abbrev aec:List (Nat×VS):=[(0,jb),(1,aa),(18,aa),(19,aa)]
def aqp:Shape×List (Out×Shape):=(⟨aec,[]⟩,[(.ret,⟨sC,[]⟩),(.exit 0,⟨aec++[(20,an)],[]⟩)])
abbrev aed:List (Nat×VS):=[(2,aT),(4,cq),(5,AG),(7,lZ),(31,aa),(32,aa)]
def UP:Shape×List (Out×Shape):=(⟨aed,Oq⟩,[(.exit 0,⟨aed++[(33,an)],Oq⟩)])
abbrev aee:List (Nat×VS):=[(2,aT),(4,cq),(7,AG),(39,lZ),(40,aa),(41,aa)]
def UQ:Shape×List (Out×Shape):=(⟨aee,Oq⟩,[(.exit 2,⟨aee++[(42,an)],Oq⟩)])
abbrev aef:List (Nat×VS):=[(1,aT),(3,qx),(4,aa),(24,tN),(25,aa),(26,aa)]
def UR:Shape×List (Out×Shape):=(⟨aef,[fg,aZ]⟩,[(.exit 0,⟨aef++[(27,an)],[fg,aZ]⟩)])
abbrev aeg:List (Nat×VS):=[(1,aT),(3,qx),(4,aa),(7,adn),(8,lZ),(9,aa),(11,tP),(46,da),(47,aa),(48,aa),(58,c7),(59,aa),(60,aa)]
def US:Shape×List (Out×Shape):=(⟨aeg,[fg,aZ,.map H2,aZ,.var 139 [aa,aa,aa,aa,aa,aa,aa]]⟩,[(.exit 6,⟨aeg++[(61,an)],[fg,aZ,.map H2,aZ,.var 139 [aa,aa,aa,aa,aa,aa,aa]]⟩)])
abbrev aeh:List (Nat×VS):=[(1,aT),(3,qx),(4,aa),(7,adn),(8,lZ),(46,da),(47,aa),(48,aa)]
def UT:Shape×List (Out×Shape):=(⟨aeh,[fg,aZ,.map H2,aZ]⟩,[(.exit 4,⟨aeh++[(49,an)],[fg,aZ,.map H2,aZ]⟩)])
def UU:Shape×List (Out×Shape):=(⟨[(1,aT),(3,qx),(4,aa)],[fg,aZ]⟩,[(.ret,⟨[(2,oQ)],oc⟩)])
abbrev aei:List (Nat×VS):=[(0,aT),(3,cq),(5,aa),(6,aa),(33,aa),(34,aa),(37,aa),(38,aa)]
def UW:Shape×List (Out×Shape):=(⟨aei,Ot⟩,[(.exit 2,⟨aei++[(39,an)],Ot⟩)])
abbrev aej:List (Nat×VS):=[(0,aT),(3,cq),(5,aa),(33,aa),(34,aa)]
def UX:Shape×List (Out×Shape):=(⟨aej,Ot⟩,[(.exit 0,⟨aej++[(35,an)],Ot⟩)])
abbrev aek:List (Nat×VS):=[(0,aT),(2,kK),(5,tP),(7,aa),(8,sy),(9,aa)]
def UY:Shape×List (Out×Shape):=(⟨aek,[.var 99 [qw,.one (.whole kD 6),aa],AL,.dead,.var 69 [aa,AE,T6,T7,H9,H8],adC,Up,wZ,bh,jy,aZ,bV,bV,bh,bh,aZ,aZ,bh,pj,mJ,jy,aZ,bV,bV]⟩,[(.exit 0,⟨aek++[(55,an)],[.var 99 [qw,.one (.whole kD 6),aa],AL,.dead,.var 69 [aa,AE,T6,T7,H9,H8],adC,Up,wZ,bh,jy,aZ,bV,bV,bh,bh,aZ,aZ,bh,pj,mJ,jy,aZ,bV,bV]⟩)])
abbrev ael:List (Nat×VS):=[(0,aT),(2,kK),(5,tP),(7,aa),(8,sy),(10,aa),(12,aa),(86,AB),(87,aa),(88,aa)]
def UZ:Shape×List (Out×Shape):=(⟨ael,Ou⟩,[(.exit 4,⟨ael++[(119,an)],Ou⟩)])
abbrev aem:List (Nat×VS):=[(0,aT),(2,kK),(5,tP),(7,aa),(8,sy),(86,AB),(87,aa),(88,aa)]
def U0:Shape×List (Out×Shape):=(⟨aem,Ou⟩,[(.exit 2,⟨aem++[(89,an)],Ou⟩)])
abbrev aen:List (Nat×VS):=[(2,kK),(5,tP),(7,aa),(8,sy),(13,ado),(14,aa),(15,.one (.ay 7 0 0)),(162,Uk),(163,aa),(164,aa),(175,Ob),(176,aa),(177,aa)]
def U3:Shape×List (Out×Shape):=(⟨aen,[.var 99 [qw,Uk,aa],AL,.dead,adD,adE,adF,Uv,.var 142 [aa,tN,aa],wZ,bh,bh,jy,aZ,bV,bV,bh,aZ,aZ,bh,pj,mJ,jy,aZ,bV,bV]⟩,[(.exit 8,⟨aen++[(178,an)],[.var 99 [qw,Uk,aa],AL,.dead,adD,adE,adF,Uv,.var 142 [aa,tN,aa],wZ,bh,bh,jy,aZ,bV,bV,bh,aZ,aZ,bh,pj,mJ,jy,aZ,bV,bV]⟩)])
abbrev aeo:List (Nat×VS):=[(2,kK),(5,tP),(7,aa),(8,sy),(13,ado),(162,ada),(163,aa),(164,aa)]
def U4:Shape×List (Out×Shape):=(⟨aeo,adM⟩,[(.exit 6,⟨aeo++[(165,an)],adM⟩)])
def U5:Shape×List (Out×Shape):=(⟨[(2,aT),(3,cq),(22,.agg [.str,.str]),(23,aa)],[.var 109 [jb,an,Uj,aa,aa],adG,AN,AN]⟩,[(.exit 0,⟨[(2,aT),(3,cq),(22,.agg [.str,.str]),(23,aa),(24,an)],[.var 109 [jb,an,Uj,aa,aa],adG,AN,AN]⟩)])
abbrev aep:List (Nat×VS):=[(1,aa),(7,adu),(8,qx),(26,tN),(27,aa),(28,aa)]
def U6:Shape×List (Out×Shape):=(⟨aep,[Ig,aZ]⟩,[(.exit 0,⟨aep++[(29,an)],[Ig,aZ]⟩)])
abbrev aeq:List (Nat×VS):=[(1,aa),(53,dD),(54,aa),(55,aa)]
def aqq:Shape×List (Out×Shape):=(⟨aeq,[]⟩,[(.ret,⟨sC,[]⟩),(.exit 1,⟨aeq++[(56,an)],[]⟩)])
abbrev aer:List (Nat×VS):=[(1,aT),(2,cq),(3,Uf),(20,dD),(21,aa),(22,aa)]
def aqr:Shape×List (Out×Shape):=(⟨aer,[rC,.var 50 [aa,aa,D5],dL,dL]⟩,[(.exit 0,⟨aer++[(23,an)],[rC,.var 50 [aa,aa,D5],dL,dL]⟩)])
abbrev aes:List (Nat×VS):=[(19,dD),(20,aa),(21,aa)]
def aqs:Shape×List (Out×Shape):=(⟨aes,[]⟩,[(.ret,⟨Im,[]⟩),(.exit 1,⟨aes++[(22,an)],[]⟩)])
abbrev aet:List (Nat×VS):=[(2,dR),(3,aT),(7,cq),(20,dD),(21,aa),(22,aa)]
def aqt:Shape×List (Out×Shape):=(⟨aet,[rD,.var 90 [Ul],iG]⟩,[(.exit 0,⟨aet++[(23,an)],[rD,.var 90 [Ul],iG]⟩)])
abbrev aeu:List (Nat×VS):=[(3,aT),(4,cq),(7,adf),(8,kK),(9,aa)]
def aqu:Shape×List (Out×Shape):=(⟨aeu,[rD,rC,oR,np]⟩,[(.exit 0,⟨aeu++[(28,an)],[rD,rC,oR,np]⟩)])
abbrev aev:List (Nat×VS):=[(3,aT),(8,cq),(10,Ul),(11,kK),(12,aa)]
def aqv:Shape×List (Out×Shape):=(⟨aev,[rD,np,iG,AJ,iG]⟩,[(.exit 2,⟨aev++[(48,an)],[rD,np,iG,AJ,iG]⟩)])
abbrev aew:List (Nat×VS):=[(2,dR),(3,aT),(4,cq),(7,dg),(20,dD),(21,aa),(22,aa)]
def aqw:Shape×List (Out×Shape):=(⟨aew,[rD,rC,wY,iG]⟩,[(.exit 0,⟨aew++[(23,an)],[rD,rC,wY,iG]⟩)])
def aqx:Shape×List (Out×Shape):=(⟨[(1,.fn DQ [] [.ay 0 0 0,.ay 1 0 0,.ay 2 0 0]),(4,aa),(5,jx),(6,dR),(7,aa),(8,aa)],ve⟩,[(.exit 2,⟨[(1,.fn DQ [] [.ay 0 0 0,.ay 1 0 0,.ay 2 0 0]),(4,aa),(5,jx),(6,dR),(7,aa),(8,aa),(14,an)],ve⟩)])
def aqy:Shape×List (Out×Shape):=(⟨[(1,.fn DQ [] [.ay 0 0 0,.ay 1 0 0,.ay 2 0 0]),(6,dR),(7,aa),(8,aa)],ve⟩,[(.exit 0,⟨[(1,.fn DQ [] [.ay 0 0 0,.ay 1 0 0,.ay 2 0 0]),(6,dR),(7,aa),(8,aa),(9,an)],ve⟩)])
def aqz:Shape×List (Out×Shape):=(⟨[(0,aa),(1,aT),(2,cq),(3,dg),(10,an)],ve⟩,[(.norm,⟨[],ve⟩)])
def U7:Shape×List (Out×Shape):=(⟨[(0,aa),(2,.fn wS [] [.ay 0 0 0]),(3,.fn wU [] [.ay 0 0 0]),(8,cq),(11,dg),(12,kK),(13,aa),(14,aa),(15,mI),(36,aa),(37,aa)],[fg,Ib,.var 178 [Oi,.one (.cK kg 8)],Ol,aZ,bV,bh,aZ,.map kg,bV,bh]⟩,[(.exit 2,⟨[(0,aa),(2,.fn wS [] [.ay 0 0 0]),(3,.fn wU [] [.ay 0 0 0]),(8,cq),(11,dg),(12,kK),(13,aa),(14,aa),(15,mI),(36,aa),(37,aa),(38,an)],[fg,Ib,.var 178 [Oi,.one (.cK kg 8)],Ol,aZ,bV,bh,aZ,.map kg,bV,bh]⟩)])
def U8:Shape×List (Out×Shape):=(⟨[(0,aa),(2,.fn wS [] [.ay 0 0 0]),(3,.fn wU [] [.ay 0 0 0]),(8,cq),(11,dg),(12,kK),(13,aa)],[fg,yK,.var 178 [Ui,.one (.cK kg 7)],yL,bV,bh,aZ,.map kg,bV,bh]⟩,[(.ret,⟨[(8,cq),(9,mI),(10,aa)],[fg,adA,bV,bh,aZ]⟩),(.exit 0,⟨[(0,aa),(2,.fn wS [] [.ay 0 0 0]),(3,.fn wU [] [.ay 0 0 0]),(8,cq),(11,dg),(12,kK),(13,aa),(25,an)],[fg,yK,.var 178 [Ui,.one (.cK kg 7)],yL,bV,bh,aZ,.map kg,bV,bh]⟩)])
def U9:Shape×List (Out×Shape):=(⟨[(4,aT),(6,cq)],adN⟩,[(.ret,⟨[(4,aT),(5,aa)],[.var 145 [aa,an,qw,yG,lZ,mI,D2,ac6,aa],bh,bh,aZ,aZ,bh,pj]⟩),(.exit 0,⟨[(4,aT),(6,cq),(21,an)],adN⟩)])
abbrev aex:List (Nat×VS):=[(1,aT),(3,cq),(28,da),(29,aa),(30,aa)]
def Va:Shape×List (Out×Shape):=(⟨aex,[tQ,tQ]⟩,[(.ret,⟨AR,[]⟩),(.exit 0,⟨aex++[(31,an)],[tQ,tQ]⟩)])
abbrev aey:List (Nat×VS):=[(0,aT),(1,aa),(4,aa),(7,lZ),(20,mI),(21,aa),(22,aa)]
def Vb:Shape×List (Out×Shape):=(⟨aey,AO⟩,[(.exit 2,⟨aey++[(23,an)],AO⟩)])
abbrev aez:List (Nat×VS):=[(0,aT),(1,aa),(4,aa),(7,lZ)]
def Vc:Shape×List (Out×Shape):=(⟨aez,AO⟩,[(.ret,⟨[(4,aa),(5,an),(6,an)],AP⟩),(.exit 0,⟨aez++[(14,an)],AO⟩)])
abbrev aeA:List (Nat×VS):=[(0,aT),(3,lZ),(15,mI),(16,aa),(17,aa)]
def Vd:Shape×List (Out×Shape):=(⟨aeA,AO⟩,[(.exit 0,⟨aeA++[(18,an)],AO⟩)])
abbrev aeB:List (Nat×VS):=[(1,aa),(2,aT),(23,dD),(24,aa),(25,aa)]
def aqA:Shape×List (Out×Shape):=(⟨aeB,iw⟩,[(.ret,⟨[(6,an)],iw⟩),(.exit 0,⟨aeB++[(26,an)],iw⟩)])
def aqB:Shape×List (Out×Shape):=(⟨[(3,aT),(4,cq),(5,dg),(6,kK),(24,an)],[rC,Ic,.var 50 [aa,aa,AH],.var 50 [aa,aa,.one (.whole cx 7)],dL,dL,dL,dL]⟩,[(.norm,⟨[(3,aT),(4,cq),(5,dg)],[rC,.var 164 [aa,aa,D5,aa,aa,H5,an],.var 50 [aa,aa,D4],dL,dL,dL]⟩)])
def aqC:Shape×List (Out×Shape):=(⟨[(0,aT),(3,dg),(5,aa),(28,an)],AQ⟩,[(.norm,⟨[],tR⟩)])
def aqD:Shape×List (Out×Shape):=(⟨[(0,aT),(3,dg),(5,aa),(22,an)],AQ⟩,[(.norm,⟨[],tR⟩)])
def aqE:Shape×List (Out×Shape):=(⟨[(0,aT),(3,dg),(5,aa),(14,an)],AQ⟩,[(.norm,⟨[],tR⟩)])
def aqF:Shape×List (Out×Shape):=(⟨[(0,aT),(3,dg),(5,aa),(10,an)],AQ⟩,[(.norm,⟨[],tR⟩)])
def aqG:Shape×List (Out×Shape):=(⟨[(0,aT),(3,dg),(5,aa),(6,an)],AQ⟩,[(.norm,⟨[],tR⟩)])
abbrev aeC:List (Nat×VS):=[(0,Oh),(1,dR),(6,aa)]
def aqH:Shape×List (Out×Shape):=(⟨aeC,[oR]⟩,[(.exit 0,⟨aeC++[(12,an)],[oR]⟩)])
abbrev aeD:List (Nat×VS):=[(0,aa),(1,aT),(2,cq),(3,dg),(10,aa),(11,aa)]
def aqI:Shape×List (Out×Shape):=(⟨aeD,vf⟩,[(.exit 0,⟨aeD++[(12,an)],vf⟩)])
abbrev aeE:List (Nat×VS):=[(0,aa),(1,aT),(2,cq),(3,dg),(5,ac7),(6,aa)]
def aqJ:Shape×List (Out×Shape):=(⟨aeE,[rD,np,wY,iG,oR]⟩,[(.exit 0,⟨aeE++[(13,an)],[rD,np,wY,iG,oR]⟩)])
abbrev aeF:List (Nat×VS):=[(1,an),(6,aT),(39,da),(40,aa),(41,aa)]
def Ve:Shape×List (Out×Shape):=(⟨aeF,qz⟩,[(.ret,⟨[(4,.one (.eJ)),(5,aa)],[]⟩),(.exit 0,⟨aeF++[(42,an)],qz⟩)])
def Vf:Shape×List (Out×Shape):=(⟨[(6,aT),(9,aa),(72,an)],qz⟩,[(.norm,⟨[(6,aT),(9,aa)],qz⟩)])
def Vg:Shape×List (Out×Shape):=(⟨[(6,aT),(9,aa),(10,aa),(11,c7),(12,jb),(13,aa),(85,qw),(86,aa),(87,aa),(106,an)],qz⟩,[(.norm,⟨[(6,aT),(9,aa),(13,aa),(85,qw),(86,aa),(87,aa)],qz⟩)])
abbrev aeG:List (Nat×VS):=[(6,aT),(9,aa),(85,qw),(86,aa),(87,aa)]
def Vh:Shape×List (Out×Shape):=(⟨aeG,qz⟩,[(.exit 2,⟨aeG++[(88,an)],qz⟩)])
def Vi:Shape×List (Out×Shape):=(⟨[(0,aT),(3,aa),(4,Og),(5,aa),(7,Ue),(8,aa),(10,jb),(27,yH),(28,aa),(29,aa),(78,an)],[.var 183 [aa,an,yH,Od,H6,H7,adr,ads,aa,H3,adb,T9,adt],.dead,.dead,.dead,.dead,.dead,.dead,.map cJ,.dead,.dead,.dead,aZ,aZ,bh,bh,aZ,aZ,bh,pj,jy,aZ,aZ]⟩,[(.norm,⟨[(0,aT),(3,aa),(4,Og),(5,aa),(8,aa),(27,yI),(28,aa),(29,aa)],Uw⟩)])
abbrev aeH:List (Nat×VS):=[(0,aT),(3,aa),(4,Og),(27,yI),(28,aa),(29,aa)]
def Vj:Shape×List (Out×Shape):=(⟨aeH,Uw⟩,[(.ret,⟨AR,Ux⟩),(.exit 0,⟨aeH++[(30,an)],Uw⟩)])
abbrev aeI:List (Nat×VS):=[(0,c7),(1,aa),(7,aa),(8,aa)]
def Vk:Shape×List (Out×Shape):=(⟨aeI,[]⟩,[(.ret,⟨AS,[]⟩),(.exit 0,⟨aeI++[(9,an)],[]⟩)])
abbrev aeJ:List (Nat×VS):=[(0,aT),(2,cq),(4,Um)]
def aqK:Shape×List (Out×Shape):=(⟨aeJ,[AK,Om,yM,yM]⟩,[(.ret,⟨[(2,cq),(3,an)],[AK,.var 114 [aa,aa,Um],yM]⟩),(.exit 0,⟨aeJ++[(16,an)],[AK,Om,yM,yM]⟩)])
abbrev aeK:List (Nat×VS):=[(1,aT),(3,aa),(53,da),(54,aa),(55,aa)]
def Vl:Shape×List (Out×Shape):=(⟨aeK,[tQ]⟩,[(.ret,⟨Im,[]⟩),(.exit 0,⟨aeK++[(56,an)],[tQ]⟩)])
abbrev aeL:List (Nat×VS):=[(1,aT),(2,cq),(3,dg),(4,aa),(5,c7),(19,da),(20,aa),(21,aa),(34,c7),(35,aa),(36,aa)]
def Vm:Shape×List (Out×Shape):=(⟨aeL,Ov⟩,[(.exit 2,⟨aeL++[(37,an)],Ov⟩)])
abbrev aeM:List (Nat×VS):=[(1,aT),(2,cq),(3,dg),(19,da),(20,aa),(21,aa)]
def Vn:Shape×List (Out×Shape):=(⟨aeM,Ov⟩,[(.exit 0,⟨aeM++[(22,an)],Ov⟩)])
abbrev aeN:List (Nat×VS):=[(0,c7),(1,c7),(12,aa),(13,aa)]
def Vo:Shape×List (Out×Shape):=(⟨aeN,[]⟩,[(.ret,⟨sC,[]⟩),(.exit 0,⟨aeN++[(14,an)],[]⟩)])
abbrev aeO:List (Nat×VS):=[(0,H4),(1,H4),(12,aa),(13,aa)]
def Vp:Shape×List (Out×Shape):=(⟨aeO,[]⟩,[(.ret,⟨sC,[]⟩),(.exit 0,⟨aeO++[(14,an)],[]⟩)])
abbrev aeP:List (Nat×VS):=[(0,tN),(1,tN),(12,aa),(13,aa)]
def Vq:Shape×List (Out×Shape):=(⟨aeP,[]⟩,[(.ret,⟨sC,[]⟩),(.exit 0,⟨aeP++[(14,an)],[]⟩)])
abbrev aeQ:List (Nat×VS):=[(0,da),(1,c7),(5,D3),(15,c7),(16,aa),(17,aa)]
def Vr:Shape×List (Out×Shape):=(⟨aeQ,sA⟩,[(.ret,⟨sC,[]⟩),(.exit 0,⟨aeQ++[(18,an)],sA⟩)])
abbrev aeR:List (Nat×VS):=[(0,da),(1,c7),(5,D3),(9,aa),(47,c7),(48,aa),(49,aa),(53,c7),(54,aa),(55,aa)]
def Vs:Shape×List (Out×Shape):=(⟨aeR,sA⟩,[(.ret,⟨sC,[]⟩),(.exit 4,⟨aeR++[(56,an)],sA⟩)])
abbrev aeS:List (Nat×VS):=[(0,da),(1,c7),(5,D3),(47,c7),(48,aa),(49,aa)]
def Vt:Shape×List (Out×Shape):=(⟨aeS,sA⟩,[(.ret,⟨sC,[]⟩),(.exit 2,⟨aeS++[(50,an)],sA⟩)])
abbrev aeT:List (Nat×VS):=[(3,aT),(6,tO),(7,aa),(8,aa)]
def aqL:Shape×List (Out×Shape):=(⟨aeT,[Ea]⟩,[(.exit 0,⟨aeT++[(9,an)],[Ea]⟩)])
abbrev aeU:List (Nat×VS):=[(1,aT),(3,.one (.whole bG 1)),(19,tO),(20,aa),(21,aa)]
def aqM:Shape×List (Out×Shape):=(⟨aeU,[vd,Uu]⟩,[(.exit 1,⟨aeU++[(22,an)],[vd,Uu]⟩)])
abbrev aeV:List (Nat×VS):=[(0,da),(1,c7),(7,aT),(8,cq),(10,yG),(11,aa),(33,aa),(34,aa),(37,c7),(38,aa),(39,aa)]
def Vu:Shape×List (Out×Shape):=(⟨aeV,Ow⟩,[(.exit 2,⟨aeV++[(40,an)],Ow⟩)])
abbrev aeW:List (Nat×VS):=[(0,da),(1,c7),(7,aT),(8,cq),(10,yG),(33,aa),(34,aa)]
def Vv:Shape×List (Out×Shape):=(⟨aeW,Ow⟩,[(.exit 0,⟨aeW++[(35,an)],Ow⟩)])
abbrev aeX:List (Nat×VS):=[(0,da),(7,aT),(11,cq),(12,AG),(18,Of),(19,aa),(20,aa),(24,sx),(25,aa),(26,aa),(48,aa),(49,aa)]
def Vw:Shape×List (Out×Shape):=(⟨aeX,[qy,Ur,aZ]⟩,[(.exit 4,⟨aeX++[(50,an)],[qy,Ur,aZ]⟩)])
abbrev aeY:List (Nat×VS):=[(0,da),(7,aT),(18,Of),(19,aa),(20,aa),(24,sx),(25,aa),(26,aa)]
def Vx:Shape×List (Out×Shape):=(⟨aeY,[qy]⟩,[(.exit 2,⟨aeY++[(27,an)],[qy]⟩)])
abbrev aeZ:List (Nat×VS):=[(0,da),(7,aT),(18,Of),(19,aa),(20,aa)]
def Vy:Shape×List (Out×Shape):=(⟨aeZ,[qy]⟩,[(.exit 0,⟨aeZ++[(21,an)],[qy]⟩)])
def Vz:Shape×List (Out×Shape):=(⟨[(0,aT),(2,qx),(7,dg),(8,aa),(10,kK),(11,sx),(12,aa),(13,aa),(18,aa),(19,an)],[qy,aZ,aZ,Ur]⟩,[(.norm,⟨adP,Uy⟩)])
def VA:Shape×List (Out×Shape):=(⟨adP,Uy⟩,[(.exit 0,⟨[(0,aT),(2,qx),(7,dg),(8,aa),(11,sx),(12,aa),(13,aa),(14,an)],Uy⟩)])
def VB:Shape×List (Out×Shape):=(⟨[(0,aT),(3,aa)],AP⟩,[(.ret,⟨Im,AP⟩),(.exit 0,⟨[(0,aT),(3,aa),(11,an)],AP⟩)])
abbrev ae0:List (Nat×VS):=[(2,aT),(3,cq),(4,dg),(5,D5),(6,H5),(7,aa),(21,dD),(22,aa),(23,aa)]
def aqN:Shape×List (Out×Shape):=(⟨ae0,[On,rC,.var 164 [aa,aa,D4,aa,aa,AH,an],dL,dL,dL,dL]⟩,[(.exit 0,⟨ae0++[(24,an)],[On,rC,.var 164 [aa,aa,D4,aa,aa,AH,an],dL,dL,dL,dL]⟩)])
abbrev ae1:List (Nat×VS):=[(2,aT),(4,cq),(5,Uf),(6,D5),(7,an),(20,dD),(21,aa),(22,aa)]
def aqO:Shape×List (Out×Shape):=(⟨ae1,[On,Ic,dL,dL,dL,dL]⟩,[(.exit 0,⟨ae1++[(23,an)],[On,Ic,dL,dL,dL,dL]⟩)])
abbrev ae2:List (Nat×VS):=[(4,aT),(6,Oc),(7,an),(11,Uf),(54,D5),(55,aa),(56,aa)]
def aqP:Shape×List (Out×Shape):=(⟨ae2,[Ic,dL,dL,dL,dL,dL]⟩,[(.exit 2,⟨ae2++[(57,an)],[Ic,dL,dL,dL,dL,dL]⟩)])
def aqQ:Shape×List (Out×Shape):=(⟨[(0,aT),(2,jb),(3,aa),(9,dg),(10,dD),(11,aa),(12,aa),(18,an)],AQ⟩,[(.norm,⟨[(0,aT),(2,jb),(3,aa),(9,dg),(10,dD),(11,aa),(12,aa)],AQ⟩)])
abbrev ae3:List (Nat×VS):=[(0,aT),(2,jb),(3,aa),(10,dD),(11,aa),(12,aa)]
def aqR:Shape×List (Out×Shape):=(⟨ae3,tR⟩,[(.exit 0,⟨ae3++[(13,an)],tR⟩)])
def aqS:Shape×List (Out×Shape):=(⟨[(0,dD),(1,.fn yE [] []),(7,aa),(8,aa)],[]⟩,[(.ret,⟨AS,[]⟩),(.exit 0,⟨[(0,dD),(1,.fn yE [] []),(7,aa),(8,aa),(9,an)],[]⟩)])
abbrev ae4:List (Nat×VS):=[(0,c7),(13,c7),(14,aa),(15,aa)]
def VC:Shape×List (Out×Shape):=(⟨ae4,[]⟩,[(.ret,⟨Im,[]⟩),(.exit 0,⟨ae4++[(16,an)],[]⟩)])
abbrev ae5:List (Nat×VS):=[(3,oQ),(14,aa),(15,aa)]
def VD:Shape×List (Out×Shape):=(⟨ae5,oc⟩,[(.exit 0,⟨ae5++[(16,an)],oc⟩)])
abbrev ae6:List (Nat×VS):=[(3,.one (.whole H0 0)),(9,c7),(10,aa),(11,aa)]
def VE:Shape×List (Out×Shape):=(⟨ae6,[Ie]⟩,[(.exit 0,⟨ae6++[(12,an)],[Ie]⟩)])
abbrev ae7:List (Nat×VS):=[(1,c7),(5,oQ),(26,c7),(27,aa),(28,aa)]
def VF:Shape×List (Out×Shape):=(⟨ae7,oc⟩,[(.exit 0,⟨ae7++[(29,an)],oc⟩)])
def aqT:Shape×List (Out×Shape):=(⟨kL,oS⟩,[(.exit 0,⟨[(0,aT),(3,an)],oS⟩)])
abbrev ae8:List (Nat×VS):=[(0,aT),(2,cq),(4,dg)]
def aqU:Shape×List (Out×Shape):=(⟨ae8,[AK,Om,vd,yM]⟩,[(.ret,⟨[(2,cq),(3,an)],[AK,.var 114 [aa,aa,Um],yM]⟩),(.exit 0,⟨ae8++[(19,an)],[AK,Om,vd,yM]⟩)])
abbrev ae9:List (Nat×VS):=[(1,aa),(7,c7),(8,aa),(9,aa)]
def VG:Shape×List (Out×Shape):=(⟨ae9,[]⟩,[(.ret,⟨sC,[]⟩),(.exit 0,⟨ae9++[(10,an)],[]⟩)])
abbrev afa:List (Nat×VS):=[(0,da),(13,da),(14,aa),(15,aa),(24,c7),(25,aa),(26,aa)]
def VH:Shape×List (Out×Shape):=(⟨afa,[]⟩,[(.ret,⟨AR,[]⟩),(.exit 2,⟨afa++[(27,an)],[]⟩)])
abbrev afb:List (Nat×VS):=[(0,da),(13,da),(14,aa),(15,aa)]
def VI:Shape×List (Out×Shape):=(⟨afb,[]⟩,[(.ret,⟨AR,[]⟩),(.exit 0,⟨afb++[(16,an)],[]⟩)])
abbrev afc:List (Nat×VS):=[(0,da),(5,D3),(7,aa),(9,c7),(10,c7),(16,c7),(17,aa),(18,aa),(29,da),(30,aa),(31,aa),(45,c7),(46,aa),(47,aa)]
def VJ:Shape×List (Out×Shape):=(⟨afc,sA⟩,[(.ret,⟨sC,[]⟩),(.exit 4,⟨afc++[(48,an)],sA⟩)])
abbrev afd:List (Nat×VS):=[(0,da),(5,D3),(7,aa),(16,c7),(17,aa),(18,aa),(29,da),(30,aa),(31,aa)]
def VK:Shape×List (Out×Shape):=(⟨afd,sA⟩,[(.ret,⟨sC,[]⟩),(.exit 2,⟨afd++[(32,an)],sA⟩)])
abbrev afe:List (Nat×VS):=[(0,da),(5,D3),(16,c7),(17,aa),(18,aa)]
def VM:Shape×List (Out×Shape):=(⟨afe,sA⟩,[(.ret,⟨sC,[]⟩),(.exit 0,⟨afe++[(19,an)],sA⟩)])
def VN:Shape×List (Out×Shape):=(⟨[(0,da),(3,oQ),(4,cq),(5,dg),(6,.fn sw [] [.ay 2 0 0,.ay 1 0 0]),(7,aa),(9,aa),(17,aa),(18,aa),(45,c7),(46,aa),(47,aa)],Ed⟩,[(.exit 4,⟨[(0,da),(3,oQ),(4,cq),(5,dg),(6,.fn sw [] [.ay 2 0 0,.ay 1 0 0]),(7,aa),(9,aa),(17,aa),(18,aa),(45,c7),(46,aa),(47,aa),(48,an)],Ed⟩)])
def VO:Shape×List (Out×Shape):=(⟨[(0,da),(3,oQ),(4,cq),(5,dg),(6,.fn sw [] [.ay 2 0 0,.ay 1 0 0]),(7,aa),(17,aa),(18,aa)],Ed⟩,[(.exit 2,⟨[(0,da),(3,oQ),(4,cq),(5,dg),(6,.fn sw [] [.ay 2 0 0,.ay 1 0 0]),(7,aa),(17,aa),(18,aa),(35,an)],Ed⟩)])
def VP:Shape×List (Out×Shape):=(⟨[(0,da),(3,oQ),(4,cq),(5,dg),(6,.fn sw [] [.ay 2 0 0,.ay 1 0 0]),(7,aa),(17,aa),(18,aa)],Ed⟩,[(.exit 0,⟨[(0,da),(3,oQ),(4,cq),(5,dg),(6,.fn sw [] [.ay 2 0 0,.ay 1 0 0]),(7,aa),(17,aa),(18,aa),(19,an)],Ed⟩)])
def VQ:Shape×List (Out×Shape):=(⟨[(0,c7),(1,.fn Az [] [.ay 0 0 0]),(7,aa),(8,aa)],vg⟩,[(.ret,⟨AS,vg⟩),(.exit 0,⟨[(0,c7),(1,.fn Az [] [.ay 0 0 0]),(7,aa),(8,aa),(9,an)],vg⟩)])
abbrev aff:List (Nat×VS):=[(3,oQ),(9,aa),(10,aa)]
def VR:Shape×List (Out×Shape):=(⟨aff,oc⟩,[(.exit 0,⟨aff++[(11,an)],oc⟩)])
abbrev afg:List (Nat×VS):=[(0,aa),(1,aT),(6,aa),(7,aa)]
def VT:Shape×List (Out×Shape):=(⟨afg,vg⟩,[(.ret,⟨[(3,an)],vg⟩),(.exit 0,⟨afg++[(8,an)],vg⟩)])
def aqV:Shape×List (Out×Shape):=(⟨[(2,aT),(3,cq),(4,dg),(5,kK),(8,an)],[vc,vc,vd,vd]⟩,[(.norm,⟨[],Ih⟩)])
abbrev afh:List (Nat×VS):=[(3,aT),(6,tO),(7,aa),(8,aa)]
def aqW:Shape×List (Out×Shape):=(⟨afh,iw⟩,[(.exit 0,⟨afh++[(9,an)],iw⟩)])
abbrev afi:List (Nat×VS):=[(0,da),(1,aa),(2,aa),(7,aa)]
def VU:Shape×List (Out×Shape):=(⟨afi,[]⟩,[(.exit 0,⟨afi++[(19,an)],[]⟩)])
abbrev afj:List (Nat×VS):=[(0,da),(7,aa),(8,aa),(9,aa)]
def VV:Shape×List (Out×Shape):=(⟨afj,[]⟩,[(.exit 2,⟨afj++[(45,an)],[]⟩)])
abbrev afk:List (Nat×VS):=[(0,da),(1,aa),(8,aa),(54,aa),(55,aa)]
def VW:Shape×List (Out×Shape):=(⟨afk,[]⟩,[(.exit 4,⟨afk++[(56,an)],[]⟩)])
def VX:Shape×List (Out×Shape):=(⟨[(0,da),(1,.fn xZ [] []),(7,aa),(8,aa)],[]⟩,[(.ret,⟨AS,[]⟩),(.exit 0,⟨[(0,da),(1,.fn xZ [] []),(7,aa),(8,aa),(9,an)],[]⟩)])
def aqX:Shape×List (Out×Shape):=(⟨[(0,cp),(1,.fn yD [] []),(5,aa),(6,aa)],bt⟩,[(.exit 0,⟨[(0,cp),(1,.fn yD [] []),(5,aa),(6,aa),(19,an)],bt⟩)])
abbrev afl:List (Nat×VS):=[(0,aa),(5,cp),(8,dD),(9,aa),(10,aa)]
def aqY:Shape×List (Out×Shape):=(⟨afl,bt⟩,[(.exit 0,⟨afl++[(11,an)],bt⟩)])
abbrev afm:List (Nat×VS):=[(1,aa),(5,aa),(18,tO),(19,aa),(20,aa)]
def aqZ:Shape×List (Out×Shape):=(⟨afm,[]⟩,[(.exit 0,⟨afm,[]⟩)])
def aq0:Shape×List (Out×Shape):=(⟨[(0,cp),(1,.fn D0 [] []),(5,aa),(6,.one (.sub cx 0)),(7,aa)],bt⟩,[(.exit 2,⟨[(0,cp),(1,.fn D0 [] []),(5,aa),(6,.one (.sub cx 0)),(7,aa),(35,an)],bt⟩)])
def aq1:Shape×List (Out×Shape):=(⟨[(0,cp),(1,.fn D0 [] []),(5,aa)],bt⟩,[(.ret,⟨[(4,Oc)],Ee⟩),(.exit 0,⟨[(0,cp),(1,.fn D0 [] []),(5,aa),(15,an)],bt⟩)])
def aq2:Shape×List (Out×Shape):=(⟨[(0,cp),(1,aa),(2,aa),(3,aa),(4,.fn cH [] []),(10,an),(11,an),(12,aa),(39,an)],bt⟩,[(.norm,⟨[(0,cp),(1,aa),(2,aa),(3,aa),(4,.fn cH [] []),(10,an),(11,an),(12,aa)],bt⟩)])
def aq3:Shape×List (Out×Shape):=(⟨[(0,cp),(1,aa),(2,aa),(3,aa),(4,.fn cH [] []),(10,an),(11,an),(12,aa),(13,aa),(14,aa),(56,an)],bt⟩,[(.norm,⟨[(0,cp),(1,aa),(2,aa),(3,aa),(4,.fn cH [] []),(10,an),(11,an),(12,aa),(13,aa),(14,aa)],bt⟩)])
def aq4:Shape×List (Out×Shape):=(⟨[(0,cp),(1,aa),(2,aa),(3,aa),(4,.fn cH [] []),(10,an),(11,an),(12,aa),(13,aa),(75,an)],bt⟩,[(.ret,⟨[(0,cp),(1,aa),(2,aa),(3,aa),(4,.fn cH [] []),(10,an),(11,an),(12,aa),(13,aa),(80,an)],bt⟩),(.norm,⟨[(0,cp),(1,aa),(2,aa),(3,aa),(4,.fn cH [] []),(10,an),(11,an),(12,aa),(13,aa)],bt⟩)])
def aq5:Shape×List (Out×Shape):=(⟨[(0,cp),(1,aa),(2,aa),(3,aa),(4,.fn cH [] []),(10,an),(11,an)],bt⟩,[(.ret,⟨[],bt⟩)])
def aq6:Shape×List (Out×Shape):=(⟨[(0,dD),(1,dD),(2,.fn cH [] []),(11,dD),(12,aa),(13,aa)],[]⟩,[(.ret,⟨[(6,aa)],[]⟩),(.exit 0,⟨[(0,dD),(1,dD),(2,.fn cH [] []),(11,dD),(12,aa),(13,aa),(14,an)],[]⟩)])
def aq7:Shape×List (Out×Shape):=(⟨[(0,cp),(1,aa),(2,aa),(3,.fn cH [] []),(8,aa),(9,aa)],bt⟩,[(.exit 2,⟨[(0,cp),(1,aa),(2,aa),(3,.fn cH [] []),(8,aa),(9,aa),(34,an)],bt⟩)])
def aq8:Shape×List (Out×Shape):=(⟨[(0,cp),(1,aa),(2,aa),(3,.fn cH [] []),(8,aa)],bt⟩,[(.exit 0,⟨[(0,cp),(1,aa),(2,aa),(3,.fn cH [] []),(8,aa),(14,an)],bt⟩)])
def aq9:Shape×List (Out×Shape):=(⟨[(0,cp),(3,.fn cH [] []),(8,aa),(9,aa),(10,aa),(11,aa)],bt⟩,[(.exit 0,⟨[(0,cp),(3,.fn cH [] []),(8,aa),(9,aa),(10,aa),(11,aa),(21,an)],bt⟩)])
def ara:Shape×List (Out×Shape):=(⟨[(0,cp),(3,.fn cH [] []),(8,aa),(9,aa),(12,aa)],bt⟩,[(.exit 2,⟨[(0,cp),(3,.fn cH [] []),(8,aa),(9,aa),(12,aa),(33,an)],bt⟩)])
def arb:Shape×List (Out×Shape):=(⟨[(0,cp),(1,aa),(8,aa),(9,cq),(10,jx),(11,aa),(12,aa),(45,an)],Ox⟩,[(.norm,⟨[(0,cp),(1,aa),(8,aa),(9,cq),(10,jx),(11,aa),(12,aa)],Ox⟩)])
abbrev afn:List (Nat×VS):=[(0,cp),(1,aa),(8,aa),(9,cq),(10,jx),(11,aa)]
def arc:Shape×List (Out×Shape):=(⟨afn,Ox⟩,[(.exit 0,⟨afn++[(35,an)],Ox⟩)])
def ard:Shape×List (Out×Shape):=(⟨[(0,dD),(3,.fn cH [] []),(11,aT),(12,aa),(13,aa),(14,aa),(36,an)],iw⟩,[(.norm,⟨[(0,dD),(3,.fn cH [] []),(11,aT),(12,aa),(13,aa),(14,aa)],iw⟩)])
def are:Shape×List (Out×Shape):=(⟨[(0,dD),(3,.fn cH [] []),(10,aa),(11,aT),(12,aa),(13,aa),(14,aa),(34,an)],iw⟩,[(.norm,⟨[(11,aT),(13,aa)],iw⟩)])
abbrev afo:List (Nat×VS):=[(0,cp),(8,aa),(9,aa)]
def arf:Shape×List (Out×Shape):=(⟨afo,bt⟩,[(.exit 0,⟨afo++[(15,an)],bt⟩)])
def arh:Shape×List (Out×Shape):=(⟨[(0,cp),(1,aa),(2,aa),(3,.fn cH [] []),(9,aa),(10,aa)],bt⟩,[(.exit 2,⟨[(0,cp),(1,aa),(2,aa),(3,.fn cH [] []),(9,aa),(10,aa),(36,an)],bt⟩)])
def ari:Shape×List (Out×Shape):=(⟨[(0,cp),(1,aa),(2,aa),(3,.fn cH [] []),(9,aa),(10,aa),(11,aa)],bt⟩,[(.exit 4,⟨[(0,cp),(1,aa),(2,aa),(3,.fn cH [] []),(9,aa),(10,aa),(11,aa)],bt⟩)])
def arj:Shape×List (Out×Shape):=(⟨[(0,cp),(1,aa),(2,aa),(3,.fn cH [] []),(9,aa),(10,aa),(65,an)],bt⟩,[(.norm,⟨[(0,cp),(1,aa),(2,aa),(3,.fn cH [] []),(9,aa),(10,aa)],bt⟩)])
def ark:Shape×List (Out×Shape):=(⟨[(0,cp),(1,aa),(2,aa),(3,.fn cH [] []),(9,aa),(10,aa),(12,aa)],bt⟩,[(.exit 6,⟨[(0,cp),(1,aa),(2,aa),(3,.fn cH [] []),(9,aa),(10,aa),(12,aa)],bt⟩)])
def arl:Shape×List (Out×Shape):=(⟨[(0,cp),(1,aa),(2,aa),(3,.fn cH [] []),(9,aa),(10,aa)],bt⟩,[(.ret,⟨[(8,an)],bt⟩),(.exit 0,⟨[(0,cp),(1,aa),(2,aa),(3,.fn cH [] []),(9,aa),(10,aa),(16,an)],bt⟩)])
def arn:Shape×List (Out×Shape):=(⟨[(0,cp),(1,aa),(4,.fn cH [] []),(11,aa),(12,aa)],bt⟩,[(.exit 2,⟨[(0,cp),(1,aa),(4,.fn cH [] []),(11,aa),(12,aa),(47,an)],bt⟩)])
def aro:Shape×List (Out×Shape):=(⟨[(0,cp),(1,aa),(4,.fn cH [] []),(11,aa),(12,aa)],bt⟩,[(.exit 4,⟨[(0,cp),(1,aa),(4,.fn cH [] []),(11,aa),(12,aa),(65,an)],bt⟩)])
def arp:Shape×List (Out×Shape):=(⟨[(0,cp),(1,aa),(4,.fn cH [] []),(11,aa),(12,aa)],bt⟩,[(.exit 0,⟨[(0,cp),(1,aa),(4,.fn cH [] []),(11,aa),(12,aa),(70,an)],bt⟩)])
def arq:Shape×List (Out×Shape):=(⟨[(0,cp),(1,aa),(4,.fn cH [] []),(12,aa),(13,aa)],bt⟩,[(.exit 0,⟨[(0,cp),(1,aa),(4,.fn cH [] []),(12,aa),(13,aa),(47,an)],bt⟩)])
def ars:Shape×List (Out×Shape):=(⟨[(0,cp),(1,aa),(4,.fn cH [] []),(12,aa),(13,aa)],bt⟩,[(.exit 2,⟨[(0,cp),(1,aa),(4,.fn cH [] []),(12,aa),(13,aa),(66,an)],bt⟩)])
def art:Shape×List (Out×Shape):=(⟨[(0,cp),(1,aa),(4,.fn cH [] []),(12,aa),(13,aa)],bt⟩,[(.exit 6,⟨[(0,cp),(1,aa),(4,.fn cH [] []),(12,aa),(13,aa),(120,an)],bt⟩)])
def aru:Shape×List (Out×Shape):=(⟨[(0,cp),(1,aa),(4,.fn cH [] []),(12,aa),(13,aa)],bt⟩,[(.exit 8,⟨[(0,cp),(1,aa),(4,.fn cH [] []),(12,aa),(13,aa),(139,an)],bt⟩)])
def arv:Shape×List (Out×Shape):=(⟨[(0,cp),(1,aa),(4,.fn cH [] []),(12,aa),(13,aa)],bt⟩,[(.exit 4,⟨[(0,cp),(1,aa),(4,.fn cH [] []),(12,aa),(13,aa),(144,an)],bt⟩)])
def arw:Shape×List (Out×Shape):=(⟨[(0,jx),(2,aa),(4,an)],[]⟩,[(.norm,⟨[(0,jx),(2,aa)],[]⟩)])
def arx:Shape×List (Out×Shape):=(⟨[(0,jx),(2,aa),(8,an)],[]⟩,[(.norm,⟨[(0,jx),(2,aa)],[]⟩)])
def ary:Shape×List (Out×Shape):=(⟨[(0,cp),(2,aa),(3,aa),(4,.fn cH [] []),(10,aa),(11,aa),(40,an)],bt⟩,[(.norm,⟨[(0,cp),(2,aa),(3,aa),(4,.fn cH [] []),(10,aa),(11,aa)],bt⟩)])
def arz:Shape×List (Out×Shape):=(⟨[(0,cp),(2,aa),(3,aa),(4,.fn cH [] []),(10,aa)],bt⟩,[(.exit 0,⟨[(0,cp),(2,aa),(3,aa),(4,.fn cH [] []),(10,aa),(11,aa),(18,an)],bt⟩),(.ret,⟨[(0,cp),(2,aa),(3,aa),(4,.fn cH [] []),(10,aa),(11,aa),(58,an)],bt⟩)])
def arA:Shape×List (Out×Shape):=(⟨[(0,dD),(1,.fn yD [] []),(7,aa),(8,aa)],[]⟩,[(.ret,⟨AS,[]⟩),(.exit 0,⟨[(0,dD),(1,.fn yD [] []),(7,aa),(8,aa),(9,an)],[]⟩)])
def arB:Shape×List (Out×Shape):=(⟨[(0,cp),(1,.fn AA [] []),(5,aa),(6,aa)],bt⟩,[(.exit 0,⟨[(0,cp),(1,.fn AA [] []),(5,aa),(6,aa),(19,an)],bt⟩)])
def arC:Shape×List (Out×Shape):=(⟨[(0,dD),(1,.fn AA [] []),(7,aa),(8,aa)],[]⟩,[(.ret,⟨AS,[]⟩),(.exit 0,⟨[(0,dD),(1,.fn AA [] []),(7,aa),(8,aa),(9,an)],[]⟩)])
def arD:Shape×List (Out×Shape):=(⟨[(0,cp),(1,.fn yE [] []),(5,aa),(6,aa)],bt⟩,[(.exit 0,⟨[(0,cp),(1,.fn yE [] []),(5,aa),(6,aa),(19,an)],bt⟩)])
def arE:Shape×List (Out×Shape):=(⟨[(1,.fn DU [] [.ay 0 0 0]),(4,aa),(5,jx),(6,dR),(7,aa),(8,aa)],iw⟩,[(.exit 2,⟨[(1,.fn DU [] [.ay 0 0 0]),(4,aa),(5,jx),(6,dR),(7,aa),(8,aa),(14,an)],iw⟩)])
def arF:Shape×List (Out×Shape):=(⟨[(1,.fn DU [] [.ay 0 0 0]),(6,dR),(7,aa),(8,aa)],iw⟩,[(.exit 0,⟨[(1,.fn DU [] [.ay 0 0 0]),(6,dR),(7,aa),(8,aa),(9,an)],iw⟩)])
def arG:Shape×List (Out×Shape):=(⟨[(1,.fn DV [] [.ay 0 0 0,.ay 1 0 0]),(4,aa),(5,jx),(6,dR),(7,aa),(8,aa)],sB⟩,[(.exit 2,⟨[(1,.fn DV [] [.ay 0 0 0,.ay 1 0 0]),(4,aa),(5,jx),(6,dR),(7,aa),(8,aa),(14,an)],sB⟩)])
def arH:Shape×List (Out×Shape):=(⟨[(1,.fn DV [] [.ay 0 0 0,.ay 1 0 0]),(6,dR),(7,aa),(8,aa)],sB⟩,[(.exit 0,⟨[(1,.fn DV [] [.ay 0 0 0,.ay 1 0 0]),(6,dR),(7,aa),(8,aa),(9,an)],sB⟩)])
def arI:Shape×List (Out×Shape):=(⟨[(1,.fn DR [] [.ay 0 0 0,.ay 1 0 0]),(4,aa),(5,jx),(6,dR),(7,aa),(8,aa)],sB⟩,[(.exit 2,⟨[(1,.fn DR [] [.ay 0 0 0,.ay 1 0 0]),(4,aa),(5,jx),(6,dR),(7,aa),(8,aa),(14,an)],sB⟩)])
def arJ:Shape×List (Out×Shape):=(⟨[(1,.fn DR [] [.ay 0 0 0,.ay 1 0 0]),(6,dR),(7,aa),(8,aa)],sB⟩,[(.exit 0,⟨[(1,.fn DR [] [.ay 0 0 0,.ay 1 0 0]),(6,dR),(7,aa),(8,aa),(9,an)],sB⟩)])
def arK:Shape×List (Out×Shape):=(⟨[(1,.fn DX [] [.ay 0 0 0,.ay 1 0 0,.ay 2 0 0]),(4,aa),(5,jx),(6,dR),(7,aa),(8,aa)],yO⟩,[(.exit 2,⟨[(1,.fn DX [] [.ay 0 0 0,.ay 1 0 0,.ay 2 0 0]),(4,aa),(5,jx),(6,dR),(7,aa),(8,aa),(14,an)],yO⟩)])
def arL:Shape×List (Out×Shape):=(⟨[(1,.fn DX [] [.ay 0 0 0,.ay 1 0 0,.ay 2 0 0]),(6,dR),(7,aa),(8,aa)],yO⟩,[(.exit 0,⟨[(1,.fn DX [] [.ay 0 0 0,.ay 1 0 0,.ay 2 0 0]),(6,dR),(7,aa),(8,aa),(9,an)],yO⟩)])
def arM:Shape×List (Out×Shape):=(⟨[(1,.fn DW [] [.ay 0 0 0,.ay 1 0 0,.ay 2 0 0]),(4,aa),(5,jx),(6,dR),(7,aa),(8,aa)],vf⟩,[(.exit 2,⟨[(1,.fn DW [] [.ay 0 0 0,.ay 1 0 0,.ay 2 0 0]),(4,aa),(5,jx),(6,dR),(7,aa),(8,aa),(14,an)],vf⟩)])
def arN:Shape×List (Out×Shape):=(⟨[(1,.fn DW [] [.ay 0 0 0,.ay 1 0 0,.ay 2 0 0]),(6,dR),(7,aa),(8,aa)],vf⟩,[(.exit 0,⟨[(1,.fn DW [] [.ay 0 0 0,.ay 1 0 0,.ay 2 0 0]),(6,dR),(7,aa),(8,aa),(9,an)],vf⟩)])
def arO:Shape×List (Out×Shape):=(⟨[(1,.fn DS [] [.ay 0 0 0,.ay 1 0 0,.ay 2 0 0,.ay 3 0 0]),(4,aa),(5,jx),(6,dR),(7,aa),(8,aa)],yP⟩,[(.exit 2,⟨[(1,.fn DS [] [.ay 0 0 0,.ay 1 0 0,.ay 2 0 0,.ay 3 0 0]),(4,aa),(5,jx),(6,dR),(7,aa),(8,aa),(14,an)],yP⟩)])
def arP:Shape×List (Out×Shape):=(⟨[(1,.fn DS [] [.ay 0 0 0,.ay 1 0 0,.ay 2 0 0,.ay 3 0 0]),(6,dR),(7,aa),(8,aa)],yP⟩,[(.exit 0,⟨[(1,.fn DS [] [.ay 0 0 0,.ay 1 0 0,.ay 2 0 0,.ay 3 0 0]),(6,dR),(7,aa),(8,aa),(9,an)],yP⟩)])
def arQ:Shape×List (Out×Shape):=(⟨[(1,.fn DT [] [.ay 0 0 0,.ay 1 0 0,.ay 2 0 0]),(4,aa),(5,jx),(6,dR),(7,aa),(8,aa)],Ef⟩,[(.exit 2,⟨[(1,.fn DT [] [.ay 0 0 0,.ay 1 0 0,.ay 2 0 0]),(4,aa),(5,jx),(6,dR),(7,aa),(8,aa),(14,an)],Ef⟩)])
def arR:Shape×List (Out×Shape):=(⟨[(1,.fn DT [] [.ay 0 0 0,.ay 1 0 0,.ay 2 0 0]),(6,dR),(7,aa),(8,aa)],Ef⟩,[(.exit 0,⟨[(1,.fn DT [] [.ay 0 0 0,.ay 1 0 0,.ay 2 0 0]),(6,dR),(7,aa),(8,aa),(9,an)],Ef⟩)])
def arS:Shape×List (Out×Shape):=(⟨[(0,dD),(1,.fn HP [] []),(7,aa),(8,aa)],[]⟩,[(.ret,⟨AS,[]⟩),(.exit 0,⟨[(0,dD),(1,.fn HP [] []),(7,aa),(8,aa),(9,an)],[]⟩)])
def arT:Shape×List (Out×Shape):=(⟨[(2,.fn N8 [] [.ay 0 0 0,.ay 1 0 0]),(3,dg),(13,tO),(14,aa),(15,aa)],[vc,vc,vd]⟩,[(.exit 0,⟨[(2,.fn N8 [] [.ay 0 0 0,.ay 1 0 0]),(3,dg),(13,tO),(14,aa),(15,aa),(16,an)],[vc,vc,vd]⟩)])
def arU:Shape×List (Out×Shape):=(⟨[(2,.fn N9 [] [.ay 0 0 0]),(3,cq),(13,tO),(14,aa),(15,aa)],[np,vd]⟩,[(.exit 0,⟨[(2,.fn N9 [] [.ay 0 0 0]),(3,cq),(13,tO),(14,aa),(15,aa),(16,an)],[np,vd]⟩)])
def arV:List (Nat×FuncId):=[(3,RQ),
 (4,Mj),
 (5,Mz),
 (6,yh),
 (7,GC),
 (8,qT),
 (9,yi),
 (10,o9),
 (11,Mp),
 (12,Mw),
 (13,My),
 (14,GH),
 (15,Mh),
 (16,L8),
 (17,uD),
 (18,zu),
 (19,NG),
 (20,NH),
 (21,DN),
 (22,TN),
 (23,Mi),
 (24,zW),
 (25,qS),
 (26,L7),
 (27,v9),
 (28,wb),
 (29,NI),
 (30,FH),
 (31,o4),
 (32,Lb),
 (33,FJ),
 (34,TO),
 (35,TP),
 (36,TQ),
 (37,TR),
 (38,DO),
 (39,TS),
 (40,aon),
 (41,aoo),
 (42,aop),
 (43,ac1),
 (44,aoq),
 (45,aor),
 (46,Gm),
 (47,DP),
 (48,NJ),
 (49,Gh),
 (50,HO),
 (51,Cs),
 (52,jL),
 (53,Gb),
 (54,Ga),
 (55,aos),
 (56,aot),
 (57,NK),
 (58,aou),
 (59,yA),
 (60,yB),
 (61,HP),
 (62,aov),
 (63,aow),
 (64,aox),
 (65,aoy),
 (66,yC),
 (67,DQ),
 (68,NL),
 (69,wS),
 (70,wU),
 (71,NM),
 (73,NN),
 (74,NO),
 (75,Cr),
 (76,zD),
 (77,CK),
 (78,CH),
 (79,F0),
 (80,FW),
 (81,aoz),
 (82,aoA),
 (83,aoB),
 (84,aoC),
 (85,aoD),
 (86,aoE),
 (87,TT),
 (88,DR),
 (89,aoF),
 (90,yD),
 (91,DS),
 (92,DT),
 (93,DU),
 (94,DV),
 (95,DW),
 (96,DX),
 (97,aoG),
 (98,HQ),
 (99,NQ),
 (100,NR),
 (101,HR),
 (102,NS),
 (103,gk),
 (104,nJ),
 (105,mq),
 (106,NT),
 (107,NU),
 (108,HS),
 (109,NV),
 (110,HT),
 (111,HU),
 (112,HV),
 (113,NW),
 (114,ac2),
 (115,fO),
 (116,CJ),
 (117,FQ),
 (118,LA),
 (119,xZ),
 (120,FT),
 (121,FY),
 (122,aoH),
 (123,aoI),
 (124,aoJ),
 (125,aoK),
 (126,aoL),
 (127,aoM),
 (128,aoN),
 (129,aoO),
 (130,NY),
 (131,yE),
 (132,DY),
 (133,DZ),
 (134,NZ),
 (135,yF),
 (136,HW),
 (137,HX),
 (138,HY),
 (139,aoP),
 (140,aoQ),
 (141,aoR),
 (142,aoS),
 (143,aoT),
 (144,HZ),
 (146,N3),
 (147,N4),
 (148,N5),
 (149,N6),
 (150,TU),
 (151,N7),
 (152,Az),
 (155,N8),
 (156,nH),
 (157,Lh),
 (158,TV),
 (159,aoU),
 (160,TW),
 (161,aoV),
 (162,aoW),
 (163,aoX),
 (164,aoY),
 (165,AA),
 (166,aoZ),
 (168,ao0),
 (169,ao1),
 (170,ao2),
 (171,ao3),
 (172,ao4),
 (173,ao5),
 (174,sw),
 (175,N9),
 (176,ao6),
 (177,cH),
 (178,ao7),
 (179,D0),
 (181,ao8),
 (182,ao9),
 (183,apa),
 (184,apb),
 (185,apc),
 (186,apd),
 (188,ape),
 (189,apf),
 (190,apg),
 (191,aph),
 (192,api),
 (193,apj),
 (194,apk),
 (195,apl),
 (197,apm),
 (198,apn),
 (199,apo),
 (200,apq),
 (201,apr),
 (202,aps),
 (203,apt),
 (204,apu),
 (226,HQ),
 (227,Gm),
 (228,TT),
 (229,NY),
 (230,TW),
 (231,NY),
 (232,TW),
 (233,yC),
 (234,ac1),
 (235,yC),
 (236,yC),
 (237,yC),
 (238,yC),
 (239,yC),
 (240,yC),
 (241,TT),
 (242,NY),
 (243,ac3),
 (244,ac3)]
def arW:List (Nat×Shape):=[(3,⟨Io,[]⟩),
 (4,⟨Io,[]⟩),
 (5,⟨kL,vh⟩),
 (6,⟨Eg,vh⟩),
 (7,⟨[(0,wX),(1,wX),(2,aa)],[]⟩),
 (8,⟨AT,[]⟩),
 (9,⟨[],[]⟩),
 (10,⟨Ip,vh⟩),
 (11,⟨Eg,vh⟩),
 (12,⟨Eg,vh⟩),
 (13,⟨Ip,vh⟩),
 (14,⟨Eg,vh⟩),
 (15,⟨[(0,wX),(1,wX)],[]⟩),
 (16,⟨[(0,wX),(1,wX),(2,aa)],[]⟩),
 (17,⟨AT,[]⟩),
 (18,⟨[(0,wX),(1,aa)],[]⟩),
 (19,⟨AU,[]⟩),
 (20,⟨UB,[]⟩),
 (21,⟨dA,[]⟩),
 (22,⟨[(0,rA),(1,jb)],[]⟩),
 (23,⟨Iq,[]⟩),
 (24,⟨Iq,[]⟩),
 (25,⟨AT,[]⟩),
 (26,⟨[(0,aa),(1,D8),(2,.fn v9 [] [.ay 0 0 0,.ay 1 0 0]),(3,.fn wb [] [.ay 0 0 0,.ay 1 0 0,.ay 2 0 0])],Uz⟩),
 (27,⟨[(0,D8),(1,aa),(2,aT),(3,cq)],[fg,fg]⟩),
 (28,⟨[(0,D8),(1,aT),(2,cq),(3,dg)],Uz⟩),
 (29,⟨AT,[]⟩),
 (30,⟨dA,[]⟩),
 (31,⟨AT,[]⟩),
 (32,⟨[],[]⟩),
 (33,⟨[(0,AI),(1,aa),(2,aa)],[]⟩),
 (34,⟨AU,[]⟩),
 (35,⟨AU,[]⟩),
 (36,⟨nq,[]⟩),
 (37,⟨kL,Ii⟩),
 (38,⟨kL,Ii⟩),
 (39,⟨kL,Ii⟩),
 (40,⟨nq,[]⟩),
 (41,⟨[(0,jb),(1,aa)],[]⟩),
 (42,⟨[(0,Un)],[]⟩),
 (43,⟨[(0,Oh),(1,aa)],[oR]⟩),
 (44,⟨OA,[]⟩),
 (45,⟨[(0,dR),(1,aa)],[]⟩),
 (46,⟨[(0,aT),(1,D8)],[.var 94 [.one (.whole kb 1),.one (.fc lQ)],w5]⟩),
 (47,⟨AT,[]⟩),
 (48,⟨AT,[]⟩),
 (49,⟨[(0,aT),(1,wX)],[.var 99 [.one (.nilS ag),adj,aa]]⟩),
 (50,⟨kL,[.var 99 [qw,.one (.whole kD 2),aa],mJ,wZ]⟩),
 (51,⟨[],[]⟩),
 (52,⟨[(0,.agg [.str,.bool,.int .i64,.int .i64,.str,.str])],[]⟩),
 (53,⟨[(0,AI),(1,aa)],[]⟩),
 (54,⟨[(0,da),(1,c7),(2,Ia),(3,aa)],[]⟩),
 (55,⟨nq,[]⟩),
 (56,⟨AU,[]⟩),
 (57,⟨[(0,aT),(1,rA)],Ii⟩),
 (58,⟨nq,[]⟩),
 (59,⟨AU,[]⟩),
 (60,⟨nq,[]⟩),
 (61,⟨nq,[]⟩),
 (62,⟨[(0,Un),(1,dD),(2,dR)],[]⟩),
 (63,⟨OA,[]⟩),
 (64,⟨OA,[]⟩),
 (65,⟨OA,[]⟩),
 (66,⟨[(0,dR),(1,.fn DQ [] [.ay 0 0 0,.ay 1 0 0,.ay 2 0 0])],ve⟩),
 (67,⟨OB,ve⟩),
 (68,⟨[(0,aa),(1,aa),(2,.fn wS [] [.ay 0 0 0]),(3,.fn wU [] [.ay 0 0 0])],w6⟩),
 (69,⟨[(0,aa),(1,aa),(2,aT)],w6⟩),
 (70,⟨UC,w6⟩),
 (71,⟨[(0,da),(1,an)],[]⟩),
 (73,⟨UD,[]⟩),
 (74,⟨[(0,.agg [.int .i64,.list ak,.int .i64]),(1,c7)],[]⟩),
 (75,⟨[(0,jb)],[]⟩),
 (76,⟨[(0,AI)],[]⟩),
 (77,⟨[(0,da),(1,c7),(2,Ia)],[]⟩),
 (78,⟨kL,Ij⟩),
 (79,⟨Ip,Ij⟩),
 (80,⟨kL,Ij⟩),
 (81,⟨[(0,rA),(1,aa),(2,aT)],iw⟩),
 (82,⟨UB,[]⟩),
 (83,⟨OC,[]⟩),
 (84,⟨OD,[]⟩),
 (85,⟨[(0,aT),(1,rA)],Ik⟩),
 (86,⟨kL,Ik⟩),
 (87,⟨[(0,dD),(1,.fn yE [] [])],[]⟩),
 (88,⟨UE,Oy⟩),
 (89,⟨[(0,Oh),(1,dR),(2,aa)],[oR]⟩),
 (90,⟨nq,[]⟩),
 (91,⟨[(0,aa),(1,aT),(2,cq),(3,dg),(4,kK)],yP⟩),
 (92,⟨OB,[Ea,.var 87 [.one (.whole wV 3)],AJ,oR,iG]⟩),
 (93,⟨UC,iw⟩),
 (94,⟨UE,Oy⟩),
 (95,⟨OB,vf⟩),
 (96,⟨OB,yO⟩),
 (97,⟨Ir,[]⟩),
 (98,⟨Ip,[.var 178 [qx,.one (.fc kg)],aZ]⟩),
 (99,⟨[(0,da),(1,an)],[]⟩),
 (100,⟨kL,qz⟩),
 (101,⟨kL,qz⟩),
 (102,⟨UD,[]⟩),
 (103,⟨kL,oS⟩),
 (104,⟨[(0,aT),(1,D6)],oS⟩),
 (105,⟨[(0,Ia)],[]⟩),
 (106,⟨[(0,AI)],[]⟩),
 (107,⟨[(0,AI)],[]⟩),
 (108,⟨[(0,c7),(1,c7)],[]⟩),
 (109,⟨[(0,H4),(1,H4)],[]⟩),
 (110,⟨[(0,tN),(1,tN)],[]⟩),
 (111,⟨AV,[]⟩),
 (112,⟨[(0,da),(1,c7)],[]⟩),
 (113,⟨AV,[]⟩),
 (114,⟨[(0,tO)],[]⟩),
 (115,⟨[(0,rB)],[]⟩),
 (116,⟨[(0,da),(1,c7),(2,Ia)],[]⟩),
 (117,⟨[(0,da),(1,aa),(2,Of)],[]⟩),
 (118,⟨[(0,da),(1,.fn xZ [] [])],[]⟩),
 (119,⟨Io,[]⟩),
 (120,⟨[(0,aT),(1,sx),(2,qx)],[qy,aZ]⟩),
 (121,⟨kL,Ij⟩),
 (122,⟨[(0,dD)],[]⟩),
 (123,⟨[(0,dD)],[]⟩),
 (124,⟨[(0,dD)],[]⟩),
 (125,⟨[],[]⟩),
 (126,⟨OD,[]⟩),
 (127,⟨OD,[]⟩),
 (128,⟨[(0,aT),(1,D6)],Ik⟩),
 (129,⟨[(0,aT),(1,dD),(2,jb),(3,aa)],Ik⟩),
 (130,⟨[(0,dD),(1,.fn yE [] [])],[]⟩),
 (131,⟨nq,[]⟩),
 (132,⟨Io,[]⟩),
 (133,⟨[(0,aT),(1,c7),(2,aa),(3,aa),(4,jb),(5,aa)],qz⟩),
 (134,⟨dA,[]⟩),
 (135,⟨Io,[]⟩),
 (136,⟨[(0,c7),(1,c7)],[]⟩),
 (137,⟨Eg,qz⟩),
 (138,⟨Eg,qz⟩),
 (139,⟨kL,oS⟩),
 (140,⟨[(0,D6)],[]⟩),
 (141,⟨kL,oS⟩),
 (142,⟨kL,oS⟩),
 (143,⟨[(0,rB)],[]⟩),
 (144,⟨UD,[]⟩),
 (146,⟨AV,[]⟩),
 (147,⟨[(0,da),(1,c7)],[]⟩),
 (148,⟨AV,[]⟩),
 (149,⟨AV,[]⟩),
 (150,⟨[(0,c7),(1,.fn Az [] [.ay 0 0 0])],vg⟩),
 (151,⟨AV,[]⟩),
 (152,⟨UC,vg⟩),
 (155,⟨[(0,rB),(1,rB),(2,aT),(3,cq)],Ih⟩),
 (156,⟨[(0,tO)],[]⟩),
 (157,⟨[(0,da),(1,aa),(2,aa)],[]⟩),
 (158,⟨[(0,da),(1,.fn xZ [] [])],[]⟩),
 (159,⟨[],[]⟩),
 (160,⟨[(0,cp),(1,.fn yD [] [])],bt⟩),
 (161,⟨UB,[]⟩),
 (162,⟨[(0,aa),(1,dD),(2,rA)],[]⟩),
 (163,⟨AW,bt⟩),
 (164,⟨[],[]⟩),
 (165,⟨nq,[]⟩),
 (166,⟨OD,[]⟩),
 (168,⟨[(0,aT),(1,jb)],Ik⟩),
 (169,⟨dA,[]⟩),
 (170,⟨[(0,jb),(1,D6)],[]⟩),
 (171,⟨kL,oS⟩),
 (172,⟨kL,oS⟩),
 (173,⟨[(0,rB),(1,aa)],[]⟩),
 (174,⟨UE,[.var 26 [adm],.var 22 [lZ],bV,Us]⟩),
 (175,⟨[(0,rB),(1,rB),(2,aT)],iw⟩),
 (176,⟨[(0,cp),(1,.fn cH [] [])],bt⟩),
 (177,⟨[(0,rA),(1,rA)],[]⟩),
 (178,⟨[(0,cp),(1,.fn D0 [] [])],bt⟩),
 (179,⟨[(0,rA),(1,rA)],[]⟩),
 (181,⟨[(0,jb),(1,D6)],[]⟩),
 (182,⟨[(0,rB)],[]⟩),
 (183,⟨[(0,cp),(1,aa),(2,aa),(3,aa),(4,.fn cH [] [])],bt⟩),
 (184,⟨Ir,[]⟩),
 (185,⟨Iq,[]⟩),
 (186,⟨[(0,dD),(1,dD),(2,.fn cH [] [])],[]⟩),
 (188,⟨[(0,cp),(1,aa),(2,aa),(3,.fn cH [] [])],bt⟩),
 (189,⟨[(0,cp),(1,aa),(2,aa),(3,.fn cH [] [])],bt⟩),
 (190,⟨[(0,cp),(1,aa),(2,aa),(3,.fn cH [] [])],bt⟩),
 (191,⟨[(0,dD),(1,aa),(2,aa),(3,.fn cH [] [])],[]⟩),
 (192,⟨[(0,cp),(1,aa),(2,aa),(3,.fn cH [] [])],bt⟩),
 (193,⟨[(0,cp),(1,aa),(2,aa),(3,.fn cH [] [])],bt⟩),
 (194,⟨[(0,cp),(1,aa),(2,aa),(3,aa),(4,.fn cH [] [])],bt⟩),
 (195,⟨[(0,cp),(1,aa),(2,aa),(3,aa),(4,.fn cH [] [])],bt⟩),
 (197,⟨Ir,[]⟩),
 (198,⟨dA,[]⟩),
 (199,⟨[(0,cp),(1,aa),(2,aa),(3,aa),(4,.fn cH [] [])],bt⟩),
 (200,⟨dA,[]⟩),
 (201,⟨kL,[Uq]⟩),
 (202,⟨[(0,dD),(1,aa),(2,aT),(3,.fn cH [] [])],iw⟩),
 (203,⟨[(0,dD),(1,aa),(2,aa),(3,aa),(4,aT),(5,.fn cH [] [])],iw⟩),
 (204,⟨[(0,dD),(1,aa),(2,aa),(3,aT),(4,.fn cH [] [])],iw⟩),
 (226,⟨Ip,[.var 178 [qx,.one (.cK kg 2)],aZ,.map kg]⟩),
 (227,⟨[(0,aT),(1,D8)],[.var 94 [.one (.whole kb 1),.one (.cK lQ 2)],w5,.map lQ]⟩),
 (228,⟨[(0,dD),(1,.fn yD [] [])],[]⟩),
 (229,⟨[(0,dD),(1,.fn yD [] [])],[]⟩),
 (230,⟨[(0,cp),(1,.fn AA [] [])],bt⟩),
 (231,⟨[(0,dD),(1,.fn AA [] [])],[]⟩),
 (232,⟨[(0,cp),(1,.fn yE [] [])],bt⟩),
 (233,⟨[(0,dR),(1,.fn DU [] [.ay 0 0 0])],iw⟩),
 (234,⟨[(0,.one (.row wV 0 [0])),(1,aa)],[iG]⟩),
 (235,⟨[(0,dR),(1,.fn DV [] [.ay 0 0 0,.ay 1 0 0])],Oy⟩),
 (236,⟨[(0,dR),(1,.fn DR [] [.ay 0 0 0,.ay 1 0 0])],Oy⟩),
 (237,⟨[(0,dR),(1,.fn DX [] [.ay 0 0 0,.ay 1 0 0,.ay 2 0 0])],yO⟩),
 (238,⟨[(0,dR),(1,.fn DW [] [.ay 0 0 0,.ay 1 0 0,.ay 2 0 0])],vf⟩),
 (239,⟨[(0,dR),(1,.fn DS [] [.ay 0 0 0,.ay 1 0 0,.ay 2 0 0,.ay 3 0 0])],yP⟩),
 (240,⟨[(0,dR),(1,.fn DT [] [.ay 0 0 0,.ay 1 0 0,.ay 2 0 0])],[Ea,.var 87 [.one (.whole wV 3)],AJ,oR,iG]⟩),
 (241,⟨[(0,dD),(1,.fn HP [] [])],[]⟩),
 (242,⟨[(0,dD),(1,.fn HP [] [])],[]⟩),
 (243,⟨[(0,rB),(1,rB),(2,.fn N8 [] [.ay 0 0 0,.ay 1 0 0])],Ih⟩),
 (244,⟨[(0,rB),(1,rB),(2,.fn N9 [] [.ay 0 0 0])],iw⟩)]
def arX:List (Nat×Shape):=[(3,⟨dW,[]⟩),
 (4,⟨kL,vh⟩),
 (5,⟨dA,vh⟩),
 (6,⟨Is,Il⟩),
 (7,⟨UF,Oz⟩),
 (8,⟨[(0,c7),(1,an)],[]⟩),
 (9,⟨dW,[]⟩),
 (10,⟨dA,vh⟩),
 (11,⟨Is,Il⟩),
 (12,⟨Is,Il⟩),
 (13,⟨Is,Il⟩),
 (14,⟨Is,Il⟩),
 (15,⟨[(0,D7),(1,.agg [.int .i64,.int .i64,.whole ak 2,.whole ag 3]),(2,aa)],[bV,bh,bV,bh]⟩),
 (16,⟨UF,Oz⟩),
 (17,⟨[(0,D7)],Oz⟩),
 (18,⟨[(0,oQ),(1,aa)],oc⟩),
 (19,⟨UF,Oz⟩),
 (20,⟨nq,[]⟩),
 (21,⟨OE,bt⟩),
 (22,⟨dW,[]⟩),
 (23,⟨dA,[]⟩),
 (24,⟨[(0,Ug)],[jy]⟩),
 (25,⟨dA,[]⟩),
 (26,⟨[(0,.agg [.int .i64,.int .i64,.whole ak 3,.whole ag 4]),(1,.one (.whole kb 5)),(2,aa)],[fg,fg,np,bV,bh,w5]⟩),
 (27,⟨[(0,D8)],[fg,fg]⟩),
 (28,⟨dW,Uz⟩),
 (29,⟨[(0,D7),(1,AG)],[bV,bh,aZ]⟩),
 (30,⟨dW,[]⟩),
 (31,⟨[(0,AI),(1,aa)],[]⟩),
 (32,⟨[(0,adq)],[Ut]⟩),
 (33,⟨[(0,an),(1,aa),(2,oQ),(3,aa),(4,aa)],oc⟩),
 (34,⟨dA,[]⟩),
 (35,⟨kL,Ii⟩),
 (36,⟨nq,[]⟩),
 (37,⟨dW,Oo⟩),
 (38,⟨dA,Oo⟩),
 (39,⟨[(0,.agg [.int .i64,.int .i64,.whole ak 4,.whole ag 5])],[.var 124 [aa,AH,D2,aa,AF],.dead,.dead,.map cJ,bV,bh,dL]⟩),
 (40,⟨dW,[]⟩),
 (41,⟨dW,[]⟩),
 (42,⟨[(0,Oh)],[oR]⟩),
 (43,⟨[],[oR]⟩),
 (44,⟨It,[iG]⟩),
 (45,⟨dW,[]⟩),
 (46,⟨dA,[.var 94 [.one (.whole kb 2),.one (.cK lQ 3)],.dead,w5,.map lQ]⟩),
 (47,⟨[(0,D7),(1,AG)],[bV,bh,aZ]⟩),
 (48,⟨Iu,oc⟩),
 (49,⟨dA,[.var 99 [qw,.one (.whole kD 2),aa],mJ,wZ]⟩),
 (50,⟨[(0,AI),(1,.one (.list oP)),(2,aa)],[.var 99 [qw,.one (.whole kD 3),aa],AL,.dead,wZ]⟩),
 (51,⟨[(0,adu)],[Ig]⟩),
 (52,⟨[(0,.agg [.str,.bool,.whole iU 0,.int .i64,.int .i64])],[AN]⟩),
 (53,⟨[(0,oQ),(1,aa)],oc⟩),
 (54,⟨[(0,oQ),(1,aa),(2,aa)],oc⟩),
 (55,⟨dW,[]⟩),
 (56,⟨dW,[]⟩),
 (57,⟨dA,Oo⟩),
 (58,⟨nq,[]⟩),
 (59,⟨AU,[]⟩),
 (60,⟨[(0,jb)],[]⟩),
 (61,⟨dW,[]⟩),
 (62,⟨It,[iG]⟩),
 (63,⟨It,[iG]⟩),
 (64,⟨It,[iG]⟩),
 (65,⟨It,[iG]⟩),
 (66,⟨[],ve⟩),
 (67,⟨[],ve⟩),
 (68,⟨[(0,adv),(1,lZ),(2,aa)],[fg,bV,bh,aZ]⟩),
 (69,⟨dA,w6⟩),
 (70,⟨dW,w6⟩),
 (71,⟨[(0,.agg [.int .i64,.bool,.whole ag 0,.whole ag 1,.whole ab 2,.whole ab 3,.whole ag 4,.whole eB 5,.int .i64]),(1,aa)],[bh,bh,aZ,aZ,bh,pj]⟩),
 (73,⟨dW,[]⟩),
 (74,⟨dW,[]⟩),
 (75,⟨[(0,Ia),(1,aa),(2,aa)],[]⟩),
 (76,⟨dA,[]⟩),
 (77,⟨[(0,aT),(1,.one (.BU .i64 0))],Ij⟩),
 (78,⟨dW,AP⟩),
 (79,⟨[(0,aa),(1,an),(2,an)],AP⟩),
 (80,⟨[(0,lZ)],AO⟩),
 (81,⟨dW,iw⟩),
 (82,⟨nq,[]⟩),
 (83,⟨AU,[]⟩),
 (84,⟨OC,[]⟩),
 (85,⟨[],tR⟩),
 (86,⟨[(0,jb)],[.var 170 [AD,AD],.dead]⟩),
 (87,⟨dW,[]⟩),
 (88,⟨[],sB⟩),
 (89,⟨[],[oR]⟩),
 (90,⟨dW,[]⟩),
 (91,⟨[],yP⟩),
 (92,⟨[],Ef⟩),
 (93,⟨[],iw⟩),
 (94,⟨[],sB⟩),
 (95,⟨[],vf⟩),
 (96,⟨[],yO⟩),
 (97,⟨dA,[]⟩),
 (98,⟨dA,[.var 178 [AG,.one (.cK kg 3)],.dead,aZ,.map kg]⟩),
 (99,⟨[(0,aT),(1,.one (.BU .i64 0))],qz⟩),
 (100,⟨dW,Ux⟩),
 (101,⟨dA,Ux⟩),
 (102,⟨dA,[]⟩),
 (103,⟨UG,oS⟩),
 (104,⟨dW,oS⟩),
 (105,⟨dA,[]⟩),
 (106,⟨dW,[]⟩),
 (107,⟨[(0,D7)],[bV,mJ]⟩),
 (108,⟨dW,[]⟩),
 (109,⟨dW,[]⟩),
 (110,⟨dW,[]⟩),
 (111,⟨dA,[]⟩),
 (112,⟨dW,[]⟩),
 (113,⟨dA,[]⟩),
 (114,⟨dW,[]⟩),
 (115,⟨[(0,.one (.whole bG 0))],[Uu]⟩),
 (116,⟨AV,[]⟩),
 (117,⟨kL,[qy]⟩),
 (118,⟨dW,[]⟩),
 (119,⟨dW,[]⟩),
 (120,⟨dA,[qy,aZ]⟩),
 (121,⟨dW,AP⟩),
 (122,⟨nq,[]⟩),
 (123,⟨nq,[]⟩),
 (124,⟨nq,[]⟩),
 (125,⟨OE,bt⟩),
 (126,⟨OC,[]⟩),
 (127,⟨OC,[]⟩),
 (128,⟨[(0,AD)],tR⟩),
 (129,⟨[],tR⟩),
 (130,⟨dA,[]⟩),
 (131,⟨dW,[]⟩),
 (132,⟨dW,[]⟩),
 (133,⟨dA,UA⟩),
 (134,⟨Iu,oc⟩),
 (135,⟨[(0,jb)],[]⟩),
 (136,⟨Iu,oc⟩),
 (137,⟨dA,UA⟩),
 (138,⟨dW,UA⟩),
 (139,⟨[],oS⟩),
 (140,⟨dW,[]⟩),
 (141,⟨[(0,D6)],oS⟩),
 (142,⟨UG,oS⟩),
 (143,⟨dA,[]⟩),
 (144,⟨dW,[]⟩),
 (146,⟨dA,[]⟩),
 (147,⟨dW,[]⟩),
 (148,⟨Iu,oc⟩),
 (149,⟨dW,[]⟩),
 (150,⟨dA,vg⟩),
 (151,⟨Iu,oc⟩),
 (152,⟨dW,vg⟩),
 (155,⟨[],Ih⟩),
 (156,⟨dA,[]⟩),
 (157,⟨dA,[]⟩),
 (158,⟨dA,[]⟩),
 (159,⟨OE,bt⟩),
 (160,⟨Iv,Ee⟩),
 (161,⟨AW,bt⟩),
 (162,⟨nq,[]⟩),
 (163,⟨Iv,Ee⟩),
 (164,⟨OE,bt⟩),
 (165,⟨dW,[]⟩),
 (166,⟨nq,[]⟩),
 (168,⟨[(0,aa),(1,AD)],tR⟩),
 (169,⟨dA,[]⟩),
 (170,⟨dA,[]⟩),
 (171,⟨UG,oS⟩),
 (172,⟨[(0,aa),(1,an)],oS⟩),
 (173,⟨dA,[]⟩),
 (174,⟨[],[.var 26 [ac4],.var 22 [Uh],.dead,.dead,bV,Us]⟩),
 (175,⟨[],iw⟩),
 (176,⟨[],bt⟩),
 (177,⟨dA,[]⟩),
 (178,⟨Iv,Ee⟩),
 (179,⟨dW,[]⟩),
 (181,⟨dA,[]⟩),
 (182,⟨dW,[]⟩),
 (183,⟨[],bt⟩),
 (184,⟨dA,[]⟩),
 (185,⟨dA,[]⟩),
 (186,⟨dA,[]⟩),
 (188,⟨[],bt⟩),
 (189,⟨[],bt⟩),
 (190,⟨[],bt⟩),
 (191,⟨Iq,[]⟩),
 (192,⟨[],bt⟩),
 (193,⟨dW,bt⟩),
 (194,⟨dA,bt⟩),
 (195,⟨[(0,aa),(1,an)],bt⟩),
 (197,⟨dA,[]⟩),
 (198,⟨dW,[]⟩),
 (199,⟨[],bt⟩),
 (200,⟨Ir,[]⟩),
 (201,⟨Ir,[Uq]⟩),
 (202,⟨dA,iw⟩),
 (203,⟨dA,iw⟩),
 (204,⟨Iq,iw⟩),
 (226,⟨dA,[.var 178 [lZ,.one (.cK kg 2)],.dead,.map kg,aZ]⟩),
 (227,⟨dA,[.var 94 [.one (.whole kb 3),.one (.cK lQ 2)],.dead,.map lQ,w5]⟩),
 (228,⟨dW,[]⟩),
 (229,⟨dA,[]⟩),
 (230,⟨Iv,Ee⟩),
 (231,⟨dA,[]⟩),
 (232,⟨Iv,Ee⟩),
 (233,⟨[],iw⟩),
 (234,⟨[],[iG]⟩),
 (235,⟨[],sB⟩),
 (236,⟨[],sB⟩),
 (237,⟨[],yO⟩),
 (238,⟨[],vf⟩),
 (239,⟨[],yP⟩),
 (240,⟨[],Ef⟩),
 (241,⟨dW,[]⟩),
 (242,⟨dA,[]⟩),
 (243,⟨[],Ih⟩),
 (244,⟨[],iw⟩)]
def arY:List (Nat×Shape):=[(77,⟨[(0,.one (.eJ)),(1,aa)],[]⟩),
 (99,⟨[(0,.one (.eJ)),(1,aa)],[]⟩),
 (160,⟨AW,bt⟩),
 (163,⟨AW,bt⟩),
 (178,⟨AW,bt⟩),
 (230,⟨AW,bt⟩),
 (232,⟨AW,bt⟩)]
def arZ (n:Nat):List Nat:=(List.range (n.log2+1)).filter n.testBit
def afp:Nat→List Nat→List (Nat×List Nat)
 | _,[]=>[]
 | i,n::l=>(i,arZ n)::afp (i+1) l
def VY (l:List (Nat×List Nat)):List (Nat×List (Nat×List Nat)):=l.map fun e=>(e.1,afp 0 e.2)
def ar0:List (Nat×List (Nat×List Nat)):=VY [(3,[1,8,24,96,480,2016,140737488356064,4,6848,31360,129536,522240,2417851639229258349586432,4,58028439341502200386070528,135399691796838467567265792,58028439341502200386594816,10384593775098094598563193044510720,4,58028439341502200386070528,4]),
 (4,[1,33,1,4]),
 (5,[1,4]),
 (6,[71,327,839,64,33095,64,4194375,64,64]),
 (7,[92,1860,1050436,192,3136,2147486784,192,192]),
 (8,[2,48,131088,12,12]),
 (9,[0,6,1]),
 (10,[3,16387,16,3,16]),
 (11,[71,192,393408,917696,393664,235274688,503710144,235276224,235274688,235274688,393408,192,64]),
 (12,[71,199,451,451,963,134218691,963,963,1475,140737488356803,1475,3523,7619,4503599627378115,7619,7619,11715,2305843009213705667,11715,28099,28099,11715,64]),
 (13,[19,51,115,29360243,62914675,29360499,29360499,29361011,29362035,274907268979,29362035,29364083,29368179,562949982789491,7881299377266547,16888498632007539,7881299377291123,584342051680698227,7881299377266547,7881299377266547,29368179,29362035,29360243,29360243,16]),
 (14,[71,199,451,451,963,16778179,963,963,1987,4035,137438957507,4035,4035,963,64]),
 (15,[60,188,4284,112,316,524604,112,134217788,112,112]),
 (16,[120,376,65912,192,632,4194936,192,137438953592,192,5184,192]),
 (17,[6,134,4,12,4]),
 (18,[6,70,524358,48,8388614,48,386,1073742210,48,642,25769804418,60129542786,25769805442,25769839234,25769804418,1125925676681858,25769804418,288230401921516162,25769804418,25769804418,48]),
 (19,[22,86,8278,48,144,4194448,400,67109264,48,48]),
 (20,[19,16]),
 (21,[5,4]),
 (22,[6,16390,16,38,102,102,16]),
 (23,[3,67,16,3,2051,1,16]),
 (24,[3,35,99,4195,99,227,67109091,227,227,16]),
 (25,[2,32770,4,10,1048586,4,68719476746,4,1924145348618,4123168604170,1924145348650,283399122059306,4,3942573819297802,8446173446668298,3942573819297930,2309785583032991754,4,3942573819297802,1924145348618,4]),
 (26,[301,2349,2317,6413,14605,33569037,14605,30989,63757,206158493965,481036400909,206158559501,206158493965,206158493965,4503599627434253,1792,30989,14605,1792]),
 (27,[94,64]),
 (28,[30,94,4188,92,1048648,72,32]),
 (29,[6,54,118,246,1879048438,4026532086,1879049206,551634862582,1879049718,985164297537014,2111064204379638,985164297543158,985164297537014,985164297537014,1879049462,1879048438,1879048438,24676,57444,1083197534374707740536791108,2321137573660088015435915332,1083197534374707740536987716,1083197534374707740536987716,317995847591432058114712789060,1083197534374707740536791108,1083197534374707740536791108,12]),
 (30,[1,4]),
 (32,[0,2,114,242,122,114,114,1]),
 (33,[14,6158,67115022,1984,8589936654,1984,10254,3848290707468,8246337218572,3848290756620,285323267467276,1984,3848291182604,3848291051532,18446747922000603148,1984,92233724216838809612,1984,2361183245283113576460,3848290707468,1984]),
 (34,[6,1030,16,8198,16,131072,16,16]),
 (35,[6,38,36,32,16]),
 (36,[6,38,4,4]),
 (37,[1,4]),
 (38,[1,9,196617,458761,196633,196729,274878103673,4,197049,2251799813882041,288230376151908409,4,196761,196617,196617,1,0,4]),
 (39,[5,13,14680076,31457292,14680108,14680076,14680076,4]),
 (40,[2,4]),
 (41,[3,65539,16,786435,1835011,786467,17180655619,16,786435,16]),
 (42,[2,4]),
 (43,[0]),
 (44,[28,540,1564,64,131612,64,67109404,67109404,64,8589934620,64,156,128,64]),
 (45,[3,16]),
 (46,[9,105,131113,4194313,9,41,41,32,16]),
 (47,[6,8198,12,54,180,6442451124,15032385716,6442451380,6442451124,6442451124,3848290697364,8246337208468,3848290698900,3848290697364,3848290697364,12]),
 (48,[2,262146,4,26,117440538,251658266,117440634,68836917306,117440538,117440538,154,410,492581209244058,1055531162665370,492581209245594,492581209247642,2018105214271228826,4323948223484922778,2018105214271241114,2018105214271228826,2018105214271228826,492581209295770,1208925820107210383969178,492581209263002,492581209260954,492581209244058,492581209244058,19807040628566084398385987970,4,26]),
 (50,[5,101,134217829,28,165,17179869349,28,421,933,36028797018964901,933,933,933,541598767187353870268367269,1160568786830044007717929381,541598767187353870268370341,541598767187353870268368293,541598767187353870268368293,541598767187353870268368293,541598767187353870268372389,664613998434056703639257400408544677,541598767187353870268372389,541598767187353870268372389,541598767187353870268367269,8613,40922045845265281709703175316055924550366111211940,87690098239854175092221089962976981179355952587172,40922045845265281709703175316055924550366111261092,40922045845265281709703175316055924550366111261092,335274321610258453047598115364446189841149549088924068,718398206826730667637184872152023485745834329634824612,335274321610258453047598115364446189841149549089120676,335274321610258453047598115364446189841149549088924068,335274321610258453047598115364446189841149549088924068,40922045845265281709703175316055924550366111211940,28]),
 (51,[0,1]),
 (52,[6,14,12582924,29360140,12582956,12583244,8602517580,12582924,12582924,4]),
 (53,[6,70,16454,48,134,16777350,48,390,469762434,1006633346,469763970,1099981390722,469762434,469762434,48]),
 (54,[75,6152,16783368,1792,2147485704,1792,8589936648,1792,59392,2199023298560,1792,70368744185856,1792,1792]),
 (55,[2,10,4]),
 (56,[6,518,16,134217734,16,536870918,16,1610612742,1610612742,16,137975824390,137975824390,137975824390,17592186044422,16,35184908959750,35184372088838,2251799813685254,16,63050394783186946,135107988821114882,63050394783187010,4674736413210574850,16,63050394783186946,16]),
 (57,[9,41,41,32,16]),
 (58,[6,518,4,14,7340046,15728654,7340094,7340046,7340046,4]),
 (59,[22,48]),
 (60,[2,66,4,10,8,4]),
 (61,[2,66,194,194,4,1090,4,32834,32834,3670016,7864320,3670032,137887744,4,3670016,4,536870914,4,4]),
 (62,[14,142,7340172,15728780,7340684,7341708,7341708,7342732,7346316,7340172,7340172,64]),
 (63,[28,412,408,920,268436376,920,920,1288,3336,7432,281474976718088,7432,15624,15624,15624,7432,64]),
 (64,[28,156,7340188,15728796,7340700,7341212,7340188,7340188,64]),
 (65,[28,140,396,128,64]),
 (66,[450,962,498,16882,498,498,450]),
 (67,[15,1039,0,1048581,0]),
 (68,[271,2319,2317,6413,14605,33569037,14605,30989,63757,206158493965,481036400909,206158559501,206158493965,206158493965,4503599627434253,1792,30989,14605,1792]),
 (69,[7,32]),
 (70,[3,8]),
 (71,[19,208,65744,48,2097232,336,33554768,48,48]),
 (73,[3,16]),
 (74,[6,16]),
 (75,[5,8197,28,37,229,67108965,28,485,4398046511460,28,516,1540,4503599627372036,28,28]),
 (76,[2,514,4,26,67108874,4,1879048202,4026531850,1879048298,4399925559306,4,1879048202,9444732965739290427392,4,4]),
 (77,[35,291,16675,192,524323,192,4194339,192,547,17179869731,192,1537,1024,1024,192]),
 (78,[1,4]),
 (79,[19,147,16531,147,7340179,15728787,7340947,7340179,7340179,2305843009213694099,112,36893488147419103379,112,112]),
 (80,[1,9,229385,491529,229433,229385,229385,4]),
 (81,[14,65550,64,14,58720262,125829126,58720518,17238589446,64,58720262,64]),
 (82,[19,83,211,16,2131,16,32787,16,2097171,16,49,67108912,201326640,137438953520,16,16,35184372088880,140737488355376,16,144115188075855920,16,16,16]),
 (83,[6,134,12,12]),
 (84,[28,124,4220,12412,16,266364,16777336,56,16,2147487804,2147487804,2147487804,16,274877911100,144,400,16,144115188075855932,16,16]),
 (85,[9,41,105,0,1065,0,16425,0,4194345,0,268435497,0,17179869225,0,1099511627817,9,0,281474976710665,1,0]),
 (86,[1,4]),
 (87,[3,16]),
 (88,[0]),
 (89,[67,4163,67,67]),
 (90,[2,4]),
 (91,[93,69,0]),
 (92,[4109,0]),
 (93,[0]),
 (94,[135,0]),
 (95,[3087,7183,3119,68655,3087,3087,3087]),
 (96,[47,111,8303,111,111,47,41,0]),
 (97,[1,17,4,4]),
 (98,[3,99,131107,4194307,3,35,35,32,16]),
 (99,[3,4194307,48,67,67,3848290697282,8246337208386,3848290697538,144119036366553410,48,3848290697282,3848290697282,578,4722366482869645214272,576,270799383593676935134184000,580284393415022003858965056,270799383593676935134187072,270799383593676935134191168,270799383593676935134215744,81129909213990275372724139343424,270799383593676935134192192,270799383593676935134192192,270799383593676935134184000,270799383593676935134184000,48]),
 (100,[1,4]),
 (101,[1,9,25,939524121,2013265945,939524217,939524281,939525049,939526073,73786976295777732537,4,302231454903658233202105,939524409,158456325028528675188027426105,939524409,939524121,939524121,1,0,4]),
 (102,[3,387,899,419,65955,16,387,16]),
 (103,[5,21,21,65557,21,117,33554485,12,21,8589934612,12,12]),
 (104,[3,257,16,0,16]),
 (105,[2,10,266,4,4]),
 (106,[2,10,16777226,4,2251799813685258,4,63050394783186954,135107988821114890,63050394783186986,295210955574136012810,4,63050394783186954,4]),
 (107,[6,14,3670030,7864334,3670078,3670078,120262754366,257701707838,120262754558,120262754366,120262754366,3670030,4]),
 (108,[3,1027,16,12291,28675,12323,16789507,16,12291,16]),
 (109,[3,1027,16,12291,28675,12323,16789507,16,12291,16]),
 (110,[3,1027,16,12291,28675,12323,16789507,16,12291,16]),
 (111,[1,9,137,4,8192,4,4]),
 (112,[3,35,229411,491555,229603,4398046740643,16,229411,229411,985162418487331,2111062325329955,985162418487843,64035557201674787,136093151239602723,64035557201676835,590359845915907326499,16,64035557201674787,985162418487331,16]),
 (113,[2,34,4,4]),
 (114,[1,9,456,968,488,456,456,4]),
 (115,[2,130,386,4,4098,4,10,3670026,7864330,3670074,3670042,2151153674,3670026,3670026,549755813898,8,4]),
 (116,[35,419,931,931,419,1411,25769805187,60129543555,25769807235,987842481539,2087354109315,987842489731,4611687006269877635,987842481539,987842481539,25769805187,64]),
 (117,[7,133,1835137,3932289,1835649,119275649,253493377,119277697,8796212299905,119281793,844425049413761,1970324956256385,844425049421953,844425049413761,844425049413761,119275649,119275649,1835137,64]),
 (118,[3,16]),
 (119,[1,4]),
 (120,[7,135,391,14725,31109,15749,277893,802181,14725,14725,537148805,14725,14725,1099511905669,14725,14725,4611686018427403653,14725,14725,64]),
 (121,[1,9,2057,9,9,274877906953,4,9,4]),
 (122,[5,37,4,12,4]),
 (123,[5,37,4,12,4]),
 (124,[5,37,4,12,4]),
 (125,[1,1]),
 (126,[28,124,252,14680316,31457532,14681084,14681596,14681340,4398061191420,14680316,14680316,2200,72057594037930136,216172782113786008,2064,4683743612465318040,2064,1180591620717411305616,2064,16]),
 (127,[28,60,124,252,7340276,15728884,7341044,275776500,7340276,7341428,7340276,7340276,2288,126100789566376144,270215977642232016,126100789566388432,9349472826421164240,126100789566376144,126100789566396624,126100789566376144,126100789566376144,16]),
 (128,[3,3,0,16]),
 (129,[7181,15373,7949,269837,7693,67116557,7181,7693,7181,7181,7181]),
 (130,[3,387,899,419,65955,16,387,16]),
 (131,[2,4]),
 (132,[1,4097,4,57345,122881,57361,67166209,4,57345,4]),
 (133,[63,8255,8255,8253,8249,8241,8225,8192,4096]),
 (134,[1,1025,4,8,49160,114696,49176,49160,49160,4]),
 (135,[1,9,3592,7688,3640,3592,3592,4]),
 (136,[3,4194307,16,35,469762082,1006632994,469762274,469762082,469762082,16]),
 (137,[7,263,64,64]),
 (138,[7,135,64]),
 (139,[9]),
 (140,[1,4]),
 (141,[1,4097,4,4]),
 (142,[5,53,16405,12,21,524309,21,213,268435541,12,21,12]),
 (143,[2,32,4,4]),
 (144,[3,898,1922,962,525186,16,898,16]),
 (146,[1,513,4,4097,4,57345,122881,57361,8445969,4,117497857,251715585,117497921,137556451329,4,117497857,57345,4]),
 (147,[3,35,458785,983073,458913,34013345,458913,3758555297,8053522593,3758555809,3758556833,246294363178657,527769339889313,246294363184801,1153167798970025633,16,246294363178657,3758555297,458785,16]),
 (149,[1,4]),
 (150,[3,387,899,419,65955,16,387,16]),
 (151,[1,8,1544,3592,1560,1544,1544,4]),
 (152,[3,195,451,211,536871107,8,195,8]),
 (153,[28,12,57356,122892,57484,57356,57356]),
 (155,[60,316,56,0]),
 (156,[1,9,456,968,488,456,456,4]),
 (157,[7,135,524423,135,391,536871303,897,35184372089729,897,64,54043195528446211,126100789566374147,54043195528446211,54043195528446211,64]),
 (158,[3,387,899,419,65955,16,387,16]),
 (159,[1,1]),
 (160,[3,35,4131,16,99,524387,99,227,536871139,99,99,33,16]),
 (161,[3,35,1825,3873,1953,133025,1825,1825,1825,16]),
 (162,[99,355,867,64,4163,64,64]),
 (163,[1,1,4]),
 (164,[1,1]),
 (165,[2,4]),
 (166,[28,88,16,16]),
 (168,[3,3,2,48]),
 (169,[1,8,24,4,72,4,264,4,1032,4,4096,4,4]),
 (170,[3,16]),
 (171,[5,21,2069,12,21,1048597,3145749,12,16777237,101,12,12]),
 (172,[1,65,12,16385,12,65537,12,34359738369,12,17,17,12]),
 (173,[6,16390,16,38,1835042,3932194,1835170,1835042,8591769634,1835042,16]),
 (175,[12,140,0]),
 (176,[19,0]),
 (177,[12,524,16,524300,16,16]),
 (178,[3,1027,16,35,32803,35,268435491,99,227,34359738595,227,562949953421539,227,227,33,16,16]),
 (179,[12,16]),
 (181,[3,16]),
 (182,[2,18,50,4,65554,4,4294967314,4,8796093022210,4,4]),
 (183,[1055,3103,7199,33561631,0,4294974495,0,549755821087,7199,7199,31775,72057594037959711,15391,15391,31775,37778931862957161724959,1208925819614629174721567,158456325028528675187087916063,35869,3103,200735,71711,858143,1902623,42535295865117307932921825928972929055,68639,68637,3103,68639,68635,3103]),
 (184,[1,4,4]),
 (185,[3,35,99,2115,4096,16,16,8195,16,65539,16,524288,16,16]),
 (186,[7,14343,30727,14727,2111879,64,15111,15367,2147499015,64,14343,274877906944,64,64]),
 (188,[271,16655,271,783,17179869967,783,783]),
 (189,[271,783,1801,3849,2101001,3849,3849,4873,8589939465,4873,4873,4873]),
 (190,[259,131331,771,1795,3843,34359742211,3843,7939,35184372096771,7939,3843]),
 (191,[15,1035,3083,7179,15371,31753,17179900937,68719507465,30729,30729,30729,10240,36028797018972160,768,180143985094828032,768,1152921504606855168,768]),
 (192,[261,769,33537,769,769,769]),
 (193,[15,527,1551,67087,1551,68719478287,1551,2199023257103,256,35184372090383,256,1551,36893488147419104783,3599,590295810358705655311,3599,19342813113834066795302415,3599,20282409603651670423947251287567,5647,649037107316853453566312041158159,5647,21267647932558653966460912964485518863,5647,256]),
 (194,[31,23,6163,140737488361491,6163,36893488147419109395,6163,1180591620717411309587,6163,6163,6163,1024]),
 (195,[31,23,12307,140737488367635,12307,73786976294838218771,12307,2361183241434822619155,8192,3072,12307,12307,12307,1329227995784915872903807060280356883,12307,696898287454081973172991196020261297074195,12307,22300745198530623141535718272648361505992723,12307,12307,12307,8192,3072]),
 (197,[5,21,1,5,261,5,5,16389,5,5,4]),
 (198,[1,4]),
 (199,[1053,3101,265245,1099511630877,3101,288230376151714845,2077,1053]),
 (200,[1,4]),
 (201,[1,1,1,1,4]),
 (202,[15,256]),
 (203,[63,63,55,4,4096]),
 (204,[31,4194318,6,3072,3072])]++[(31,[(0,[1,2]),(1,[1,2,4]),(2,[1,2,4,13]),(3,[2,3]),(4,[1,2,5,2000011]),(5,[2,5,6,2000011]),(6,[2,5,6,20,2000011]),(7,[2,3]),(8,[2,7,8,9]),(9,[2,7,8,9,29]),(10,[2,3]),(11,[2,7]),(12,[2,3])]),(49,[(0,[0,3,2000006]),(1,[0,3,5,2000006]),(2,[0,3,5,17,2000006]),(3,[4]),(4,[0,3,5,22,2000006]),(5,[0,3,5,2000006]),(6,[0,3,5,33,34,2000006]),(7,[0,3,5,33,34,35,2000006]),(8,[0,3,5,6,33,34,2000006]),(9,[0,3,5,6,33,34,37,38,2000006]),(10,[0,3,5,6,33,34,37,38,39,2000006]),(11,[0,3,5,6,7,33,34,37,38,2000006]),(12,[0,3,5,6,33,34,37,38,2000006]),(13,[0,3,5,6,33,34,37,38,2000006]),(14,[0,3,5,33,34,2000006]),(15,[0,5,2000006]),(16,[]),(17,[4])]),(148,[(0,[0]),(1,[0,3,4,1000007]),(2,[0,3,4,5,1000007]),(3,[0,3,4,5,6,1000007]),(4,[0,3,4,5,6,7,1000007]),(5,[0,3,4,5,6,7,17,18,1000007]),(6,[0,3,4,5,6,7,17,18,19,1000007]),(7,[0,3,4,5,6,7,8,17,18,1000007]),(8,[0,3,4,5,6,7,8,17,18,24,1000007]),(9,[0,3,4,5,6,7,8,17,18,1000007]),(10,[0,3,4,5,6,7,17,18,1000007]),(11,[0,3,4,5,6,7,17,18,35,1000007]),(12,[0,3,4,5,6,7,17,18,1000007]),(13,[0,3,4,5,6,7,9,17,18,1000007]),(14,[0,3,4,5,6,7,9,17,18,45,46,47,1000007]),(15,[0,3,4,5,6,7,9,17,18,45,46,47,48,1000007]),(16,[0,3,4,5,6,7,9,11,17,18,45,46,47,1000007]),(17,[0,3,4,5,6,7,9,11,17,18,45,46,47,1000007]),(18,[0,3,4,5,6,7,9,17,18,45,46,47,1000007]),(19,[0,3,4,5,6,7,9,17,18,45,46,47,1000007]),(20,[0,3,4,5,6,7,17,18,1000007]),(21,[2])]),(174,[(0,[0,1,2,8,3000010]),(1,[0,2,3000010]),(2,[3000010]),(9999,[3000010])])]
def ar1:List (Nat×List (Nat×List Nat)):=VY [(3,[0,0,0,0,0,0,0,0,0,0,0,0,0,0,0,0,0,0,0,0,0,0,0,0,0,0,0,0,0,0,0,0,0,0,0,0,0,0,0,0,0,0,0,0,0,0,0,736,0,0,0,0,0,0,0,0,0,0,0,0,0,0,0,0,0,0,0,0,0,0,0,0,0,0,0,0,0,0,0,0,0,174080,0,0,0,0,58028439341502200386070528,0,0,0,0,0,0,0,0,0,0,0,0,0,0,0,0,0,0,0,0,0,0,0,0,0,0,58028439341502200386070528]),
 (4,[0,0,0,0,0,1]),
 (5,[]),
 (6,[0,0,0,0,0,0,0,0,0,71,0,0,0,0,0,71,0,0,0,0,0,0,71]),
 (7,[0,0,0,0,0,0,0,0,0,0,0,0,0,0,0,0,0,0,0,0,836,0,0,0,0,0,0,0,0,0,0,2112]),
 (8,[0,0,0,0,0,0,0,0,0,0,0,0,0,0,0,0,0,16]),
 (9,[]),
 (10,[0,0,0,0,0,0,0,0,0,0,0,0,0,0,3]),
 (11,[0,0,0,0,0,0,0,0,0,0,0,0,0,0,0,0,0,0,0,393408,0,0,0,0,0,0,0,0,235274688]),
 (12,[0,0,0,0,0,0,0,0,0,0,0,0,0,0,0,0,0,0,0,0,0,0,0,0,0,0,0,963,0,0,0,0,0,0,0,0,0,0,0,0,0,0,0,0,0,0,0,1475,0,0,0,0,7619,0,0,0,0,0,0,0,0,11715]),
 (13,[0,0,0,0,0,0,0,0,0,0,0,0,0,0,0,0,0,0,0,0,0,0,0,0,0,29360243,0,0,0,0,0,0,0,0,0,0,0,0,29362035,0,0,0,0,0,0,0,0,0,0,29368179,0,0,0,7881299377266547,0,0,0,0,0,7881299377266547]),
 (14,[0,0,0,0,0,0,0,0,0,0,0,0,0,0,0,0,0,0,0,0,0,0,0,0,963,0,0,0,0,0,0,0,0,0,0,0,0,4035]),
 (15,[0,0,0,0,0,0,0,0,0,0,0,0,60,0,0,0,0,0,0,60,0,0,0,0,0,0,0,60]),
 (16,[0,0,0,0,0,0,0,0,0,0,0,0,0,0,0,0,120,0,0,0,0,0,120,0,0,0,0,0,0,0,0,0,0,0,0,0,0,120]),
 (17,[0,0,0,0,0,0,0,6]),
 (18,[0,0,0,0,0,0,0,0,0,0,0,0,0,0,0,0,0,0,0,6,0,0,0,6,0,0,0,0,0,0,130,0,0,0,0,25769804418,0,0,0,0,0,0,0,0,0,0,0,0,0,0,25769804418,0,0,0,0,0,0,0,25769804418]),
 (19,[0,0,0,0,0,0,0,0,0,0,0,0,0,22,0,0,0,0,0,0,0,0,144,0,0,0,144]),
 (20,[]),
 (21,[]),
 (22,[0,0,0,0,0,0,0,0,0,0,0,0,0,0,6]),
 (23,[0,0,0,0,0,0,3,0,0,0,0,1]),
 (24,[0,0,0,0,0,0,0,0,0,0,0,0,99,0,0,0,0,0,0,0,0,0,0,0,0,0,227]),
 (25,[0,0,0,0,0,0,0,0,0,0,0,0,0,0,0,2,0,0,0,0,10,0,0,0,0,0,0,0,0,0,0,0,0,0,0,0,10,0,0,0,0,1924145348618,0,0,0,0,0,0,1924145348650,0,0,0,3942573819297802,0,0,0,0,0,0,0,0,3942573819297802]),
 (26,[0,0,0,0,0,0,0,0,0,0,0,0,0,0,0,0,0,0,0,0,0,0,0,0,0,14605,0,0,0,0,0,0,0,0,0,0,0,0,206158493965,0,0,0,0,0,0,0,0,0,0,0,0,0,63757]),
 (27,[]),
 (28,[0,0,0,0,0,0,0,0,0,0,0,0,92,0,0,0,0,0,0,0,72]),
 (29,[0,0,0,0,0,0,0,0,0,0,0,0,0,0,0,0,0,0,0,0,0,0,0,0,0,0,0,0,0,0,0,1879048438,0,0,0,0,0,0,0,1879048694,0,0,0,0,0,0,0,0,0,0,985164297537014,0,0,0,0,0,0,0,0,0,0,0,0,0,0,0,0,0,0,0,0,0,0,0,0,0,0,0,0,0,0,0,0,0,0,0,0,0,0,0,1083197534374707740536791108,0,0,0,0,0,0,0,1083197534374707740536791108]),
 (30,[]),
 (32,[0,0,0,0,0,0,0,114]),
 (33,[0,0,0,0,0,0,0,0,0,0,0,0,0,0,0,0,0,0,0,0,0,0,0,0,0,0,2062,0,0,0,0,0,0,2062,0,0,0,0,0,0,0,0,3848290707468,0,0,0,0,0,3848290756620,0,0,0,0,0,0,0,0,0,0,0,0,0,0,0,0,0,3848290707468,0,0,0,0,3848290707468]),
 (34,[0,0,0,0,0,0,0,0,0,0,6,0,0,6,0,0,0,0]),
 (35,[]),
 (36,[0,0,0,0,0,6]),
 (37,[]),
 (38,[0,0,0,0,0,0,0,0,0,0,0,0,0,0,0,0,0,0,196617,0,0,0,0,0,0,0,0,0,0,0,0,0,0,0,0,0,0,0,196665,0,0,0,0,0,0,0,0,0,0,0,0,196761,0,0,0,0,0,0,196665]),
 (39,[0,0,0,0,0,0,0,0,0,0,0,0,0,0,0,0,0,0,0,0,0,0,0,0,14680076]),
 (40,[]),
 (41,[0,0,0,0,0,0,0,0,0,0,0,0,0,0,0,0,3,0,0,0,786435,0,0,0,0,0,0,0,0,0,0,0,0,0,786435]),
 (42,[]),
 (43,[]),
 (44,[0,0,0,0,0,0,0,0,0,0,28,0,0,0,0,0,0,28,0,0,0,0,0,0,0,0,67109404,0,0,0,0,0,0,28]),
 (45,[]),
 (46,[0,0,0,0,0,0,0,0,0,0,0,0,0,0,0,0,0,32,0,0,0,0,9]),
 (47,[0,0,0,0,0,0,0,0,0,0,0,0,0,6,0,0,0,0,0,0,0,0,0,0,0,0,0,0,0,0,0,0,0,6442451124,0,0,0,0,0,0,0,0,3848290697364]),
 (48,[0,0,0,0,0,0,0,0,0,0,0,0,0,0,0,0,0,0,2,0,0,0,0,0,0,0,0,117440538,0,0,0,0,0,0,0,0,117440538,0,0,0,0,0,0,0,0,0,0,0,0,492581209244058,0,0,0,0,0,0,0,0,0,0,0,2018105214271228826,0,0,0,0,0,0,0,0,0,0,0,0,0,0,0,0,0,0,492581209260954,0,0,0,0,0,0,0,0,0,0,0,0,0,386]),
 (50,[0,0,0,0,0,0,0,0,0,0,0,0,0,0,0,0,0,0,0,0,0,0,0,0,0,0,0,37,0,0,0,0,0,0,165,0,0,0,0,0,0,0,0,0,0,0,0,0,0,0,0,0,0,0,0,933,0,0,0,0,0,0,0,0,0,0,0,0,0,0,0,0,0,0,0,0,0,0,0,0,0,0,0,0,0,0,0,0,0,541598767187353870268367269,0,0,0,0,0,0,0,0,0,0,0,0,0,0,0,0,0,0,0,0,0,0,0,0,0,0,0,0,0,541598767187353870268372389,0,0,0,0,0,0,0,0,0,0,0,0,0,0,0,0,0,0,0,0,0,0,0,0,0,0,0,0,0,0,0,0,0,0,0,0,0,0,0,0,0,0,0,0,0,40922045845265281709703175316055924550366111211940,0,0,0,0,0,0,0,0,0,0,0,0,335274321610258453047598115364446189841149549088924068]),
 (51,[]),
 (52,[0,0,0,0,0,0,0,0,0,0,0,0,0,0,0,0,0,0,0,0,0,0,0,0,12582924,0,0,0,0,0,0,0,0,12582924]),
 (53,[0,0,0,0,0,0,0,0,0,0,0,0,0,0,6,0,0,0,0,0,0,0,0,0,134,0,0,0,0,469762434,0,0,0,0,0,0,0,0,0,0,469762434]),
 (54,[0,0,0,0,0,0,0,0,0,0,0,0,0,0,0,0,0,0,0,0,0,0,0,0,2056,0,0,0,0,0,0,2056,0,2056,0,0,0,0,0,0,0,0,0,0,0,0,0]),
 (55,[]),
 (56,[0,0,0,0,0,0,0,0,0,6,0,0,0,0,0,0,0,0,0,0,0,0,0,0,0,0,0,6,0,0,1610612742,0,0,0,0,0,0,137975824390,0,0,0,0,0,0,6,35184372088838,0,0,0,0,0,6,0,0,0,0,63050394783186946,0,0,0,0,0,63050394783186946]),
 (57,[]),
 (58,[0,0,0,0,0,0,0,0,0,6,0,0,0,0,0,0,0,0,0,0,0,0,0,7340046]),
 (59,[]),
 (60,[0,0,0,0,0,0,2]),
 (61,[0,0,0,0,0,0,0,194,0,0,0,0,0,0,0,32834,0,0,0,0,0,0,3670016,0,0,0,0,3670016,0,0]),
 (62,[0,0,0,0,0,0,0,0,0,0,0,0,0,0,0,0,0,0,0,0,0,0,0,7340172]),
 (63,[0,0,0,0,0,0,0,0,0,0,0,0,0,0,0,0,0,0,0,0,0,0,0,0,0,0,0,0,920,0,0,0,0,0,0,0,0,0,0,0,0,0,0,0,0,0,0,0,7432]),
 (64,[0,0,0,0,0,0,0,0,0,0,0,0,0,0,0,0,0,0,0,0,0,0,0,7340188]),
 (65,[]),
 (66,[0,0,0,0,0,0,0,0,0,450,0,0,0,0,498]),
 (67,[0,0,0,0,0,0,0,0,0,0,0,0,0,0,0,0,0,0,0,0,0]),
 (68,[0,0,0,0,0,0,0,0,0,0,0,0,0,0,0,0,0,0,0,0,0,0,0,0,0,14605,0,0,0,0,0,0,0,0,0,0,0,0,206158493965,0,0,0,0,0,0,0,0,0,0,0,0,0,63757]),
 (69,[]),
 (70,[]),
 (71,[0,0,0,0,0,0,0,0,0,0,0,0,0,0,0,0,80,0,0,0,0,80,0,0,0,80]),
 (73,[]),
 (74,[]),
 (75,[0,0,0,0,0,0,0,0,0,0,0,0,0,5,0,0,0,0,0,0,0,0,0,0,0,0,101,0,0,0,0,0,0,0,0,0,0,0,0,0,0,0,324,0,0,0,0,0,0,0,0,0,516]),
 (76,[0,0,0,0,0,0,0,0,0,2,0,0,0,0,0,0,0,0,0,0,0,0,0,0,0,0,10,0,0,0,0,1879048202,0,0,0,0,0,0,0,0,0,0,1879048202,0,0,0,0,0,0,0,0,0,0,0,0,0,0,0,0,0,0,0,0,0,0,0,0,0,0,0,0,0,0,0]),
 (77,[0,0,0,0,0,0,0,0,0,0,0,0,0,0,35,0,0,0,0,35,0,0,35,0,0,0,0,0,0,0,0,0,0,0,547]),
 (78,[]),
 (79,[0,0,0,0,0,0,0,0,0,0,0,0,0,0,147,0,0,0,0,0,0,0,0,7340179,0,0,0,0,0,0,0,0,0,0,0,0,0,0,0,0,0,0,0,0,0,0,0,0,0,0,0,0,0,0,0,0,0,0,0,0,0,147,0,0,0,147]),
 (80,[0,0,0,0,0,0,0,0,0,0,0,0,0,0,0,0,0,0,229385]),
 (81,[0,0,0,0,0,0,0,0,0,0,0,0,0,0,0,0,14,0,0,0,0,0,0,0,0,0,58720262,0,0,0,0,0,0,0,58720262]),
 (82,[0,0,0,0,0,0,0,19,0,0,0,19,0,0,0,19,0,0,0,0,0,19,0,0,0,0,0,16,0,0,0,0,0,0,0,0,0,48,0,0,0,0,0,0,0,16,0,48,0,0,0,0,0,0,0,0,0,48]),
 (83,[0,0,0,0,0,0,0,6]),
 (84,[0,0,0,0,0,0,0,0,0,0,0,0,0,48,0,0,0,0,48,0,0,0,0,0,56,0,0,0,0,0,0,2147487804,0,0,0,0,0,0,48,0,0,0,0,0,0,0,0,0,0,0,0,0,0,0,0,0,0,48]),
 (85,[0,0,0,0,0,0,0,0,0,0,0,0,0,0,0,0,0,0,0,0,0,0,0,0,0,0,0,0,0,0,0,0,0,0,0,0,0,0,0,0,0,0,0,0,0,0,0,0,0]),
 (86,[]),
 (87,[]),
 (88,[]),
 (89,[0,0,0,0,0,0,0,0,0,0,0,0,67]),
 (90,[]),
 (91,[]),
 (92,[0,0,0,0,0,0,0,0,0,0,0,0,0]),
 (93,[]),
 (94,[0,0,0,0,0,0,0,0]),
 (95,[0,0,0,0,0,0,0,0,0,0,0,0,3087,0,0,0,3087]),
 (96,[0,0,0,0,0,0,0,0,0,0,0,0,0,111]),
 (97,[0,0,0,0,1]),
 (98,[0,0,0,0,0,0,0,0,0,0,0,0,0,0,0,0,0,32,0,0,0,0,3]),
 (99,[0,0,0,0,0,0,0,0,0,0,0,0,0,0,0,0,0,0,0,0,0,0,3,0,0,0,0,0,0,0,0,0,0,0,0,0,0,0,0,0,0,0,3848290697282,0,0,0,0,0,0,0,0,0,0,0,0,0,0,3848290697538,0,0,0,0,0,0,0,0,0,0,0,0,0,0,576,0,0,0,0,0,0,0,0,0,0,0,0,0,0,0,270799383593676935134184000,0,0,0,0,0,0,0,0,0,0,0,0,0,0,0,0,0,270799383593676935134192192]),
 (100,[]),
 (101,[0,0,0,0,0,0,0,0,0,0,0,0,0,0,0,0,0,0,0,0,0,0,0,0,0,0,0,0,0,0,939524121,0,0,0,0,0,0,0,0,0,0,0,0,0,0,0,0,0,0,0,0,0,0,0,0,0,0,0,0,0,0,0,0,0,0,0,939524409,0,0,0,0,0,0,0,0,0,0,0,939524409,0,0,0,0,0,0,0,0,0,0,0,0,0,0,0,0,0,0,939524409]),
 (102,[0,0,0,0,0,0,0,0,0,387,0,0,0,0,0,0,387]),
 (103,[0,0,0,0,0,0,0,0,0,0,0,0,0,0,0,0,21,0,0,0,0,0,0,0,0,53,0,0,0,0,0,0,0,20]),
 (104,[0,0,0,0,0,0,0,0,1]),
 (105,[0,0,0,0,0,0,0,0,2]),
 (106,[0,0,0,0,0,0,0,0,0,0,0,0,0,0,0,0,0,0,0,0,0,0,0,0,10,0,0,0,0,0,0,0,0,0,0,0,0,0,0,0,0,0,0,0,0,0,0,0,0,0,0,10,0,0,0,0,63050394783186954,0,0,0,0,0,0,0,0,0,0,0,63050394783186954]),
 (107,[0,0,0,0,0,0,0,0,0,0,0,0,0,0,0,0,0,0,0,0,0,0,3670030,0,0,0,0,0,0,0,0,0,0,0,0,0,0,120262754366]),
 (108,[0,0,0,0,0,0,0,0,0,0,3,0,0,0,12291,0,0,0,0,0,0,0,0,0,12291]),
 (109,[0,0,0,0,0,0,0,0,0,0,3,0,0,0,12291,0,0,0,0,0,0,0,0,0,12291]),
 (110,[0,0,0,0,0,0,0,0,0,0,3,0,0,0,12291,0,0,0,0,0,0,0,0,0,12291]),
 (111,[0,0,0,0,0,0,0,1,0,0,0,0,0,0]),
 (112,[0,0,0,0,0,0,0,0,0,0,0,0,0,0,0,0,0,0,229411,0,0,0,0,0,0,0,0,0,0,0,0,0,0,0,0,0,0,0,0,0,0,0,229539,0,0,0,0,0,0,0,985162418487331,0,0,0,0,0,64035557201674787,0,0,0,0,0,0,0,0,0,0,0,0,64035557201674787]),
 (113,[0,0,0,0,0,2]),
 (114,[0,0,0,0,0,0,0,0,0,456]),
 (115,[0,0,0,0,0,0,0,0,2,0,0,0,2,0,0,0,0,0,0,0,0,0,3670026,0,0,0,0,0,0,0,0,3670026,0,0,0,0,0,0,0,8]),
 (116,[0,0,0,0,0,0,0,0,0,0,0,0,0,0,0,0,0,0,0,0,0,0,0,0,0,0,0,0,0,0,0,0,0,0,0,25769805187,0,0,0,0,987842481539,0,0,0,0,0,0,0,0,0,0,0,0,0,0,0,0,0,0,0,0,0,987842481539]),
 (117,[0,0,0,0,0,0,0,0,0,0,0,0,0,0,0,0,0,0,0,0,0,1835137,0,0,0,0,0,119275649,0,0,0,0,0,0,0,0,0,0,0,0,0,0,0,119277697,0,0,0,0,0,0,844425049413761]),
 (118,[]),
 (119,[]),
 (120,[0,0,0,0,0,0,0,0,0,0,0,0,0,0,14725,0,0,0,0,14725,0,0,0,0,0,0,0,0,0,14725,0,0,0,0,0,0,0,0,0,0,14725,0,0,0,0,0,0,0,0,0,0,0,0,0,0,0,0,0,0,0,0,0,14725]),
 (121,[0,0,0,0,0,0,0,0,0,0,0,9,0,0,0,0,0,0,0,0,0,0,0,0,0,0,0,0,0,0,0,0,0,0,0,0,0,0,9]),
 (122,[0,0,0,0,0,5]),
 (123,[0,0,0,0,0,5]),
 (124,[0,0,0,0,0,5]),
 (125,[]),
 (126,[0,0,0,0,0,0,0,0,0,0,0,0,0,0,0,0,0,0,0,0,0,0,0,0,14680316,0,0,0,0,0,0,0,0,0,0,0,0,0,0,0,0,0,14680316,0,0,0,0,0,0,0,0,0,0,0,0,0,0,2064,0,0,0,0,2064,0,0,0,0,0,0,0,2064]),
 (127,[0,0,0,0,0,0,0,0,0,0,0,0,0,0,0,0,0,0,0,0,0,0,0,7340276,0,0,0,0,7340916,0,0,0,0,0,0,0,0,0,0,0,0,0,0,0,0,0,0,0,0,0,0,0,0,0,0,0,0,126100789566376144,0,0,0,0,0,126100789566388432]),
 (128,[]),
 (129,[0,0,0,0,0,0,0,0,0,0,0,0,0,7181,0,0,0,0,7693,0,0,0,0,0,0,0,7693]),
 (130,[0,0,0,0,0,0,0,0,0,387,0,0,0,0,0,0,387]),
 (131,[]),
 (132,[0,0,0,0,0,0,0,0,0,0,0,0,1,0,0,0,57345,0,0,0,0,0,0,0,0,0,57345]),
 (133,[]),
 (134,[0,0,0,0,0,0,0,0,0,0,1,0,0,0,0,0,49160]),
 (135,[0,0,0,0,0,0,0,0,0,0,0,0,3592]),
 (136,[0,0,0,0,0,0,0,0,0,0,0,0,0,0,0,0,0,0,0,0,0,0,3,0,0,0,0,0,0,469762082]),
 (137,[0,0,0,0,0,0,0,0,7]),
 (138,[]),
 (139,[0,0,0,1]),
 (140,[]),
 (141,[0,0,0,0,0,0,0,0,0,0,0,0,1]),
 (142,[0,0,0,0,0,0,0,0,0,0,0,0,0,0,21,0,0,0,0,21,0,0,0,0,0,0,0,0,85]),
 (143,[0,0,0,0,0,0]),
 (144,[0,0,0,0,0,0,0,0,0,0,898,0,0,0,0,0,0,0,0,898]),
 (146,[0,0,0,0,0,0,0,0,0,1,0,0,1,0,0,0,57345,0,0,0,0,0,0,57361,0,0,0,117497857,0,0,0,0,0,0,0,0,0,117497857]),
 (147,[0,0,0,0,0,0,0,0,0,0,0,0,0,0,0,0,0,0,0,458785,0,0,0,0,0,458913,0,0,0,0,0,0,3758555297,0,0,0,0,0,0,0,0,0,0,0,0,0,0,0,246294363178657,0,0,0,0,0,0,0,0,0,0,0,246294363178657]),
 (149,[]),
 (150,[0,0,0,0,0,0,0,0,0,387,0,0,0,0,0,0,387]),
 (151,[0,0,0,0,0,0,0,0,0,0,0,1544]),
 (152,[0,0,0,0,0,0,0,0,195,0,0,0,0,0,0,0,0,0,0,0,0,0,0,0,0,0,0,0,0,195]),
 (153,[0,0,0,0,0,0,0,0,0,0,0,0,0,0,0,0,57356]),
 (155,[0,0,0,0,0,0,0,0,0]),
 (156,[0,0,0,0,0,0,0,0,0,456]),
 (157,[0,0,0,0,0,0,0,0,0,0,0,0,0,0,0,0,0,0,0,135,0,0,0,0,0,0,0,0,0,263,0,0,0,0,0,0,0,0,0,0,0,0,0,0,0,897,0,0,0,0,0,0,0,0,0,0,54043195528446211]),
 (158,[0,0,0,0,0,0,0,0,0,387,0,0,0,0,0,0,387]),
 (159,[]),
 (160,[0,0,0,0,0,0,0,0,0,0,0,0,35,0,0,0,0,0,0,99,0,0,0,0,0,0,0,0,0,99]),
 (161,[0,0,0,0,0,0,0,0,0,0,0,1825,0,0,0,0,0,1825]),
 (162,[0,0,0,0,0,0,0,0,0,67,0,0,67]),
 (163,[]),
 (164,[]),
 (165,[]),
 (166,[0,0,0,0,0,0,24]),
 (168,[]),
 (169,[0,0,0,0,0,0,0,0,0,0,0,0,0]),
 (170,[]),
 (171,[0,0,0,0,0,0,0,0,0,0,0,21,0,0,0,0,0,0,0,0,0,20,0,0,20]),
 (172,[0,0,0,0,0,0,1,0,0,0,0,0,0,0,1,0,1,0,0,0,0,0,0,0,0,0,0,0,0,0,0,0,0,0,0,1]),
 (173,[0,0,0,0,0,0,0,0,0,0,0,0,0,0,6,0,0,0,0,0,0,1835042,0,0,0,0,0,0,0,0,0,0,0,1835042]),
 (175,[0,0,0,0,0,0,0,0]),
 (176,[]),
 (177,[0,0,0,0,0,0,0,0,0,12,0,0,0,0,0,0,0,0,0,12]),
 (178,[0,0,0,0,0,0,0,0,0,0,3,0,0,0,0,35,0,0,0,0,0,0,0,0,0,0,0,0,35,0,0,0,0,0,0,227,0,0,0,0,0,0,0,0,0,0,0,0,0,227]),
 (179,[]),
 (181,[]),
 (182,[0,0,0,0,0,0,0,0,0,0,0,0,0,0,0,0,0,0,0,0,0,0,0,0,0,0,0,0,0,0,0,0,0,0,0,0,0,0,0,0,0,0,0,0]),
 (183,[0,0,0,0,0,0,0,0,0,0,0,0,0,0,0,0,0,0,0,0,0,0,0,0,0,7199,0,0,0,0,0,0,7199,0,0,0,0,0,0,7199,0,0,0,0,0,0,0,0,0,0,0,0,0,0,0,0,31775,0,0,0,0,0,0,0,0,0,0,0,0,0,0,0,0,0,0,15391,0,0,0,0,15391,0,0,0,0,0,0,0,0,0,0,0,0,0,0,0,0,12319,0,0,0,0,0,0,0,0,0,0,0,0,0,0,0,0,0,0,0,0,0,0,0,0,0,0,0,3103]),
 (184,[]),
 (185,[0,0,0,0,0,0,0,0,0,0,0,67,0,3,0,0,3,0,0,0]),
 (186,[0,0,0,0,0,0,0,0,0,0,0,0,0,0,14343,0,0,0,0,0,0,14727,0,0,0,0,0,0,0,0,0,14343,0,0,0,0,0,0,0]),
 (188,[0,0,0,0,0,0,0,0,0,0,0,0,0,0,271,0,0,0,0,0,0,0,0,0,0,0,0,0,0,0,0,0,0,0,783]),
 (189,[0,0,0,0,0,0,0,0,0,0,0,0,0,0,0,0,0,0,0,0,0,3849,0,0,0,0,0,0,0,0,0,0,0,4873]),
 (190,[0,0,0,0,0,0,0,0,0,0,0,0,0,0,0,0,0,0,0,0,0,0,0,0,0,0,0,0,0,0,0,0,0,0,0,3843,0,0,0,0,0,0,0,0,0,7939]),
 (191,[0,0,0,0,0,0,0,0,0,0,0,0,0,0,0,0,0,0,0,0,0,0,0,0,0,0,0,0,0,0,0,0,0,0,10240,0,30729,0,0,0,0,0,0,0,0,0,0,0,0,0,0,0,0,0,0,0,0,768,0,0,768]),
 (192,[0,0,0,0,0,0,0,0,0,0,0,0,0,0,0,769]),
 (193,[0,0,0,0,0,0,0,0,0,0,0,0,0,0,0,0,1551,0,0,0,0,0,0,0,0,0,0,0,0,0,0,0,0,0,0,0,1551,0,0,0,0,1551,0,0,0,1551,0,0,0,0,0,0,0,0,0,0,0,0,0,0,0,0,0,0,0,1551,0,0,0,3599,0,0,0,0,0,0,0,0,0,0,0,0,0,0,3599,0,0,0,0,0,0,0,0,0,0,0,0,0,0,0,0,0,0,0,1551,0,0,0,0,5647,0,0,0,0,0,0,0,0,0,0,0,0,0,0,5647]),
 (194,[0,0,0,0,0,0,0,0,0,0,0,0,0,0,0,0,0,0,0,0,0,0,0,0,0,0,0,0,0,0,0,0,0,0,0,0,0,0,0,0,0,0,0,0,0,0,0,6163,0,0,0,0,0,0,0,0,0,0,0,0,0,0,0,0,0,6163,0,0,0,0,6163]),
 (195,[0,0,0,0,0,0,0,0,0,0,0,0,0,0,0,0,0,0,0,0,0,0,0,0,0,0,0,0,0,0,0,0,0,0,0,0,0,0,0,0,0,0,0,0,0,0,0,12307,0,0,0,0,0,0,0,0,0,0,0,0,0,0,0,0,0,0,12307,0,0,0,0,12307,0,0,0,0,0,0,0,0,0,0,0,0,0,0,0,0,0,0,0,0,0,0,0,0,0,0,0,0,0,0,0,0,0,0,0,0,0,0,0,0,0,0,0,0,0,0,0,0,12307,0,0,0,0,0,0,0,0,0,0,0,0,0,0,0,0,0,0,12307,0,0,0,0,12307]),
 (197,[0,0,0,0,5,0,0,0,5,0,0,0,0,0,5]),
 (198,[]),
 (199,[0,0,0,0,0,0,0,0,0,0,0,0,0,0,0,0,0,0,3101,0,0,0,0,0,0,0,0,0,0,0,0,0,0,0,0,0,0,0,0,0,3101,0,0,0,0,0,0,0,0,0,0,0,0,0,0,0,0,0,3101]),
 (200,[]),
 (201,[]),
 (202,[]),
 (203,[]),
 (204,[0,0,0,0,0,0,0,0,0,0,0,0,0,0,0,0,0,0,0,0,0,0,6])]++[(31,[(13,[1,2]),(20,[2,5,2000011]),(29,[2,7,8])]),(49,[(17,[0,3,5,2000006]),(22,[0,3,5,2000006]),(35,[0,3,5,33,34,2000006]),(39,[0,3,5,6,33,34,37,38,2000006])]),(148,[(19,[0,3,4,5,6,7,17,18,1000007]),(24,[0,3,4,5,6,7,8,17,18,1000007]),(35,[0,3,4,5,6,7,17,18,1000007]),(48,[0,3,4,5,6,7,9,17,18,45,46,47,1000007])]),(174,[(8,[3000010])])]
def ar2:List (Nat×List (Nat×List Nat)):=VY [(3,[0,58028439341502200386070528]),
 (4,[]),
 (5,[]),
 (6,[71]),
 (7,[]),
 (8,[]),
 (9,[]),
 (10,[]),
 (11,[192,393408,393408,235274688]),
 (12,[451,963,192,1475,3523,7619,1475,11715]),
 (13,[48,29360243,29360755,29362035,29366131,29368179,29368179,7881299377266547]),
 (14,[192,963,1987,4035]),
 (15,[]),
 (16,[]),
 (17,[]),
 (18,[512,25769804418,25769804418]),
 (19,[144,144]),
 (20,[]),
 (21,[]),
 (22,[]),
 (23,[]),
 (24,[32,99,99,227]),
 (25,[0,1924145348618,1924145348618,3942573819297802]),
 (26,[6400,14605,63757,206158493965]),
 (27,[]),
 (28,[]),
 (29,[228,1879048438,1879049718,985164297537014,40964,1083197534374707740536791108]),
 (30,[]),
 (31,[]),
 (32,[2,114]),
 (33,[8192,3848290707468,3848290707468]),
 (34,[]),
 (35,[]),
 (36,[]),
 (37,[]),
 (38,[9,196617]),
 (39,[12,14680076]),
 (40,[]),
 (41,[0,786435]),
 (42,[]),
 (43,[]),
 (44,[28]),
 (45,[]),
 (46,[]),
 (47,[180,6442451124,148,3848290697364]),
 (48,[26,117440538,4,26,402,492581209244058,492581209246618,2018105214271228826]),
 (50,[421,933,421,541598767187353870268367269,541598767187353870268367269,541598767187353870268372389,8452,40922045845265281709703175316055924550366111211940,40922045845265281709703175316055924550366111211940,335274321610258453047598115364446189841149549088924068]),
 (51,[]),
 (52,[12,12582924]),
 (53,[256,469762434]),
 (54,[0]),
 (55,[]),
 (56,[6,0,63050394783186946]),
 (57,[]),
 (58,[14,7340046]),
 (59,[]),
 (60,[]),
 (61,[0,0,3670016]),
 (62,[128,7340172]),
 (63,[408,920,2048,7432]),
 (64,[128,7340188]),
 (65,[]),
 (66,[0,450,450,498]),
 (67,[0]),
 (68,[6400,14605,63757,206158493965]),
 (69,[]),
 (70,[]),
 (71,[80,80]),
 (73,[]),
 (74,[]),
 (75,[]),
 (76,[10,1879048202]),
 (77,[]),
 (78,[]),
 (79,[16,147,147,7340179]),
 (80,[8,229385]),
 (81,[0,58720262]),
 (82,[19,16,48]),
 (83,[]),
 (84,[48]),
 (85,[0]),
 (86,[]),
 (87,[]),
 (88,[]),
 (89,[0,67]),
 (90,[]),
 (91,[]),
 (92,[]),
 (93,[]),
 (94,[]),
 (95,[0,3087]),
 (96,[47,111]),
 (97,[]),
 (98,[]),
 (99,[66,3848290697282,64,270799383593676935134184000]),
 (100,[]),
 (101,[17,939524121,939524409]),
 (102,[0,387]),
 (103,[20,21]),
 (104,[]),
 (105,[]),
 (106,[10,63050394783186954]),
 (107,[12,3670030,3670030,120262754366]),
 (108,[0,12291]),
 (109,[0,12291]),
 (110,[0,12291]),
 (111,[]),
 (112,[35,229411,0,985162418487331,985162418487331,64035557201674787]),
 (113,[]),
 (114,[8,456]),
 (115,[2,10,3670026]),
 (116,[1024,25769805187,25769805187,987842481539]),
 (117,[128,1835137,1835137,119275649,119281793,844425049413761]),
 (118,[]),
 (119,[]),
 (120,[128,14725,14725]),
 (121,[0,9]),
 (122,[]),
 (123,[]),
 (124,[]),
 (125,[]),
 (126,[248,14680316,2064]),
 (127,[240,7340276,2256,126100789566376144]),
 (128,[]),
 (129,[0,7181]),
 (130,[0,387]),
 (131,[]),
 (132,[0,57345]),
 (133,[]),
 (134,[8,49160]),
 (135,[8,3592]),
 (136,[32,469762082]),
 (137,[]),
 (138,[]),
 (139,[0,1]),
 (140,[]),
 (141,[]),
 (142,[20,21]),
 (143,[]),
 (144,[0,898]),
 (146,[0,57345,57345,117497857]),
 (147,[0,458785,458785,3758555297,3758555297,246294363178657]),
 (149,[]),
 (150,[0,387]),
 (151,[8,1544]),
 (152,[0,195]),
 (153,[0,57356]),
 (155,[]),
 (156,[8,456]),
 (157,[135,135,256,897,256,54043195528446211]),
 (158,[0,387]),
 (159,[]),
 (160,[33,99]),
 (161,[32,1825]),
 (162,[67]),
 (163,[]),
 (164,[]),
 (165,[]),
 (166,[]),
 (168,[]),
 (169,[0]),
 (170,[]),
 (171,[20]),
 (172,[]),
 (173,[32,1835042]),
 (174,[]),
 (175,[]),
 (176,[]),
 (177,[]),
 (178,[1,35,33,227]),
 (179,[]),
 (181,[]),
 (182,[0]),
 (183,[0,3103]),
 (184,[]),
 (185,[]),
 (186,[3,14343]),
 (188,[0,271,271,783]),
 (189,[1801,3849,0,4873]),
 (190,[0,3843]),
 (191,[768]),
 (192,[0,769]),
 (193,[0,1551,1551,1551,1551,3599,1551,5647]),
 (194,[2048,6163,6163,6163,6163,6163]),
 (195,[12307,12307,12307,12307,8195,12307,12307,12307,12307,12307]),
 (197,[]),
 (198,[]),
 (199,[0,1053]),
 (200,[]),
 (201,[]),
 (202,[]),
 (203,[]),
 (204,[])]++[(49,[(0,[0,3,5,2000006]),(1,[0,3,5,33,34,2000006]),(2,[0,3,5,33,34,2000006]),(3,[0,3,5,6,33,34,37,38,2000006])]),(148,[(0,[3]),(1,[0,3,4,5,6,7,17,18,1000007]),(2,[0,3,4,5,6,7,17,18,1000007]),(3,[0,3,4,5,6,7,17,18,1000007]),(4,[0,3,4,5,6,7,17,18,1000007]),(5,[0,3,4,5,6,7,9,17,18,45,46,47,1000007])])]
def ar3:List (Nat×List (Nat×List Nat)):=[(12,[(1,[5000022])]),
 (13,[(1,[5000020])]),
 (14,[(1,[5000022])]),
 (49,[(3,[2000006])]),
 (117,[(1,[104000319,105000322,106000325,107000328,108000331,109000334,110000337,111000340,112000343,113000346,114000349])]),
 (142,[(1,[4]),(2,[4]),(4,[4]),(5,[4]),(6,[4]),(7,[4]),(8,[4]),(10,[4])]),
 (148,[(2,[4]),(14,[45,1000048])])]
def ar4:List (Nat×List Nat):=[(8,[0]),
 (31,[0]),
 (36,[0]),
 (50,[0,1]),
 (58,[0]),
 (75,[0]),
 (82,[0]),
 (83,[0]),
 (84,[0]),
 (103,[0]),
 (116,[0]),
 (122,[0]),
 (123,[0]),
 (124,[0]),
 (142,[0]),
 (171,[0])]
def ar5:List (Nat×List (Nat×List (Nat×Nat))):=[(3,[(1,[(1,4)]),(2,[(1,5)]),(3,[(2,6),(5,6)]),(4,[(2,7)]),(5,[(2,7)]),(8,[(1,8)]),(9,[(1,8)]),(10,[(1,8)]),(11,[(1,8)]),(13,[(0,9)]),(20,[(0,9)])]),
 (5,[(1,[(1,10)])]),
 (6,[(1,[(1,10)]),(3,[(3,11)]),(5,[(4,12)]),(7,[(2,13)]),(8,[(3,14)])]),
 (7,[(1,[(2,15)]),(4,[(3,16)]),(7,[(1,17)])]),
 (8,[(1,[(1,18)])]),
 (9,[(1,[(0,21),(1,21),(3,20),(5,20),(6,19)]),(2,[(4,17),(10,21),(11,22)])]),
 (10,[(4,[(12,23)])]),
 (11,[(1,[(3,14)])]),
 (12,[(2,[(2,10)]),(3,[(2,10)]),(7,[(3,10)]),(19,[(3,10)])]),
 (13,[(2,[(2,10),(4,24)]),(6,[(3,10)])]),
 (14,[(2,[(2,10)]),(3,[(2,10)]),(7,[(3,10)]),(12,[(3,10)])]),
 (15,[(1,[(1,25)]),(4,[(1,25)]),(9,[(1,17),(3,17)])]),
 (16,[(1,[(1,25)]),(4,[(1,25)]),(9,[(9,26)])]),
 (17,[(1,[(1,25)]),(3,[(1,29)])]),
 (18,[(1,[(1,25)]),(4,[(1,30)]),(6,[(1,31)]),(10,[(0,32)]),(13,[(3,33)])]),
 (19,[(1,[(2,34)]),(4,[(1,36),(3,35)]),(5,[(1,37)]),(6,[(1,38)]),(9,[(1,39)])]),
 (22,[(1,[(1,40),(5,41)]),(4,[(1,42)]),(5,[(1,43)]),(6,[(3,44),(8,45)])]),
 (26,[(2,[(1,46)]),(12,[(5,27),(6,227)]),(17,[(4,28)])]),
 (29,[(1,[(1,47)]),(2,[(1,48)]),(17,[(1,47)])]),
 (31,[(1,[(1,25)]),(5,[(1,17),(2,49)]),(8,[(0,50)])]),
 (32,[(2,[(0,51)]),(5,[(2,52)])]),
 (33,[(1,[(2,53)]),(7,[(0,51),(4,52)]),(12,[(7,54)])]),
 (34,[(3,[(1,55)]),(5,[(2,56)])]),
 (35,[(3,[(2,57)])]),
 (36,[(1,[(1,40)]),(3,[(1,58)])]),
 (38,[(5,[(13,59)]),(8,[(5,60)]),(12,[(2,57)])]),
 (39,[(5,[(3,61)])]),
 (40,[(1,[(1,34)])]),
 (44,[(3,[(4,62)]),(5,[(6,63)]),(8,[(3,64)]),(10,[(6,65)]),(12,[(2,66)])]),
 (47,[(1,[(1,25)]),(3,[(6,68)])]),
 (48,[(1,[(1,25)])]),
 (50,[(1,[(4,71)]),(16,[(8,73)]),(32,[(7,74)])]),
 (52,[(5,[(1,75)])]),
 (53,[(1,[(1,76)]),(4,[(0,51)])]),
 (54,[(1,[(3,77)]),(6,[(1,78)]),(8,[(2,79)]),(10,[(1,80)])]),
 (55,[(2,[(1,81)])]),
 (56,[(22,[(2,56)])]),
 (57,[(2,[(5,60)])]),
 (58,[(7,[(3,58)]),(9,[(3,82)])]),
 (59,[(1,[(3,84),(4,83)])]),
 (60,[(1,[(1,40)]),(4,[(1,85)]),(5,[(0,86)])]),
 (61,[(6,[(2,241)]),(12,[(1,61)]),(17,[(9,61)])]),
 (62,[(1,[(5,44)]),(5,[(1,42)]),(6,[(2,236)]),(7,[(3,44)]),(8,[(5,90)]),(9,[(2,239)])]),
 (63,[(1,[(1,42)]),(2,[(2,233)]),(6,[(2,43)]),(7,[(3,44)]),(12,[(1,42)]),(13,[(2,43)]),(14,[(5,235)])]),
 (64,[(1,[(6,44)]),(5,[(3,44)]),(6,[(2,238)])]),
 (65,[(1,[(3,44)]),(3,[(2,237)])]),
 (66,[(5,[(4,97),(6,67)])]),
 (67,[(0,[(3,42)]),(2,[(5,234)]),(4,[(6,234)])]),
 (68,[(2,[(1,98)]),(12,[(5,69),(6,226)]),(17,[(4,70)])]),
 (71,[(1,[(2,99)]),(4,[(1,100)]),(5,[(1,101)])]),
 (73,[(1,[(2,102)])]),
 (75,[(4,[(0,103)]),(5,[(3,104)]),(7,[(0,103)]),(11,[(1,105)])]),
 (76,[(1,[(1,106)]),(3,[(1,107),(2,31)]),(9,[(6,108)]),(12,[(4,109),(11,108),(19,110),(27,110)])]),
 (77,[(1,[(1,111)]),(4,[(2,112)]),(6,[(1,105)]),(8,[(1,113)]),(9,[(8,114)]),(11,[(2,115),(5,115),(9,116)]),(12,[(12,117)])]),
 (78,[(1,[(4,118)])]),
 (79,[(1,[(1,80)]),(9,[(9,120),(19,120)]),(11,[(1,121)])]),
 (81,[(7,[(4,81)])]),
 (82,[(3,[(1,122)]),(5,[(1,123)]),(7,[(1,124)]),(18,[(0,125)]),(19,[(5,90)])]),
 (83,[(1,[(2,34)])]),
 (84,[(12,[(2,126)]),(14,[(5,84)]),(15,[(3,82)]),(16,[(4,82)]),(18,[(2,127)])]),
 (85,[(3,[(1,128)]),(5,[(1,128)]),(7,[(5,128)]),(9,[(3,129)]),(11,[(3,129)]),(13,[(3,129)]),(15,[(1,128)]),(16,[(3,129)]),(18,[(3,129)]),(19,[(1,128)])]),
 (87,[(1,[(2,130)])]),
 (88,[(0,[(6,89)])]),
 (90,[(1,[(14,131)])]),
 (91,[(0,[(1,42)]),(1,[(5,240)])]),
 (92,[(0,[(5,45)]),(1,[(6,89)])]),
 (94,[(0,[(2,45)]),(1,[(6,89)])]),
 (96,[(0,[(1,42)])]),
 (99,[(8,[(10,132)]),(14,[(6,134),(7,133)]),(19,[(5,135)]),(22,[(7,133)])]),
 (101,[(6,[(9,136)]),(7,[(5,135)]),(12,[(14,137),(15,133)]),(13,[(18,138)])]),
 (103,[(2,[(1,139)]),(3,[(5,141),(6,140)]),(4,[(1,139)]),(5,[(1,142)])]),
 (104,[(1,[(1,141)])]),
 (105,[(1,[(2,143)]),(4,[(2,143)])]),
 (106,[(9,[(7,144)]),(12,[(3,144)])]),
 (111,[(1,[(1,146)]),(4,[(2,148),(3,147)])]),
 (113,[(1,[(1,149)]),(3,[(1,151),(3,150)])]),
 (114,[(5,[(3,153)])]),
 (115,[(10,[(2,115)])]),
 (116,[(3,[(4,243)]),(4,[(4,243)]),(5,[(5,156)])]),
 (117,[(13,[(6,157)])]),
 (118,[(1,[(2,158)])]),
 (122,[(1,[(1,228)]),(2,[(0,159)]),(3,[(1,161),(2,232)]),(4,[(1,163),(2,164),(3,162)])]),
 (123,[(1,[(1,87)]),(2,[(0,164)]),(3,[(1,161),(2,230)]),(4,[(1,125),(2,162)])]),
 (124,[(1,[(1,87)]),(2,[(0,164)]),(3,[(1,161),(2,160)]),(4,[(1,163),(2,159),(3,162)])]),
 (126,[(6,[(2,84)]),(11,[(3,82),(7,82)])]),
 (127,[(8,[(4,166)]),(9,[(2,84)]),(19,[(3,82)]),(21,[(1,82),(3,82)])]),
 (129,[(4,[(2,168)]),(5,[(2,169)]),(6,[(2,85)]),(7,[(1,128)]),(8,[(2,85)]),(9,[(1,128)])]),
 (130,[(4,[(5,131)])]),
 (133,[(2,[(5,135)])]),
 (136,[(1,[(7,132),(12,132)])]),
 (138,[(1,[(3,137)])]),
 (139,[(0,[(1,104)])]),
 (140,[(1,[(11,170)])]),
 (142,[(1,[(1,171)]),(4,[(1,139)]),(5,[(1,104)]),(6,[(1,139)]),(7,[(1,172)])]),
 (143,[(1,[(1,173)])]),
 (148,[(10,[(2,174)]),(17,[(8,174)]),(18,[(8,174)])]),
 (149,[(1,[(1,111)])]),
 (150,[(4,[(5,152)])]),
 (156,[(5,[(3,244)])]),
 (158,[(4,[(5,119)])]),
 (159,[(1,[(0,164)])]),
 (160,[(1,[(2,229)]),(8,[(2,90)])]),
 (163,[(1,[(1,176)]),(2,[(1,178)])]),
 (166,[(3,[(1,58)])]),
 (170,[(1,[(2,181)])]),
 (171,[(1,[(1,141)]),(2,[(1,140)]),(9,[(1,103)]),(10,[(4,104)]),(11,[(1,170)])]),
 (172,[(1,[(1,104)]),(3,[(1,104),(5,104)]),(5,[(1,104)]),(6,[(1,104),(4,104)]),(7,[(1,104),(5,141),(10,141)]),(9,[(1,141)]),(11,[(2,104)])]),
 (173,[(1,[(4,182)]),(7,[(5,173)])]),
 (176,[(1,[(4,184),(6,183)])]),
 (177,[(2,[(4,185)]),(4,[(4,185)]),(5,[(4,186)])]),
 (178,[(6,[(10,179)]),(11,[(10,179)])]),
 (179,[(1,[(2,177)])]),
 (183,[(4,[(4,188)]),(6,[(4,189)]),(8,[(4,190)]),(10,[(4,191)]),(12,[(4,192)]),(16,[(4,193)]),(17,[(13,177)]),(18,[(5,194)]),(20,[(5,195)]),(26,[(5,183)]),(29,[(6,183)])]),
 (184,[(2,[(1,197)])]),
 (185,[(1,[(1,198)]),(2,[(1,198)])]),
 (186,[(7,[(3,177)])]),
 (188,[(4,[(14,177)])]),
 (189,[(6,[(5,199)]),(11,[(5,199)])]),
 (190,[(3,[(1,200)]),(7,[(0,201)])]),
 (191,[(8,[(3,202)]),(9,[(3,202)]),(10,[(3,202)]),(11,[(5,203)])]),
 (193,[(5,[(14,177)]),(16,[(10,177)]),(22,[(10,177)])]),
 (194,[(3,[(13,177)]),(5,[(13,177)])]),
 (195,[(3,[(13,177)]),(5,[(13,177)]),(13,[(13,177)]),(15,[(13,177)])]),
 (199,[(3,[(19,177)]),(5,[(13,177)])]),
 (200,[(1,[(2,184)])]),
 (202,[(1,[(8,203)])]),
 (203,[(1,[(5,204)]),(2,[(5,204)]),(3,[(5,204)])]),
 (204,[(1,[(9,177)])]),
 (228,[(1,[(2,229)])]),
 (229,[(4,[(5,90)])]),
 (230,[(1,[(2,231)]),(8,[(2,165)])]),
 (231,[(4,[(5,165)])]),
 (232,[(1,[(2,130)]),(8,[(2,131)])]),
 (233,[(5,[(4,97),(6,93)])]),
 (235,[(5,[(4,97),(6,94)])]),
 (236,[(5,[(4,97),(6,88)])]),
 (237,[(5,[(4,97),(6,96)])]),
 (238,[(5,[(4,97),(6,95)])]),
 (239,[(5,[(4,97),(6,91)])]),
 (240,[(5,[(4,97),(6,92)])]),
 (241,[(1,[(2,242)])]),
 (242,[(4,[(5,61)])]),
 (243,[(1,[(3,155)]),(5,[(3,243)])]),
 (244,[(1,[(3,175)]),(5,[(3,244)])])]
def ar6:List (Nat×List (Nat×(Shape×List (Out×Shape)))):=[(3,[(241,RP)]),
 (11,[(97,RB),(49,RC)]),
 (12,[(81,RF),(209,RH),(273,RI),(145,RJ)]),
 (13,[(241,RK),(209,RL),(145,RM),(65,RN)]),
 (14,[(161,Rz),(81,RA)]),
 (18,[(177,QN)]),
 (19,[(81,UH)]),
 (24,[(97,aqm),(49,aqn)]),
 (25,[(225,UI),(145,UJ)]),
 (26,[(161,Rk),(81,Rl)]),
 (28,[(207,Rg)]),
 (29,[(161,UK),(81,UL),(321,UM)]),
 (32,[(49,QM)]),
 (33,[(129,UN)]),
 (38,[(49,UO)]),
 (39,[(49,aqo)]),
 (41,[(65,aqp)]),
 (47,[(97,UP),(177,UQ)]),
 (48,[(81,UR),(273,US),(209,UT),(161,UU)]),
 (49,[(161,UW),(113,UX)]),
 (50,[(145,UY),(321,UZ),(225,U0),(481,U3),(417,U4)]),
 (52,[(49,U5)]),
 (53,[(145,U6)]),
 (56,[(321,aqq)]),
 (58,[(81,aqr)]),
 (61,[(161,aqs)]),
 (62,[(49,aqt)]),
 (63,[(65,aqu),(161,aqv)]),
 (64,[(49,aqw)]),
 (66,[(49,aqx),(17,aqy)]),
 (67,[(175,aqz)]),
 (68,[(161,U7),(81,U8)]),
 (71,[(65,U9)]),
 (76,[(113,Va)]),
 (79,[(81,Vb),(33,Vc)]),
 (80,[(49,Vd)]),
 (81,[(81,aqA)]),
 (84,[(399,aqB)]),
 (85,[(463,aqC),(367,aqD),(239,aqE),(175,aqF),(111,aqG)]),
 (89,[(17,aqH)]),
 (95,[(17,aqI)]),
 (96,[(33,aqJ)]),
 (99,[(97,Ve),(1167,Vf),(1711,Vg),(257,Vh)]),
 (101,[(1263,Vi),(65,Vj)]),
 (102,[(33,Vk)]),
 (103,[(49,aqK)]),
 (106,[(113,Vl)]),
 (107,[(113,Vm),(49,Vn)]),
 (108,[(65,Vo)]),
 (109,[(65,Vp)]),
 (110,[(65,Vq)]),
 (112,[(49,Vr),(209,Vs),(161,Vt)]),
 (114,[(49,aqL)]),
 (115,[(129,aqM)]),
 (116,[(161,Vu),(113,Vv)]),
 (117,[(177,Vw),(97,Vx),(49,Vy)]),
 (120,[(319,Vz),(65,VA)]),
 (121,[(33,VB)]),
 (126,[(65,aqN)]),
 (127,[(81,aqO),(225,aqP)]),
 (129,[(303,aqQ),(17,aqR)]),
 (130,[(33,aqS)]),
 (132,[(65,VC)]),
 (134,[(81,VD)]),
 (135,[(49,VE)]),
 (136,[(81,VF)]),
 (139,[(1,aqT)]),
 (142,[(81,aqU)]),
 (144,[(33,VG)]),
 (146,[(177,VH),(97,VI)]),
 (147,[(193,VJ),(129,VK),(49,VM)]),
 (148,[(241,VN),(177,VO),(97,VP)]),
 (150,[(33,VQ)]),
 (151,[(49,VR)]),
 (152,[(33,VT)]),
 (155,[(143,aqV)]),
 (156,[(49,aqW)]),
 (157,[(33,VU),(113,VV),(177,VW)]),
 (158,[(33,VX)]),
 (160,[(81,aqX)]),
 (161,[(49,aqY)]),
 (173,[(81,aqZ)]),
 (178,[(145,aq0),(65,aq1)]),
 (183,[(639,aq2),(911,aq3),(1215,aq4),(33,aq5)]),
 (186,[(33,aq6)]),
 (188,[(65,aq7),(17,aq8)]),
 (189,[(65,aq9),(129,ara)]),
 (190,[(735,arb),(81,arc)]),
 (191,[(591,ard),(559,are)]),
 (192,[(33,arf)]),
 (193,[(81,arh),(225,ari),(1055,arj),(321,ark),(49,arl)]),
 (194,[(49,arn),(81,aro),(50,arp)]),
 (195,[(49,arq),(81,ars),(209,art),(241,aru),(210,arv)]),
 (197,[(79,arw),(143,arx)]),
 (199,[(655,ary),(17,arz)]),
 (229,[(33,arA)]),
 (230,[(81,arB)]),
 (231,[(33,arC)]),
 (232,[(81,arD)]),
 (233,[(49,arE),(17,arF)]),
 (235,[(49,arG),(17,arH)]),
 (236,[(49,arI),(17,arJ)]),
 (237,[(49,arK),(17,arL)]),
 (238,[(49,arM),(17,arN)]),
 (239,[(49,arO),(17,arP)]),
 (240,[(49,arQ),(17,arR)]),
 (242,[(33,arS)]),
 (243,[(49,arT)]),
 (244,[(49,arU)])]
def ar7:List (Nat×List (Nat×List Nat)):=[(12,[(7,[41,42])]),
 (13,[(22,[71,72])]),
 (14,[(13,[49,50])]),
 (44,[(11,[46])]),
 (49,[(5,[26])]),
 (50,[(7,[42]),(24,[158])]),
 (63,[(8,[42])]),
 (107,[(1,[16])]),
 (116,[(5,[31])]),
 (120,[(1,[7])]),
 (160,[(12,[41])]),
 (178,[(15,[64])]),
 (230,[(12,[41])]),
 (232,[(12,[41])])]
def OF (k:Nat):FuncId:=(fL arV k).getD 0
def mh:dr where
 jW:=OF
 sin:=fun k=>(fL arW k).getD ⟨[],[]⟩
 je:=fun k=>(fL arX k).getD ⟨[],[]⟩
 live:=fun k r=>(fL ((fL ar0 (OF k)).getD []) r).getD []
 join:=fun k r=>(fL ((fL ar1 (OF k)).getD []) r).getD []
 blk:=fun k r=>(fL ((fL ar2 (OF k)).getD []) r).getD []
 pur:=fun k r=>(fL ((fL ar3 k).getD []) r).getD []
 y7:=fun k=>(fL ar4 k).getD []
 alt:=fun k=>fL arY k
 XI:=fun k r=>(fL ((fL ar7 k).getD []) r).getD []
 ck:=fun k r i=>(fL ((fL ((fL ar5 k).getD []) r).getD []) i).getD 0
 km:=fun k x=>fL ((fL ar6 k).getD []) x
 sN:=[]
 Kp:=fun _=>0
 ext:=fun f=>bif Nat.beq f 167 then some 170 else bif Nat.beq f 187 then some 999999 else none
 sO:=fun f=>bif Nat.beq f 72 then some 3 else bif Nat.beq f 145 then some 4 else none
 idle:=fun f=>false
 mv:=fun k=>(fL ([(37,[1,2]),(38,[1,2]),(39,[1,2]),(46,[1]),(50,[2]),(57,[1,2]),(78,[2]),(79,[2]),(80,[2]),(85,[1]),(86,[1]),(88,[2]),(92,[3]),(94,[2]),(98,[1]),(100,[1,2,3,4,5,6,8,9,10]),(101,[1,2,3,4,5,6,8,9,10]),(121,[2]),(128,[1]),(129,[1]),(133,[2,3,4,5,6,8,9,10]),(137,[2,3,4,5,6,8,9,10]),(138,[2,3,4,5,6,8,9,10]),(168,[1]),(174,[2,3]),(226,[1]),(227,[1]),(235,[2]),(236,[2]),(240,[3])]:List (Nat×List Nat)) k).getD []
 aE:=fun g=>bif Nat.beq g 0 then .pref [5,5,5,5,5,5,5,5,5,5,5,5,5,5,5,5,5,5,5,5,5,5,5,5,5,5,5,5,5,5,5,5,5,5,5,5,5,5,5,5,5,5,5,5,5,5,5,5,5,5,5,5,5,5,5,5,5,5,5,5,5,5,5,5] Oa else .undef
noncomputable abbrev PG:Program:=Tryz.prog
noncomputable abbrev CC:af:=Call Tryz.prog mh
noncomputable abbrev Lp (p:List Nat) (k:Nat):qu:= .loop (wO p (um PG (mh.jW k)))
noncomputable abbrev Cd (t:Nat) (p q:List Nat) (k:Nat):qu:= .cond t (wO p (um PG (mh.jW k))) (wO q (um PG (mh.jW k)))
abbrev bA (C:af) (L:cL) (k:Nat) (b:qu):Prop:=u9 PG mh C L k (Fe PG (mh.jW k)) (mh.sin k).cX.length b
end Go.AM
set_option maxRecDepth 100000
namespace Go.AM
open Go.IntKind (wrap)
open Go.Proofs Go.RowKit
set_option maxHeartbeats 1000000 in
theorem ar8 (hP:Aj Tryz.prog):Nb Tryz.prog 72 3:=by
 refine ⟨fun args w=>MuLone.run_callFunc_enter Tryz.func72 (hP _ _ Tryz.func72) (by kernel_rfl:Tryz.f72.body=some (um Tryz.prog 72)) _ _,22,by kernel_rfl,?_⟩;intro s w Q h1 h2 h3;have hu:Tryz.prog.underlying 22=some (.slice 3):=by kernel_rfl
 go_enter Tryz.func72,Tryz.ntmps72
 rcases h3 with rfl|⟨a,n,c,rfl⟩
 ·go_wp2
  rw[run_eql_slice_nil w 22 3 none 0 0 hu];simp only[Result.andThen];rw[Oper.upon_value]
  go_wp2
  exact trivial
 ·go_wp2
  rw[run_eql_slice_nil w 22 3 (some a) n c hu];simp only[Result.andThen];rw[Oper.upon_value]
  iterate 17 go_step
  obtain ⟨v,w',hv,hQ⟩:=h2 _ _ _ rfl;unfold Oper.wp;simp[execOp,resolve,invoke,Act.eval,hv,builtin];rw[Oper.upon_value]
  go_wp2
  exact hQ
set_option maxHeartbeats 1000000 in
theorem ar9 (hP:Aj Tryz.prog):Nb Tryz.prog 145 4:=by
 refine ⟨fun args w=>MuLone.run_callFunc_enter Tryz.func145 (hP _ _ Tryz.func145) (by kernel_rfl:Tryz.f145.body=some (um Tryz.prog 145)) _ _,26,by kernel_rfl,?_⟩;intro s w Q h1 h2 h3;have hu:Tryz.prog.underlying 26=some (.slice 4):=by kernel_rfl
 go_enter Tryz.func145,Tryz.ntmps145
 rcases h3 with rfl|⟨a,n,c,rfl⟩
 ·go_wp2
  rw[run_eql_slice_nil w 26 4 none 0 0 hu];simp only[Result.andThen];rw[Oper.upon_value]
  go_wp2
  exact trivial
 ·go_wp2
  rw[run_eql_slice_nil w 26 4 (some a) n c hu];simp only[Result.andThen];rw[Oper.upon_value]
  iterate 17 go_step
  obtain ⟨v,w',hv,hQ⟩:=h2 _ _ _ rfl;unfold Oper.wp;simp[execOp,resolve,invoke,Act.eval,hv,builtin];rw[Oper.upon_value]
  go_wp2
  exact hQ
theorem asa (hP:Aj PG) (f:FuncId) (e:TypeId) (h:mh.sO f=some e):Nb PG f e:=by
 have h1:mh.sO f=bif Nat.beq f 72 then some 3 else bif Nat.beq f 145 then some 4 else none:=by kernel_rfl
 rw[h1] at h;cases OG:Nat.beq f 72 with
 | true=>
  rw[OG] at h;rw[aL] at OG;cases h;subst OG;exact ar8 hP
 | false=>
 rw[OG] at h;simp only[cond_false] at h;cases OH:Nat.beq f 145 with
 | true=>
  rw[OH] at h;rw[aL] at OH;cases h;subst OH;exact ar9 hP
 | false=>
 rw[OH] at h;simp only[cond_false] at h;cases h
theorem asb {w:World} {b:Nat} {C:Array Value} {T:TypeId} (h:w.heap[b]? =some (.cells C T (0,0))):w.shape? b=some (T,C.size)∧w.frozen? ⟨b,0,none⟩=false∧w.cell? ⟨b,0,none⟩=C[0]? :=by
 refine ⟨by simp[World.shape?,h],by simp[World.frozen?,h],cell?_cells h⟩
set_option maxHeartbeats 1000000 in
theorem asd (b:Nat) (w:World) (h0:w.cell? ⟨b,0,none⟩=some (.pointer (some ⟨b,0,none⟩))):
  Calls Tryz.prog 167 #[.pointer (some ⟨b,0,none⟩)] w fun e w'=>e= .returned (.tuple #[])∧w'=w:=by
 obtain ⟨j,hj⟩:=BM.1 (show (Tryz.prog.info? 170).isSome=true by kernel_rfl);have hu:Tryz.prog.underlying 168=some (.pointer 170):=by kernel_rfl
 go_enter Tryz.func167,Tryz.ntmps167
 go_wp2
 rw[Lib.run_neq_ptr_same w _ hu hj]
 go_wp2
 go_end0
 exact ⟨rfl,rfl⟩
set_option maxHeartbeats 1000000 in
theorem ase (b n:Nat) (w:World) (hn:0<n) (h0:w.cell? ⟨b,0,none⟩=some (.pointer none)) (MZ:w.shape? b=some (170,n)) (Dz:w.frozen? ⟨b,0,none⟩=false) (hl:liesAt Tryz.prog Tryz.prog.depth 170 (n/Tryz.prog.cellsOf 170) 0 170 1=true):
  Calls Tryz.prog 167 #[.pointer (some ⟨b,0,none⟩)] w fun e w'=>e= .returned (.tuple #[])∧w'=w.setCell ⟨b,0,none⟩ (.pointer (some ⟨b,0,none⟩)):=by
 obtain ⟨j,hj⟩:=BM.1 (show (Tryz.prog.info? 170).isSome=true by kernel_rfl);have hjs:j.size≠0:=by
  have h2:(Tryz.prog.info? 170).map (·.size)=some 2:=by kernel_rfl
  rw[hj] at h2;simp at h2;omega
 have hu:Tryz.prog.underlying 168=some (.pointer 170):=by kernel_rfl
 have rp:Tryz.prog.underlying 260=some .unsafePointer:=by kernel_rfl
 go_enter Tryz.func167,Tryz.ntmps167
 go_wp2
 rw[Lib.run_to_unsafe w ⟨b,0,none⟩ hu rp hj hjs MZ hn];simp only[Result.andThen];rw[Oper.upon_value]
 go_wp2
 rw[run_callFunc_extern Tryz.func180 (by kernel_rfl) (by kernel_rfl) (by kernel_rfl) (e:=Extern.AbiNoEscape.same) (by kernel_rfl)];rw[Lib.run_noEscape];simp only[Result.andThen];rw[Oper.upon_value]
 go_wp2
 rw[Lib.run_from_unsafe w ⟨b,0,none⟩ rp hu hj MZ hl];simp only[Result.andThen];rw[Oper.upon_value]
 go_wp2
 go_end0
 exact ⟨rfl,rfl⟩
theorem asf (hP:Aj Tryz.prog):lr Tryz.prog mh where
 count:=hP
 sO:=asa hP
 ext:=by
  intro f T h b C w hh hs hc;have hf:f=167∧T=170:=by
   have h1:mh.ext f=bif Nat.beq f 167 then some 170 else bif Nat.beq f 187 then some 999999 else none:=by kernel_rfl
   rw[h1] at h;cases hb:Nat.beq f 167 with
   | true=>rw[hb] at h;rw[aL] at hb;exact ⟨hb,(dN h).symm⟩
   | false=>
    rw[hb] at h;simp only[cond_false] at h;cases eR:Nat.beq f 187 with
    | true=>
     rw[eR] at h;obtain rfl:999999=T:=dN h;have h0:C.size=0:=hs.trans (by kernel_rfl)
     have h2:C[0]? =none:=Array.getElem?_eq_none (by omega);rw[h2] at hc;simp at hc
    | false=>rw[eR] at h;cases h
  obtain ⟨rfl,rfl⟩:=hf;obtain ⟨h1,h2,h3⟩:=asb hh;refine ⟨MuLone.run_callFunc_enter Tryz.func167 (hP _ _ Tryz.func167) (by kernel_rfl:Tryz.f167.body=some (um Tryz.prog 167)) _ _,?_⟩;have gi:Tryz.prog.cellsOf 170=2:=by kernel_rfl
  rcases hc with hc|hc
  ·refine (ase b C.size w (by omega) (h3.trans hc) h1 h2 (by rw[hs,gi];kernel_rfl)).mono ?_;rintro e w' ⟨rfl,rfl⟩;exact ⟨rfl,.inr rfl⟩
  ·refine (asd b w (h3.trans hc)).mono ?_;rintro e w' ⟨rfl,rfl⟩;exact ⟨rfl,.inl rfl⟩
 S4:=by
  intro f T h h0 s c w;have h1:mh.ext f=bif Nat.beq f 167 then some 170 else bif Nat.beq f 187 then some 999999 else none:=by kernel_rfl
  rw[h1] at h;have gi:Tryz.prog.cellsOf 170=2:=by kernel_rfl
  cases hb:Nat.beq f 167 with
  | true=>
   rw[hb] at h;obtain rfl:170=T:=dN h;omega
  | false=>
   rw[hb] at h;simp only[cond_false] at h;cases eR:Nat.beq f 187 with
   | true=>
    rw[aL] at eR;subst eR;rw[run_callFunc_extern Tryz.func187 (by kernel_rfl) (by kernel_rfl) (by kernel_rfl) (e:=Extern.BytealgIndexByte.indexByte) (by kernel_rfl)];simp[Lib.run_indexByteString]
   | false=>rw[eR] at h;cases h
 idle:=by
  intro f h;have h1:mh.idle f=false:=by kernel_rfl
  rw[h1] at h;cases h
end Go.AM
set_option maxRecDepth 100000
namespace Go.AM
open Go.IntKind (wrap)
open Go.Proofs Go.Proofs.YtjmolnomobmkdaaGreatDoor Go.Lib Go.MakeChecks
def w7:List Int:=[0,1,56,2,57,49,28,3,61,58,42,50,38,29,17,4,62,47,59,36,45,43,51,22,53,39,33,30,24,18,12,5,63,55,48,27,60,41,37,16,46,35,44,21,52,32,23,11,54,26,40,15,34,20,31,10,25,14,19,9,13,8,7,6]
theorem asg:Oa=w7.map fun z=> .int .u8 z:=by kernel_rfl
theorem ash:Rows.laid_math_bits_deBruijn64tab (H:=Unit)=tabData .u8 w7:=by kernel_rfl
def Iw : List (String×DataW Unit) := [("math/bits.deBruijn64tab", Rows.laid_math_bits_deBruijn64tab)]
theorem ahO {W:World} (h:laidMetH Tryz.prog Iw W):jZ Tryz.prog mh.aE W (qt W):=by
 have h1 : laidMetH Tryz.prog [("math/bits.deBruijn64tab", tabData .u8 w7)] W := by
  have : Iw = [("math/bits.deBruijn64tab", tabData .u8 w7)] := by unfold Iw; rw [ash]
  rwa [this] at h
 rw[laidMetH_plain _ _ _ (by kernel_rfl)] at h1;have hn : Tryz.prog.globalNamed "math/bits.deBruijn64tab" = some 0 := by kernel_rfl
 have ht:=tabIs_of_head (g:=0) (t:=218) (e:=5) (n:=64) hn (by kernel_rfl) (by kernel_rfl) (by kernel_rfl) (by kernel_rfl) (by kernel_rfl) h1;have hlen:w7.length=64:=by kernel_rfl
 have hc: ∀i,i<64→W.cell? ⟨0,i,none⟩=some (.int .u8 (w7.getD i 0)):=fun i hi=>ht.cell hn i (by rw[hlen];exact hi);intro g;have hg:mh.aE g=bif Nat.beq g 0 then .pref (List.replicate 64 5) Oa else .undef:=by kernel_rfl
 rw[hg];cases hb:Nat.beq g 0 with
 | false=>exact .inl rfl
 | true=>
  rw[aL] at hb;subst hb;refine .inr ⟨List.replicate 64 5,Oa,rfl,by kernel_rfl,fun _ _=> ?_,fun j t x hj hx=> ?_⟩
  ·have h0:=hc 0 (by omega);unfold qt;unfold World.cell? at h0;by_cases hz:0<W.heap.size
   ·exact hz
   ·have:W.heap[0]? =none:=Array.getElem?_eq_none (by omega);simp[this] at h0
  ·have OI:j<64:=by
    have:=(cz.1 hj).1;simpa using this
   rw[List.getElem?_replicate,aB OI] at hj;cases hj;rw[asg,ki] at hx;have lj:w7[j]? =some (w7.getD j 0):=by
    rw[bY (by rw[hlen];exact OI)];simp[List.getD,bY (show j<w7.length by rw[hlen];exact OI)]
   rw[lj] at hx;cases hx;exact ⟨_,by simpa using hc j OI,.int (by kernel_rfl)⟩
theorem own:ownKnob Tryz.prog.godebug=none:=by kernel_rfl
theorem asi:Aj Tryz.prog:=aof (by kernel_rfl)
theorem mixed:Tryz.prog.follows .mixedOrders=true:=by kernel_rfl
theorem ahN:lr Tryz.prog mh:=asf asi
noncomputable def XF (os:Os):World:=World.laidAll Tryz.prog os Iw
theorem ahL (os:Os) (args:Array Value):laidMetH Tryz.prog Iw ((XF os).forCall (fun _ _=>0) ⟨#[],args,[]⟩).memory:=by
 rw[laidMetH_plain _ _ _ (by kernel_rfl)];exact laidMet_laidAll args (by kernel_rfl) (by kernel_rfl)
end Go.AM
set_option maxRecDepth 100000
namespace Go.AM
open Go.IntKind (wrap)
open Go.Proofs
theorem afq:maxLen≤9223372036854775807:=by unfold maxLen;omega
theorem afr:aY=35184372088832:=by unfold aY;rfl
section
variable {α β:Type} {o:Option α} {a:α} {f:α→Option β} {r:Option β} {x y z:β} {b:Bool}
theorem bs (h:o=some a) (h2:f a=r):o.bind f=r:=by rw[h];exact h2
theorem bT (hb:b=true) (h:x=z):(bif b then x else y)=z:=by rw[hb];exact h
theorem bF (hb:b=false) (h:y=z):(bif b then x else y)=z:=by rw[hb];exact h
end
section
variable {X R A α:Type} {step:X→Option (X ⊕ R)}
theorem afs (sd:Nat→Prop) [DecidablePred sd] (n:Nat) (s:Nat→X) (bad ok:R) (h: ∀i,i<n→step (s i)=some (if sd i then .inl (s (i+1)) else .inr bad)) (he:step (s n)=some (.inr ok)):
  Loop step (s 0)=some (if∀i,i<n→sd i then ok else bad):=by
 have go: ∀(d k:Nat),k+d=n→((∀i,k≤i→i<n→sd i)→Loop step (s k)=some ok)∧((¬∀i,k≤i→i<n→sd i)→Loop step (s k)=some bad):=by
  intro d
  induction d with
  | zero=>
   intro k hk;have:k=n:=by omega
   subst this;exact ⟨fun _=>kR he,fun hx=>absurd (fun i h1 h2=>by omega) hx⟩
  | succ d ih=>
   intro k hk;have h1:=h k (by omega);by_cases hg:sd k
   ·rw[aB hg] at h1;rw[jd h1];obtain ⟨i1,i2⟩:=ih (k+1) (by omega);refine ⟨fun ha=>i1 fun i h1 h2=>ha i (by omega) h2,fun ha=>i2 fun hx=>ha fun i h1 h2=> ?_⟩;by_cases hi:i=k
    ·rw[hi];exact hg
    ·exact hx i (by omega) h2
   ·rw[ax hg] at h1;rw[kR h1];exact ⟨fun ha=>absurd (ha k (aw _) (by omega)) hg,fun _=>rfl⟩
 obtain ⟨g1,g2⟩:=go n 0 (by omega);by_cases ha: ∀i,i<n→sd i
 ·rw[aB ha];exact g1 fun i _ h=>ha i h
 ·rw[ax ha];exact g2 fun hx=>ha fun i h=>hx i (by omega) h
end
noncomputable def asj (C:af) (x:Int):Option LV:=
 some [V.int .i64 3,V.int .i64 x,.list cx ([]:LV)]
theorem asl {x:Int} {r:Option LV} (h:asj CC x=r):CC DN [V.int .i64 x]=r:=bI (L:=bH) av h
noncomputable def asm (C:af) (op:Int) (kids:LV):Option LV:=
 some [V.int .i64 op,V.int .i64 0,.list cx kids]
theorem afu {op:Int} {kids:LV} {r:Option LV} (h:asm CC op kids=r):CC NH [V.int .i64 op,.list cx kids]=r:=bI (L:=bH) av h
noncomputable def AX (C:af) (lS lT:Int) (aI aQ:LV) (bZ ch:Int) (aW aV aF:LV) {β:Type} (kn:(Int×Int×LV×LV×LV)→Option β) (kr:((Int×Int×Int×LV×LV) ⊕ (Bool×Int×Int×LV×LV×LV))→Option β):Option β:=
 (C TR [V.int .i64 bZ,V.int .i64 ch,.list cx aW,.list ag aV,.list cJ aF]).bind fun r4=>
 bif !((V.nth r4 0).toBool) then
  (C DO [V.int .i64 ((V.nth (r4.drop 1) 0).toInt),V.int .i64 ((V.nth ((r4.drop 1).drop 1) 0).toInt),.list cx ((V.nth (((r4.drop 1).drop 2).drop 1) 0).toList),.list ag ((V.nth ((((r4.drop 1).drop 2).drop 1).drop 1) 0).toList),.list cJ ((V.nth ((r4.drop 1).drop 2) 0).toList)]).bind fun r5=>
  bif (((V.nth r5 0).toInt):Int) != 0 then
  kr (.inl ((V.nth r5 0).toInt,0,0,([]:LV),([]:LV)))
  else
  kn ((V.nth (r5.drop 1) 0).toInt,(V.nth ((r5.drop 1).drop 1) 0).toInt,(V.nth (((r5.drop 1).drop 2).drop 1) 0).toList,(V.nth ((((r5.drop 1).drop 2).drop 1).drop 1) 0).toList,(V.nth ((r5.drop 1).drop 2) 0).toList)
 else
  kr (.inr (!((V.nth r4 0).toBool),(V.nth (r4.drop 1) 0).toInt,(V.nth ((r4.drop 1).drop 1) 0).toInt,(V.nth (((r4.drop 1).drop 2).drop 1) 0).toList,(V.nth ((((r4.drop 1).drop 2).drop 1).drop 1) 0).toList,(V.nth ((r4.drop 1).drop 2) 0).toList))
noncomputable def w8 (C:af) (lS lT:Int) (aI aQ:LV):=un fun bZ=>un fun ch=>un fun aW=>un fun aV aF=>AX C lS lT aI aQ bZ ch aW aV aF (fun y=>some (Sum.inl y)) (fun r=>some (Sum.inr r))
noncomputable def asn (C:af):cL:=bR 81 UH [EQ,EQ,H1,H1,EQ,EQ,H1,H1,H1] [[0,0,0,0,0],[0,1,2,0,0,5,6,0,0,0]] (@AX C) bH
theorem aso (C:af):bA C (asn C) 19 (Lp [1,1,1,0,0,0] 19):=bS UH [EQ,EQ,H1,H1,EQ,EQ,H1,H1,H1] [[0,0,0,0,0],[0,1,2,0,0,5,6,0,0,0]] (@AX C) (bu av)
noncomputable def afv (C:af) (tS tT:Int) (tU:LV) (aR:Int):Option LV:=
 (C TO [V.int .i64 tS,V.int .i64 tT,.list cx tU,V.int .i64 aR]).bind fun r1=>
 bif (((V.nth r1 0).toInt):Int) != 0 then
  some [V.int .i64 0,V.int .i64 0,V.int .i64 ((V.nth r1 0).toInt),.list ak ([]:LV),.list ag ([]:LV)]
 else
  (C TQ [V.int .i64 tS,V.int .i64 tT,.list cx tU]).bind fun r2=>
  (C TP [V.int .i64 ((V.nth r2 0).toInt),V.int .i64 ((V.nth (r2.drop 1) 0).toInt),.list cx ((V.nth ((r2.drop 1).drop 1) 0).toList),V.int .i64 aR]).bind fun r3=>
  (Loop (w8 C 0 0 ([]:LV) ([]:LV)) ((V.nth r3 0).toInt,(V.nth (r3.drop 1) 0).toInt,(V.nth (r3.drop 2) 0).toList,(V.nth ((r3.drop 2).drop 1) 0).toList,(V.nth (((r3.drop 2).drop 1).drop 1) 0).toList)).bind (fX (un fun j5=>un fun VZ=>un fun asp=>un fun (zT:LV) (rE:LV)=>
   some [V.int .i64 VZ,V.int .i64 asp,V.int .i64 j5,.list ak zT,.list ag rE]) (un fun (zQ:Bool)=>un fun V0=>un fun V1=>un fun (qk:LV)=>un fun (wg:LV) (zR:LV)=>
   (C TS [V.int .i64 V0,V.int .i64 V1,.list cx qk,.list ag wg,.list cJ zR]).bind fun OJ=>
   some [V.int .i64 ((V.nth OJ 0).toInt),V.int .i64 ((V.nth (OJ.drop 1) 0).toInt),V.int .i64 0,.list ak ((V.nth (((OJ.drop 2).drop 2).drop 1) 0).toList),.list ag ((V.nth ((((OJ.drop 2).drop 2).drop 1).drop 1) 0).toList)]))
theorem asq {tS tT:Int} {tU:LV} {aR:Int} {r:Option LV} (h:afv CC tS tT tU aR=r):CC NG [V.int .i64 tS,V.int .i64 tT,.list cx tU,V.int .i64 aR]=r:=bI (bB (aso CC) av) h
noncomputable def asr (C:af) (bZ ch:Int) (ba aI aQ:LV):Option LV:=
 some [.bool (ch==(ba.length:Int)),V.int .i64 bZ,V.int .i64 ch,.list cJ aQ,.list cx ba,.list ag aI]
theorem OK {bZ ch:Int} {ba aI aQ:LV} {r:Option LV} (h:asr CC bZ ch ba aI aQ=r):CC TR [V.int .i64 bZ,V.int .i64 ch,.list cx ba,.list ag aI,.list cJ aQ]=r:=bI (L:=bH) av h
noncomputable def w9 (C:af) (t16 t17 bZ ch:Int) (aQ rows aV aF:LV) {β:Type} (kn:(Int×Int×Int×LV×LV×LV×LV)→Option β) (kr:((Int×Int×Int×LV×LV×LV) ⊕ (Int×Bool×Int×Int×LV×LV×LV×LV))→Option β):Option β:=
 bif decide (t17<t16) then
  aM aV ch fun x1=>
  (C yA [V.int .i64 ((x1.cell 0).toInt),V.int .i64 ((x1.cell 1).toInt),.list cx ((x1.cell 2).toList),V.int .i64 t17]).bind fun r2=>
  bif (((V.nth (r2.drop 3) 0).toInt):Int) != 0 then
  kr (.inl ((V.nth (r2.drop 3) 0).toInt,bZ,ch,aQ,aV,aF))
  else
  (C yB [V.int .i64 ((V.nth r2 0).toInt),V.int .i64 ((V.nth (r2.drop 1) 0).toInt),.list cx ((V.nth ((r2.drop 1).drop 1) 0).toList)]).bind fun r3=>
  bif Nat.ble (((V.nth r3 0).toStr).length) maxLen&&true then
   bif !(gg (.str ((V.nth r3 0).toStr)) aQ) then
   bif (aV.length:Int)==512 then
    kr (.inl (3,bZ,ch,aQ,aV,aF))
   else
    (C NK [V.int .i64 ((V.nth r2 0).toInt),V.int .i64 ((V.nth (r2.drop 1) 0).toInt),.list cx ((V.nth ((r2.drop 1).drop 1) 0).toList),V.int .i64 bZ,V.int .i64 ch,.list cx aV,.list ag aF,.list cJ aQ]).bind fun r4=>
    aM rows t17 fun x5=>
    kn (wrap .i64 (t17+1),(V.nth (r4.drop 1) 0).toInt,(V.nth ((r4.drop 1).drop 1) 0).toInt,(V.nth ((r4.drop 1).drop 2) 0).toList,bm rows t17 (V.int .i64 ((V.nth r4 0).toInt)),(V.nth (((r4.drop 1).drop 2).drop 1) 0).toList,(V.nth ((((r4.drop 1).drop 2).drop 1).drop 1) 0).toList)
   else
   aM rows t17 fun x6=>
   kn (wrap .i64 (t17+1),bZ,ch,aQ,bm rows t17 (V.int .i64 ((jX (.str ((V.nth r3 0).toStr)) aQ (V.int .i64 0)).toInt)),aV,aF)
  else none
 else
  kr (.inr (t17,decide (t17<t16),bZ,ch,aQ,rows,aV,aF))
noncomputable def rF (C:af) (t16:Int):=un fun t17=>un fun bZ=>un fun ch=>un fun aQ=>un fun rows=>un fun aV aF=>w9 C t16 t17 bZ ch aQ rows aV aF (fun y=>some (Sum.inl y)) (fun r=>some (Sum.inr r))
noncomputable def ass (C:af):cL:=bR 49 UO [EQ,H1,H1,H1,H1,H1,H1,H1] [[0,0,0,0,0,0],[1,0,0,0,0,0,0,0,0]] (@w9 C) bH
theorem ast (C:af):bA C (ass C) 38 (Lp [1,1,0,1,0,0] 38):=bS UO [EQ,H1,H1,H1,H1,H1,H1,H1] [[0,0,0,0,0,0],[1,0,0,0,0,0,0,0,0]] (@w9 C) (bu av)
noncomputable def OL (C:af) (bZ ch:Int) (ba aI aQ:LV):Option LV:=
 bif (decide (0≤bZ))&&((decide (bZ≤bZ))&&(Nat.ble ((bZ.toNat)*8) aY)) then
  (Loop (rF C ((List.replicate (bZ.toNat) (V.int .i64 0)).length:Int)) (0,bZ,ch,aQ,List.replicate (bZ.toNat) (V.int .i64 0),ba,aI)).bind (fX (un fun oD=>un fun C4=>un fun zT=>un fun (rE:LV)=>un fun (AY:LV) (V2:LV)=>
   some [V.int .i64 oD,V.int .i64 C4,V.int .i64 zT,.list cJ rE,.list cx AY,.list ag V2]) (un fun C6=>un fun (wi:Bool)=>un fun Ix=>un fun Iy=>un fun (qj:LV)=>un fun (afw:LV)=>un fun (rf:LV) (ql:LV)=>
   bif Nat.ble ((ql.length+([.list ab afw]:LV).length)*24) aY then
   some [V.int .i64 0,V.int .i64 Ix,V.int .i64 (wrap .i64 (Iy+1)),.list cJ qj,.list cx rf,.list ag (ql++([.list ab afw]:LV))]
   else none))
 else none
theorem V3 {bZ ch:Int} {ba aI aQ:LV} {r:Option LV} (h:OL CC bZ ch ba aI aQ=r):CC DO [V.int .i64 bZ,V.int .i64 ch,.list cx ba,.list ag aI,.list cJ aQ]=r:=bI (bB (ast CC) av) h
noncomputable def afx (C:af):Option LV:=
 (C DN [V.int .i64 0]).bind fun r1=>
 (C DN [V.int .i64 1]).bind fun r2=>
 (C NH [V.int .i64 5,.list cx ([.agg [V.int .i64 ((V.nth r1 0).toInt),V.int .i64 ((V.nth (r1.drop 1) 0).toInt),.list cx ((V.nth (r1.drop 2) 0).toList)],.agg [V.int .i64 ((V.nth r2 0).toInt),V.int .i64 ((V.nth (r2.drop 1) 0).toInt),.list cx ((V.nth (r2.drop 2) 0).toList)]]:LV)]).bind fun r3=>
 (C NH [V.int .i64 7,.list cx ([.agg [V.int .i64 ((V.nth r3 0).toInt),V.int .i64 ((V.nth (r3.drop 1) 0).toInt),.list cx ((V.nth ((r3.drop 1).drop 1) 0).toList)]]:LV)]).bind fun r4=>
 (C NG [V.int .i64 ((V.nth r4 0).toInt),V.int .i64 ((V.nth (r4.drop 1) 0).toInt),.list cx ((V.nth ((r4.drop 1).drop 1) 0).toList),V.int .i64 2]).bind fun r5=>
 bif (((V.nth (r5.drop 2) 0).toInt):Int)==0 then
  (C uD [V.int .i64 ((V.nth r5 0).toInt),V.int .i64 ((V.nth (r5.drop 1) 0).toInt),.list ak ((V.nth (r5.drop 3) 0).toList),.list ag ((V.nth ((r5.drop 3).drop 1) 0).toList)]).bind fun r6=>
  bif ((((V.nth (r6.drop 2) 0).toList).length:Int):Int)==3 then
  (C DN [V.int .i64 0]).bind fun r7=>
  (C TN [V.int .i64 ((V.nth r7 0).toInt),V.int .i64 ((V.nth (r7.drop 1) 0).toInt),.list cx ((V.nth (r7.drop 2) 0).toList),.str [97]]).bind fun r8=>
  some [.bool ((V.nth r8 0).toBool)]
  else
  some [.bool false]
 else
  some [.bool false]
theorem asu {r:Option LV} (h:afx CC=r):CC yi []=r:=bI (L:=bH) av h
def kA:V:= .list cx [.agg [.int .i64 5,.int .i64 0,.list cx [.agg [.int .i64 3,.int .i64 0,.list cx []],.agg [.int .i64 3,.int .i64 1,.list cx []]]]]
def kB:V:= .list cx [.agg [.int .i64 3,.int .i64 1,.list cx []],.agg [.int .i64 7,.int .i64 0,kA]]
def kE:LV:=[.agg [.int .i64 7,.int .i64 0,kA],.agg [.int .i64 5,.int .i64 0,kB],.agg [.int .i64 1,.int .i64 0,.list cx []]]
def kM:LV:=[.bd [.str [40,97,98,41,42],.int .i64 0],.bd [.str [98,40,97,98,41,42],.int .i64 1],.bd [.str [48],.int .i64 2]]
def kF:V:= .list ak [.bool true,.bool false,.bool false]
def kN:V:= .list ag [.list ab [.int .i64 1,.int .i64 2],.list ab [.int .i64 2,.int .i64 0],.list ab [.int .i64 2,.int .i64 2]]
theorem asv:CC TO [.int .i64 7,.int .i64 0,kA,.int .i64 2]=some [.int .i64 0]:=aG (N:=60) (n:=30) (by kernel_rfl)
theorem asw:CC TQ [.int .i64 7,.int .i64 0,kA]=some [.int .i64 7,.int .i64 0,kA]:=aG (N:=60) (n:=30) (by kernel_rfl)
theorem asx:CC TP [.int .i64 7,.int .i64 0,kA,.int .i64 2]=some [.int .i64 2,.int .i64 0,.list cx [.agg [.int .i64 7,.int .i64 0,kA]],.list ag [],.list cJ [.bd [.str [40,97,98,41,42],.int .i64 0]]]:=aG (N:=60) (n:=30) (by kernel_rfl)
theorem asy:CC yA [.int .i64 7,.int .i64 0,kA,.int .i64 0]=some [.int .i64 5,.int .i64 0,kB,.int .i64 0]:=aG (N:=60) (n:=30) (by kernel_rfl)
theorem asz:CC yB [.int .i64 5,.int .i64 0,kB]=some [.str [98,40,97,98,41,42]]:=aG (N:=60) (n:=30) (by kernel_rfl)
theorem asA:CC NK [.int .i64 5,.int .i64 0,kB,.int .i64 2,.int .i64 0,.list cx [.agg [.int .i64 7,.int .i64 0,kA]],.list ag [],.list cJ [.bd [.str [40,97,98,41,42],.int .i64 0]]]=some [.int .i64 1,.int .i64 2,.int .i64 0,.list cJ [.bd [.str [40,97,98,41,42],.int .i64 0],.bd [.str [98,40,97,98,41,42],.int .i64 1]],.list cx [.agg [.int .i64 7,.int .i64 0,kA],.agg [.int .i64 5,.int .i64 0,kB]],.list ag []]:=aG (N:=60) (n:=30) (by kernel_rfl)
theorem asB:CC yA [.int .i64 7,.int .i64 0,kA,.int .i64 1]=some [.int .i64 1,.int .i64 0,.list cx [],.int .i64 0]:=aG (N:=60) (n:=30) (by kernel_rfl)
theorem asC:CC yB [.int .i64 1,.int .i64 0,.list cx []]=some [.str [48]]:=aG (N:=60) (n:=30) (by kernel_rfl)
theorem asD:CC NK [.int .i64 1,.int .i64 0,.list cx [],.int .i64 2,.int .i64 0,.list cx [.agg [.int .i64 7,.int .i64 0,kA],.agg [.int .i64 5,.int .i64 0,kB]],.list ag [],.list cJ [.bd [.str [40,97,98,41,42],.int .i64 0],.bd [.str [98,40,97,98,41,42],.int .i64 1]]]=some [.int .i64 2,.int .i64 2,.int .i64 0,.list cJ kM,.list cx kE,.list ag []]:=aG (N:=60) (n:=30) (by kernel_rfl)
theorem asE:CC DO [.int .i64 2,.int .i64 0,.list cx [.agg [.int .i64 7,.int .i64 0,kA]],.list ag [],.list cJ [.bd [.str [40,97,98,41,42],.int .i64 0]]]=some [.int .i64 0,.int .i64 2,.int .i64 1,.list cJ kM,.list cx kE,.list ag [.list ab [.int .i64 1,.int .i64 2]]]:=by
 have h1:rF CC 2 (0,2,0,[.bd [.str [40,97,98,41,42],.int .i64 0]],[.int .i64 0,.int .i64 0],[.agg [.int .i64 7,.int .i64 0,kA]],[])=some (.inl (1,2,0,[.bd [.str [40,97,98,41,42],.int .i64 0],.bd [.str [98,40,97,98,41,42],.int .i64 1]],[.int .i64 1,.int .i64 0],[.agg [.int .i64 7,.int .i64 0,kA],.agg [.int .i64 5,.int .i64 0,kB]],[])):=by simp only[rF,w9,un,aM];exact bT rfl (bT rfl (bs rfl (bs asy (bF rfl (bs asz (bT rfl (bT rfl (bF rfl (bs asA (bT rfl (bs rfl rfl)))))))))))
 have h2:rF CC 2 (1,2,0,[.bd [.str [40,97,98,41,42],.int .i64 0],.bd [.str [98,40,97,98,41,42],.int .i64 1]],[.int .i64 1,.int .i64 0],[.agg [.int .i64 7,.int .i64 0,kA],.agg [.int .i64 5,.int .i64 0,kB]],[])=some (.inl (2,2,0,kM,[.int .i64 1,.int .i64 2],kE,[])):=by simp only[rF,w9,un,aM];exact bT rfl (bT rfl (bs rfl (bs asB (bF rfl (bs asC (bT rfl (bT rfl (bF rfl (bs asD (bT rfl (bs rfl rfl)))))))))))
 refine V3 ?_;unfold OL;exact bT rfl (bs ((jd h1).trans ((jd h2).trans (kR rfl))) rfl)
theorem asF:CC yA [.int .i64 5,.int .i64 0,kB,.int .i64 0]=some [.int .i64 1,.int .i64 0,.list cx [],.int .i64 0]:=aG (N:=60) (n:=30) (by kernel_rfl)
theorem asG:CC yB [.int .i64 1,.int .i64 0,.list cx []]=some [.str [48]]:=aG (N:=60) (n:=30) (by kernel_rfl)
theorem asH:CC yA [.int .i64 5,.int .i64 0,kB,.int .i64 1]=some [.int .i64 7,.int .i64 0,kA,.int .i64 0]:=aG (N:=60) (n:=30) (by kernel_rfl)
theorem asI:CC yB [.int .i64 7,.int .i64 0,kA]=some [.str [40,97,98,41,42]]:=aG (N:=60) (n:=30) (by kernel_rfl)
theorem asJ:CC DO [.int .i64 2,.int .i64 1,.list cx kE,.list ag [.list ab [.int .i64 1,.int .i64 2]],.list cJ kM]=some [.int .i64 0,.int .i64 2,.int .i64 2,.list cJ kM,.list cx kE,.list ag [.list ab [.int .i64 1,.int .i64 2],.list ab [.int .i64 2,.int .i64 0]]]:=by
 have h1:rF CC 2 (0,2,1,kM,[.int .i64 0,.int .i64 0],kE,[.list ab [.int .i64 1,.int .i64 2]])=some (.inl (1,2,1,kM,[.int .i64 2,.int .i64 0],kE,[.list ab [.int .i64 1,.int .i64 2]])):=by simp only[rF,w9,un,aM];exact bT rfl (bT rfl (bs rfl (bs asF (bF rfl (bs asG (bT rfl (bF rfl (bT rfl (bs rfl rfl)))))))))
 have h2:rF CC 2 (1,2,1,kM,[.int .i64 2,.int .i64 0],kE,[.list ab [.int .i64 1,.int .i64 2]])=some (.inl (2,2,1,kM,[.int .i64 2,.int .i64 0],kE,[.list ab [.int .i64 1,.int .i64 2]])):=by simp only[rF,w9,un,aM];exact bT rfl (bT rfl (bs rfl (bs asH (bF rfl (bs asI (bT rfl (bF rfl (bT rfl (bs rfl rfl)))))))))
 refine V3 ?_;unfold OL;exact bT rfl (bs ((jd h1).trans ((jd h2).trans (kR rfl))) rfl)
theorem asK:CC yA [.int .i64 1,.int .i64 0,.list cx [],.int .i64 0]=some [.int .i64 1,.int .i64 0,.list cx [],.int .i64 0]:=aG (N:=60) (n:=30) (by kernel_rfl)
theorem asL:CC yB [.int .i64 1,.int .i64 0,.list cx []]=some [.str [48]]:=aG (N:=60) (n:=30) (by kernel_rfl)
theorem asM:CC yA [.int .i64 1,.int .i64 0,.list cx [],.int .i64 1]=some [.int .i64 1,.int .i64 0,.list cx [],.int .i64 0]:=aG (N:=60) (n:=30) (by kernel_rfl)
theorem asN:CC yB [.int .i64 1,.int .i64 0,.list cx []]=some [.str [48]]:=aG (N:=60) (n:=30) (by kernel_rfl)
theorem asO:CC DO [.int .i64 2,.int .i64 2,.list cx kE,.list ag [.list ab [.int .i64 1,.int .i64 2],.list ab [.int .i64 2,.int .i64 0]],.list cJ kM]=some [.int .i64 0,.int .i64 2,.int .i64 3,.list cJ kM,.list cx kE,kN]:=by
 have h1:rF CC 2 (0,2,2,kM,[.int .i64 0,.int .i64 0],kE,[.list ab [.int .i64 1,.int .i64 2],.list ab [.int .i64 2,.int .i64 0]])=some (.inl (1,2,2,kM,[.int .i64 2,.int .i64 0],kE,[.list ab [.int .i64 1,.int .i64 2],.list ab [.int .i64 2,.int .i64 0]])):=by simp only[rF,w9,un,aM];exact bT rfl (bT rfl (bs rfl (bs asK (bF rfl (bs asL (bT rfl (bF rfl (bT rfl (bs rfl rfl)))))))))
 have h2:rF CC 2 (1,2,2,kM,[.int .i64 2,.int .i64 0],kE,[.list ab [.int .i64 1,.int .i64 2],.list ab [.int .i64 2,.int .i64 0]])=some (.inl (2,2,2,kM,[.int .i64 2,.int .i64 2],kE,[.list ab [.int .i64 1,.int .i64 2],.list ab [.int .i64 2,.int .i64 0]])):=by simp only[rF,w9,un,aM];exact bT rfl (bT rfl (bs rfl (bs asM (bF rfl (bs asN (bT rfl (bF rfl (bT rfl (bs rfl rfl)))))))))
 refine V3 ?_;unfold OL;exact bT rfl (bs ((jd h1).trans ((jd h2).trans (kR rfl))) rfl)
theorem asP:CC TS [.int .i64 2,.int .i64 3,.list cx kE,kN,.list cJ kM]=some [.int .i64 2,.int .i64 0,.int .i64 2,.int .i64 3,.list cJ kM,kF,kN,.list cx kE]:=aG (N:=60) (n:=30) (by kernel_rfl)
theorem asQ:CC NG [.int .i64 7,.int .i64 0,kA,.int .i64 2]=some [.int .i64 2,.int .i64 0,.int .i64 0,kF,kN]:=by
 have b1:w8 CC 0 0 [] [] (2,0,[.agg [.int .i64 7,.int .i64 0,kA]],[],[.bd [.str [40,97,98,41,42],.int .i64 0]])=some (.inl (2,1,kE,[.list ab [.int .i64 1,.int .i64 2]],kM)):=by simp only[w8,AX,un];exact bs (OK rfl) (bT rfl (bs asE (bF rfl rfl)))
 have b2:w8 CC 0 0 [] [] (2,1,kE,[.list ab [.int .i64 1,.int .i64 2]],kM)=some (.inl (2,2,kE,[.list ab [.int .i64 1,.int .i64 2],.list ab [.int .i64 2,.int .i64 0]],kM)):=by simp only[w8,AX,un];exact bs (OK rfl) (bT rfl (bs asJ (bF rfl rfl)))
 have b3:w8 CC 0 0 [] [] (2,2,kE,[.list ab [.int .i64 1,.int .i64 2],.list ab [.int .i64 2,.int .i64 0]],kM)=some (.inl (2,3,kE,[.list ab [.int .i64 1,.int .i64 2],.list ab [.int .i64 2,.int .i64 0],.list ab [.int .i64 2,.int .i64 2]],kM)):=by simp only[w8,AX,un];exact bs (OK rfl) (bT rfl (bs asO (bF rfl rfl)))
 have b4:w8 CC 0 0 [] [] (2,3,kE,[.list ab [.int .i64 1,.int .i64 2],.list ab [.int .i64 2,.int .i64 0],.list ab [.int .i64 2,.int .i64 2]],kM)=some (.inr (.inr (false,2,3,kE,[.list ab [.int .i64 1,.int .i64 2],.list ab [.int .i64 2,.int .i64 0],.list ab [.int .i64 2,.int .i64 2]],kM))):=by simp only[w8,AX,un];exact bs (OK rfl) (bF rfl rfl)
 refine asq ?_;unfold afv;refine bs asv (bF rfl (bs asw (bs asx (bs ((jd b1).trans ((jd b2).trans ((jd b3).trans (kR b4)))) ?_))));exact bs asP rfl
theorem asR:CC uD [.int .i64 2,.int .i64 0,kF,kN]=some [.int .i64 2,.int .i64 0,kF,kN]:=aG (N:=60) (n:=30) (by kernel_rfl)
theorem asS:CC TN [.int .i64 3,.int .i64 0,.list cx [],.str [97]]=some [.bool true]:=aG (N:=60) (n:=30) (by kernel_rfl)
theorem G3:CC yi []=some [.bool true]:=by
 have hl: ∀x,CC DN [.int .i64 x]=some [.int .i64 3,.int .i64 x,.list cx []]:=fun x=>asl rfl;refine asu ?_;unfold afx;refine bs (hl 0) (bs (hl 1) (bs (afu rfl) (bs (afu rfl) (bs asQ (bT rfl (bs asR (bT rfl (bs (hl 0) (bs asS rfl)))))))))
end Go.AM
set_option maxRecDepth 100000
namespace Go.AM
open Go.IntKind (wrap)
theorem cE {α:Type} {l:List α} {i:Nat} {d:α} (h:i<l.length):l.getD i d=l[i]:=by simp[h]
structure Da where
 L:Nat
 st:Nat
 F:List Bool
 N:List (List Nat)
deriving DecidableEq
namespace Da
def n (d:Da):Nat:=d.F.length
def nx (d:Da) (q x:Nat):Nat:=(d.N.getD q []).getD x 0
def fin (d:Da) (q:Nat):Bool:=d.F.getD q false
def run (d:Da) (q:Nat) (w:List Nat):Nat:=w.foldl d.nx q
def acc (d:Da) (q:Nat) (w:List Nat):Bool:=d.fin (d.run q w)
structure Ok (d:Da):Prop where
 l1:1≤d.L
 l6:d.L≤6
 nN:d.N.length=d.n
 row: ∀r∈d.N,r.length=d.L∧∀q∈r,q<d.n
 s:d.st<d.n
 eb:d.n≤512
end Da
def WL (L:Nat) (w:List Nat):Prop:= ∀x∈w,x<L
theorem WL.nil {L:Nat}:WL L []:=fun _ h=>by cases h
theorem WL.cons {L x:Nat} {w:List Nat} (h:x<L) (hw:WL L w):WL L (x::w):=fun y hy=>by
 rcases fl.1 hy with rfl|hy
 ·exact h
 ·exact hw y hy
theorem WL.head {L x:Nat} {w:List Nat} (h:WL L (x::w)):x<L:=h x (by simp)
theorem WL.tail {L x:Nat} {w:List Nat} (h:WL L (x::w)):WL L w:=fun y hy=>h y (by simp[hy])
theorem WL.app {L:Nat} {v w:List Nat}:WL L (v++w)↔WL L v∧WL L w:=by
 unfold WL;simp only[fj];exact ⟨fun h=>⟨fun x hx=>h x (.inl hx),fun x hx=>h x (.inr hx)⟩,fun h x hx=>hx.elim (h.1 x) (h.2 x)⟩
namespace Da
def sD (d:Da) (q:Nat) (d':Da) (q':Nat):Prop:= ∀w,WL d.L w→d.acc q w=d'.acc q' w
theorem Ok.lh {d:Da} (h:d.Ok) {q x:Nat} (hq:q<d.n) (hx:x<d.L):d.nx q x<d.n:=by
 have dz:q<d.N.length:=by rw[h.nN];exact hq
 have hr:=h.row d.N[q] (dc dz);unfold nx;rw[cE dz,cE (by omega)];exact hr.2 _ (dc _)
theorem Ok.yb {d:Da} (h:d.Ok): ∀(w:List Nat) {q:Nat},q<d.n→WL d.L w→d.run q w<d.n
 | [],q,hq,_=>hq
 | x::w,q,hq,hw=>h.yb w (h.lh hq hw.head) hw.tail
theorem afy {d:Da} {q x:Nat} {w:List Nat}:d.run q (x::w)=d.run (d.nx q x) w:=rfl
theorem OM {d:Da} {q x:Nat} {w:List Nat}:d.acc q (x::w)=d.acc (d.nx q x) w:=rfl
theorem Zh {d:Da} {q:Nat} {v w:List Nat}:d.run q (v++w)=d.run (d.run q v) w:=BO
theorem CO {d:Da} {q:Nat} {v w:List Nat}:d.acc q (v++w)=d.acc (d.run q v) w:=by unfold acc;rw[Zh]
theorem vi {d:Da} {q:Nat}:d.acc q []=d.fin q:=rfl
theorem sD.nx {d d':Da} {q q' x:Nat} (h:d.sD q d' q') (hx:x<d.L):d.sD (d.nx q x) d' (d'.nx q' x):=fun w hw=>h (x::w) (hw.cons hx)
def pos (d:Da) (t:Nat):Nat:=d.nx (t/d.L) (t %d.L)
def mt (d:Da):Nat→Nat
 | 0=>1
 | t+1=>if d.pos t=d.mt t then d.mt t+1 else d.mt t
structure LH (d:Da):Prop where
 le: ∀t,t<d.n*d.L→d.pos t≤d.mt t
 row: ∀q,q<d.n→q<d.mt (q*d.L)
 all:d.mt (d.n*d.L)=d.n
structure Canon (d:Da) (L:Nat) (K:List Nat→Bool):Prop where
 ok:d.Ok
 hL:d.L=L
 st:d.st=0
 num:d.LH
 red: ∀p q,p<d.n→q<d.n→d.sD p d q→p=q
 Eh: ∀w,WL L w→d.acc 0 w=K w
theorem LI (d:Da): ∀{s t:Nat},s≤t→d.mt s≤d.mt t:=by
 intro s t h
 induction t with
 | zero=>rw[xr.1 h];exact aw _
 | succ t ih=>
  rcases jD s (t+1) with h1|h1
  ·have:=ih (by omega);have e:d.mt (t+1)=if d.pos t=d.mt t then d.mt t+1 else d.mt t:=rfl
   rw[e];split<;>omega
  ·rw[show s=t+1 by omega];exact aw _
theorem V4 {d d':Da} {K:List Nat→Bool} {L:Nat} (h:d.Canon L K) (h':d'.Canon L K): ∀t,t≤d.n*L→t≤d'.n*L→d.mt t=d'.mt t∧(∀s,s<t→d.pos s=d'.pos s)∧∀q,q<d.mt t→d.sD q d' q:=by
 intro t;have e:=h.hL;have e':=h'.hL;have hl:=h.ok.l1
 induction t with
 | zero=>
  intro _ _;refine ⟨rfl,fun s hs=>by omega,fun q hq=> ?_⟩;obtain rfl:q=0:=by have:q<1:=hq;omega
  intro w hw;rw[h.Eh w (e▸hw),h'.Eh w (e▸hw)]
 | succ t ih=>
  intro h1 h2;obtain ⟨i1,i2,i3⟩:=ih (by omega) (by omega);have hm:d.mt t≤d.n:=by rw[←h.num.all];exact d.LI (by rw[e];omega)
  have KV:d'.mt t≤d'.n:=by rw[←h'.num.all];exact d'.LI (by rw[e'];omega)
  have hq:t/L<d.n:=by rw[Kf (by omega)];omega
  have dz:t/L<d'.n:=by rw[Kf (by omega)];omega
  have hx:t %L<L:=yY _ (by omega);have hqm:t/L<d.mt t:=by
   have a:=h.num.row _ hq;rw[e] at a;have b:d.mt (t/L*L)≤d.mt t:=d.LI (Nat.div_mul_le_self t L);omega
  have hE:=(i3 _ hqm).nx (by rw[e];exact hx);have p1:d.pos t=d.nx (t/L) (t %L):=by unfold pos;rw[e]
  have p2:d'.pos t=d'.nx (t/L) (t %L):=by unfold pos;rw[e']
  rw[←p1,←p2] at hE;have l1:=h.num.le t (by rw[e];omega);have l2:=h'.num.le t (by rw[e'];omega);have b1:d.pos t<d.n:=by rw[p1];exact h.ok.lh hq (by rw[e];exact hx)
  have b2:d'.pos t<d'.n:=by rw[p2];exact h'.ok.lh dz (by rw[e'];exact hx)
  have key:d.pos t=d'.pos t:=by
   rcases jD (d.pos t) (d.mt t) with c|c
   ·have hA:=i3 _ c;refine h'.red _ _ (by omega) b2 fun w hw=> ?_;have CB:WL d.L w:=by rw[e,←e'];exact hw
    rw[←hA w CB,hE w CB]
   ·rcases jD (d'.pos t) (d.mt t) with c'|c'
    ·have hA:=i3 _ c';refine h.red _ _ b1 (by omega) fun w hw=> ?_;rw[hE w hw,hA w hw]
    ·omega
  refine ⟨?_,?_,?_⟩
  ·unfold mt;rw[key,i1]
  ·intro s hs;rcases jD s t with c|c
   ·exact i2 s c
   ·rw[show s=t by omega];exact key
  ·intro q wu;rcases jD q (d.mt t) with c|c
   ·exact i3 q c
   ·have:d.pos t=d.mt t∧q=d.mt t:=by
     unfold mt at wu;split at wu
     ·rename_i h3;exact ⟨h3,by omega⟩
     ·omega
    rw[←key,this.1,←this.2] at hE;exact hE
theorem asT {a b:List Nat} (hl:a.length=b.length) (h: ∀x,x<a.length→a.getD x 0=b.getD x 0):a=b:=by
 refine sK hl fun x h1 h2=> ?_;have:=h x h1;rwa [cE h1,cE h2] at this
theorem V5 {d:Da} (h:d.Ok) {q:Nat} (hq:q<d.n):(d.N.getD q []).length=d.L:=by
 have dz:q<d.N.length:=by rw[h.nN];exact hq
 rw[cE dz];exact (h.row _ (dc dz)).1
theorem Canon.eq {d d':Da} {K:List Nat→Bool} {L:Nat} (h:d.Canon L K) (h':d'.Canon L K):d=d':=by
 have e:=h.hL;have e':=h'.hL;have hl:=h.ok.l1;rw[e] at hl;have hn:d.n=d'.n:=by
  rcases Nat.lt_trichotomy d.n d'.n with c|c|c
  ·obtain ⟨s1,_,_⟩:=V4 h h' (d.n*L) (aw _) (eI _ (by omega));have a:=h.num.all;have b:=h'.num.row d.n c;rw[e] at a;rw[e'] at b;omega
  ·exact c
  ·obtain ⟨s1,_,_⟩:=V4 h h' (d'.n*L) (eI _ (by omega)) (aw _);have a:=h'.num.all;have b:=h.num.row d'.n c;rw[e'] at a;rw[e] at b;omega
 obtain ⟨s1,s2,s3⟩:=V4 h h' (d.n*L) (aw _) (by rw[hn];exact aw _);have a:=h.num.all;rw[e] at a;have hE: ∀q,q<d.n→d.sD q d' q:=fun q hq=>s3 q (by omega);have hP: ∀q x,q<d.n→x<L→d.nx q x=d'.nx q x:=fun q x hq hx=>by
  have:=s2 (q*L+x) (by
   have:(q+1)*L≤d.n*L:=eI _ (by omega);rw[jn] at this;omega)
  unfold pos at this;rw[e,e'] at this;rwa [show (q*L+x)/L=q by rw[xo,Nat.mul_add_div (by omega),Nat.div_eq_of_lt hx];rfl,show (q*L+x) %L=x by rw[xo,Nat.mul_add_mod,Nat.mod_eq_of_lt hx]] at this
 have hF:d.F=d'.F:=by
  refine sK hn fun q h1 h2=> ?_;have:=hE q h1 [] WL.nil;rw[vi,vi] at this;unfold fin at this;rwa [cE h1,cE h2] at this
 have hN:d.N=d'.N:=by
  refine sK (by rw[h.ok.nN,h'.ok.nN,hn]) fun q h1 h2=> ?_;have hq:q<d.n:=by rw[←h.ok.nN];exact h1
  have r1:=V5 h.ok hq;have r2:=V5 h'.ok (show q<d'.n by omega);have hx:=fun x hx=>hP q x hq hx;unfold nx at hx;rw[cE h1] at r1 hx;rw[cE h2] at r2 hx;exact asT (by omega) fun x h3=>hx x (by omega)
 obtain ⟨L1,s1,F1,N1⟩:=d;obtain ⟨L2,s2,F2,N2⟩:=d';have q1:=h.st;have q2:=h'.st;simp only at*
 subst hF hN e e' q1 q2;rfl
end Da
section
variable {α:Type} [DecidableEq α]
def cO (S:List α) (a:α):List α:=if a∈S then S else S++[a]
def cd (next:α→Nat→α) (S:List α) (a:α):Nat→List α
 | 0=>S
 | x+1=>cO (cd next S a x) (next a x)
def aC (L:Nat) (next:α→Nat→α) (a0:α):Nat→List α
 | 0=>[a0]
 | i+1=>match (aC L next a0 i)[i]? with
  | some a=>cd next (aC L next a0 i) a L
  | none=>aC L next a0 i
theorem AZ (S:List α) (a:α):S <+: cO S a:=by
 unfold cO;split
 ·exact sM _
 ·exact List.prefix_append _ _
theorem zN {S:List α} {a:α}:a∈cO S a:=by
 unfold cO;split
 ·assumption
 ·simp
theorem V6 {S:List α} {a:α} (h:S.Nodup):(cO S a).Nodup:=by
 unfold cO;split
 ·exact h
 ·rename_i h2;refine EP.2 ⟨h,by simp,fun x hx y hy e=> ?_⟩;rw[fS.1 hy] at e;exact h2 (e▸hx)
theorem Ei {S:List α} {a:α}:(cO S a).length=if a∈S then S.length else S.length+1:=by
 unfold cO;split<;>simp
variable {L:Nat} {next:α→Nat→α} {a0:α}
theorem ON (S:List α) (a:α): ∀x,S <+: cd next S a x
 | 0=>sM _
 | x+1=>(ON S a x).trans (AZ _ _)
theorem zM (S:List α) (a:α) {x y:Nat} (h:x≤y):cd next S a x <+: cd next S a y:=by
 induction y with
 | zero=>rw[xr.1 h];exact sM _
 | succ y ih=>
  rcases jD x (y+1) with c|c
  ·exact (ih (by omega)).trans (AZ _ _)
  ·rw[show x=y+1 by omega];exact sM _
theorem afz {S:List α} {a:α} (h:S.Nodup): ∀x,(cd next S a x).Nodup
 | 0=>h
 | x+1=>V6 (afz h x)
theorem afA {S:List α} {a:α} {x y:Nat} (h:x<y):next a x∈cd next S a y:=
 (zM S a (show x+1≤y by omega)).subset zN
theorem ZH {i:Nat} {a:α} (h:(aC L next a0 i)[i]? =some a):aC L next a0 (i+1)=cd next (aC L next a0 i) a L:=by
 rw[aC,h]
theorem asU {i:Nat} (h:(aC L next a0 i).length≤i):aC L next a0 (i+1)=aC L next a0 i:=by
 rw[aC,List.getElem?_eq_none h]
theorem asV (i:Nat):aC L next a0 i <+: aC L next a0 (i+1):=by
 rw[aC];split
 ·exact ON _ _ _
 ·exact sM _
theorem sh {i j:Nat} (h:i≤j):aC L next a0 i <+: aC L next a0 j:=by
 induction j with
 | zero=>rw[xr.1 h];exact sM _
 | succ j ih=>
  rcases jD i (j+1) with c|c
  ·exact (ih (by omega)).trans (asV j)
  ·rw[show i=j+1 by omega];exact sM _
theorem Ej: ∀i,(aC L next a0 i).Nodup
 | 0=>by simp[aC]
 | i+1=>by
  rw[aC];split
  ·exact afz (Ej i) _
  ·exact Ej i
theorem V7 {i j:Nat} (h:(aC L next a0 i).length≤i) (hj:i≤j):aC L next a0 j=aC L next a0 i:=by
 induction j with
 | zero=>rw[xr.1 hj]
 | succ j ih=>
  rcases jD i (j+1) with c|c
  ·rw[asU (by rw[ih (by omega)];omega),ih (by omega)]
  ·rw[show i=j+1 by omega]
theorem ZN (i:Nat):(aC L next a0 i)[0]? =some a0:=by
 have h:=sh (L:=L) (next:=next) (a0:=a0) (mi i);have h0:0<(aC L next a0 0).length:=by simp[aC]
 rw[bY (oq h0 h.length_le),←h.getElem h0];rfl
theorem GB (i:Nat):0<(aC L next a0 i).length:=oq (by simp[aC]) (sh (L:=L) (next:=next) (a0:=a0) (mi i)).length_le
theorem Iz: ∀i,∀a∈aC L next a0 i,∃w,WL L w∧a=w.foldl next a0
 | 0,a,h=>⟨[],WL.nil,by simpa[aC] using h⟩
 | i+1,a,h=>by
  rw[aC] at h;split at h
  ·rename_i b hb;have au:b∈aC L next a0 i:=mN hb
   obtain ⟨w,hw,rfl⟩:=Iz i b au;have: ∀x,x≤L→∀a∈cd next (aC L next a0 i) (w.foldl next a0) x,∃w,WL L w∧a=w.foldl next a0:=by
    intro x
    induction x with
    | zero=>intro _ a h;exact Iz i a h
    | succ x ih=>
     intro hx a h;rw[cd] at h;unfold cO at h;split at h
     ·exact ih (by omega) a h
     ·rcases fj.1 h with h|h
      ·exact ih (by omega) a h
      ·refine ⟨w++[x],WL.app.2 ⟨hw,WL.nil.cons (by omega)⟩,?_⟩;rw[fS.1 h,BO];rfl
   exact this L (aw _) a h
  ·exact Iz i a h
section
variable {k:Nat} (hd:(aC L next a0 k).length≤k)
include hd
theorem Mf {i:Nat} (h:i<(aC L next a0 k).length):i<(aC L next a0 i).length:=by
 rcases jD i (aC L next a0 i).length with c|c
 ·exact c
 ·have:=V7 c (show i≤k by omega);rw[this] at h;omega
theorem asW {i:Nat} (h:i<(aC L next a0 k).length):(aC L next a0 i)[i]? =some (aC L next a0 k)[i]:=by
 have h1:=Mf hd h;rw[bY h1,(sh (show i≤k by omega)).getElem h1]
theorem IA {i:Nat} (h:i<(aC L next a0 k).length):aC L next a0 (i+1)=cd next (aC L next a0 i) (aC L next a0 k)[i] L:=ZH (asW hd h)
theorem afB {a:α} (h:a∈aC L next a0 k) {x:Nat} (hx:x<L):next a x∈aC L next a0 k:=by
 obtain ⟨i,hi,rfl⟩:=List.getElem_of_mem h;have h1:next (aC L next a0 k)[i] x∈aC L next a0 (i+1):=by rw[IA hd hi];exact afA hx
 rcases jD i k with c|c
 ·exact (sh (show i+1≤k by omega)).subset h1
 ·omega
end
def iF (L:Nat) (next:α→Nat→α) (fin:α→Bool) (S:List α):Da where
 L:=L
 st:=0
 F:=S.map fin
 N:=S.map fun a=>(List.range L).map fun x=>S.idxOf (next a x)
theorem tv {fin:α→Bool} {S:List α}:(iF L next fin S).n=S.length:=by simp[iF,Da.n]
theorem GA {fin:α→Bool} {S:List α} {i x:Nat} (hi:i<S.length) (hx:x<L):(iF L next fin S).nx i x=S.idxOf (next S[i] x):=by
 unfold Da.nx iF;simp[rN,hi,hx]
theorem Rt {fin:α→Bool} {S:List α} {i:Nat} (hi:i<S.length):(iF L next fin S).fin i=fin S[i]:=by
 unfold Da.fin iF;simp[rN,hi]
theorem zL {S T:List α} (hp:T <+: S) {a:α} (h:a∈T):S.idxOf a=T.idxOf a:=by
 obtain ⟨U,rfl⟩:=hp;rw[BP,aB h]
section
variable {k:Nat} (hd:(aC L next a0 k).length≤k) {fin:α→Bool}
include hd
theorem asX {i x:Nat} (hi:i<(aC L next a0 k).length) (hx:x<L): ∃h:(iF L next fin (aC L next a0 k)).nx i x<(aC L next a0 k).length,(aC L next a0 k)[(iF L next fin (aC L next a0 k)).nx i x]=next (aC L next a0 k)[i] x:=by
 have hm:=afB hd (dc hi) hx;rw[GA hi hx];exact ⟨xw hm,Kl _⟩
theorem afC: ∀(w:List Nat) {i:Nat} (hi:i<(aC L next a0 k).length),WL L w→∃h:(iF L next fin (aC L next a0 k)).run i w<(aC L next a0 k).length,(aC L next a0 k)[(iF L next fin (aC L next a0 k)).run i w]=w.foldl next (aC L next a0 k)[i]
 | [],i,hi,_=>⟨hi,rfl⟩
 | x::w,i,hi,hw=>by
  obtain ⟨h1,h2⟩:=asX (fin:=fin) hd hi hw.head;obtain ⟨h3,h4⟩:=afC w h1 hw.tail;refine ⟨h3,?_⟩;rw[List.foldl_cons,←h2];exact h4
theorem ZM {w:List Nat} {i:Nat} (hi:i<(aC L next a0 k).length) (hw:WL L w):(iF L next fin (aC L next a0 k)).acc i w=fin (w.foldl next (aC L next a0 k)[i]):=by
 obtain ⟨h1,h2⟩:=afC (fin:=fin) hd w hi hw;unfold Da.acc;rw[Rt h1,h2]
theorem ZL (h1:1≤L) (h6:L≤6) (hm:(aC L next a0 k).length≤512):(iF L next fin (aC L next a0 k)).Ok where
 l1:=h1
 l6:=h6
 nN:=by rw[tv];simp[iF]
 row r hr:=by
  rw[tv];obtain ⟨a,ha,rfl⟩:=ia.1 (show r∈(aC L next a0 k).map _ from hr);refine ⟨by simp[iF],fun q hq=> ?_⟩;obtain ⟨x,hx,rfl⟩:=ia.1 hq;exact xw (afB hd ha (fK.1 hx))
 s:=by rw[tv];exact GB k
 eb:=by rw[tv];exact hm
theorem V8 (h1:1≤L): ∀i,i≤(aC L next a0 k).length→(iF L next fin (aC L next a0 k)).mt (i*L)=(aC L next a0 i).length∧∀(hi:i<(aC L next a0 k).length) x,x≤L→(iF L next fin (aC L next a0 k)).mt (i*L+x)=(cd next (aC L next a0 i) (aC L next a0 k)[i] x).length:=by
 have key: ∀i,(iF L next fin (aC L next a0 k)).mt (i*L)=(aC L next a0 i).length→∀(hi:i<(aC L next a0 k).length) x,x≤L→(iF L next fin (aC L next a0 k)).mt (i*L+x)=(cd next (aC L next a0 i) (aC L next a0 k)[i] x).length:=by
  intro i h hi x
  induction x with
  | zero=>intro _;exact h
  | succ x ih=>
   intro hx;have ih:=ih (by omega);have hp:cd next (aC L next a0 i) (aC L next a0 k)[i] (x+1) <+: aC L next a0 k:=by
    refine (zM _ _ hx).trans ?_;rw[←IA hd hi];exact sh (by omega)
   have hp0:cd next (aC L next a0 i) (aC L next a0 k)[i] x <+: aC L next a0 k:=(zM _ _ (by omega)).trans hp
   have gM:(iF L next fin (aC L next a0 k)).pos (i*L+x)=(aC L next a0 k).idxOf (next (aC L next a0 k)[i] x):=by
    unfold Da.pos;rw[show (iF L next fin (aC L next a0 k)).L=L from rfl,show (i*L+x)/L=i by rw[xo,Nat.mul_add_div (by omega),Nat.div_eq_of_lt (by omega)];rfl,show (i*L+x) %L=x by rw[xo,Nat.mul_add_mod,Nat.mod_eq_of_lt (by omega)],GA hi (by omega)]
   show (iF L next fin (aC L next a0 k)).mt ((i*L+x)+1)=_;rw[Da.mt,gM,ih,cd];rw[cd] at hp;generalize cd next (aC L next a0 i) (aC L next a0 k)[i] x=T at*
   generalize next (aC L next a0 k)[i] x=b at*
   rw[Ei];by_cases hb:b∈T
   ·rw[aB hb,zL hp0 hb,ax (by have:=xw hb;omega)]
   ·rw[ax hb];unfold cO at hp;rw[ax hb] at hp;rw[zL hp (by simp),BP,ax hb];simp
 intro i
 induction i with
 | zero=>
  intro _;have:(iF L next fin (aC L next a0 k)).mt (0*L)=(aC L next a0 0).length:=by rw[EK];rfl
  exact ⟨this,key 0 this⟩
 | succ i ih=>
  intro hi;obtain ⟨_,h3⟩:=ih (by omega);have h4:=h3 (by omega) L (aw _);rw[←IA hd (by omega),←EG] at h4;exact ⟨h4,key (i+1) h4⟩
theorem Ru:(aC L next a0 (aC L next a0 k).length)=aC L next a0 k:=by
 have hp:=sh (L:=L) (next:=next) (a0:=a0) hd;exact (V7 hp.length_le hd).symm
theorem asY (h1:1≤L):(iF L next fin (aC L next a0 k)).LH where
 le t ht:=by
  rw[tv] at ht;have hq:t/L<(aC L next a0 k).length:=by rw[Kf (by omega)];exact ht
  have hx:t %L<L:=yY _ (by omega);have ML:t/L*L+t %L=t:=Nat.div_add_mod' t L;have h2:=(V8 (fin:=fin) hd h1 (t/L) (by omega)).2 hq (t %L) (by omega);rw[ML] at h2;rw[h2];unfold Da.pos;rw[show (iF L next fin (aC L next a0 k)).L=L from rfl,GA hq hx];have hp:cd next (aC L next a0 (t/L)) (aC L next a0 k)[t/L] (t %L+1) <+: aC L next a0 k:=by
   refine (zM _ _ (show t %L+1≤L by omega)).trans ?_;rw[←IA hd hq];exact sh (by omega)
  rw[cd] at hp;generalize cd next (aC L next a0 (t/L)) (aC L next a0 k)[t/L] (t %L)=T at*
  generalize next (aC L next a0 k)[t/L] (t %L)=b at*
  rw[zL hp zN];have:=xw (zN (S:=T) (a:=b));rw[Ei] at this;split at this<;>omega
 row q hq:=by
  rw[tv] at hq;rw[show (iF L next fin (aC L next a0 k)).L=L from rfl,(V8 hd h1 q (by omega)).1];exact Mf hd hq
 all:=by
  rw[tv,show (iF L next fin (aC L next a0 k)).L=L from rfl,(V8 hd h1 _ (aw _)).1,Ru hd]
end
theorem afD {U:List α} (h0:a0∈U) (hU: ∀a∈U,∀x,x<L→next a x∈U) (k:Nat):aC L next a0 k ⊆ U:=by
 intro a ha;obtain ⟨w,hw,rfl⟩:=Iz k a ha;have: ∀(w:List Nat) (b:α),b∈U→WL L w→w.foldl next b∈U:=by
  intro w
  induction w with
  | nil=>intro b hb _;exact hb
  | cons x w ih=>intro b hb hw;exact ih _ (hU b hb x hw.head) hw.tail
 exact this w a0 h0 hw
theorem ZG {U:List α} (h0:a0∈U) (hU: ∀a∈U,∀x,x<L→next a x∈U) (k:Nat):(aC L next a0 k).length≤U.length:=
 yV (Ej k) (afD h0 hU k)
end
namespace Da
def trim (d:Da):Da:=iF d.L d.nx d.fin (aC d.L d.nx d.st d.n)
theorem Ok.xb {d:Da} (h:d.Ok) (k:Nat):(aC d.L d.nx d.st k).length≤d.n:=by
 have:=ZG (L:=d.L) (next:=d.nx) (a0:=d.st) (U:=List.range d.n) (fK.2 h.s) (fun a ha x hx=>fK.2 (h.lh (fK.1 ha) hx)) k;simpa using this
theorem Ok.IB {d:Da} (h:d.Ok) (k:Nat): ∀q∈aC d.L d.nx d.st k,q<d.n:=fun q hq=>by
 have:=afD (L:=d.L) (next:=d.nx) (a0:=d.st) (U:=List.range d.n) (fK.2 h.s) (fun a ha x hx=>fK.2 (h.lh (fK.1 ha) hx)) k hq;exact fK.1 this
theorem Ok.afE {d:Da} (h:d.Ok):d.trim.Ok:=ZL (h.xb _) h.l1 h.l6 (mM (h.xb _) h.eb)
theorem Ok.V9 {d:Da} (h:d.Ok) {i:Nat} (hi:i<(aC d.L d.nx d.st d.n).length) {w:List Nat} (hw:WL d.L w):d.trim.acc i w=d.acc (aC d.L d.nx d.st d.n)[i] w:=ZM (h.xb _) hi hw
theorem Ok.afF {d:Da} (h:d.Ok) {w:List Nat} (hw:WL d.L w):d.trim.acc 0 w=d.acc d.st w:=by
 rw[h.V9 (GB _) hw];have:=ZN (L:=d.L) (next:=d.nx) (a0:=d.st) d.n;rw[bY (GB _)] at this;rw[dN this]
theorem Ok.asZ {d:Da} (h:d.Ok) (hr: ∀p q,p<d.n→q<d.n→d.sD p d q→p=q):d.trim.Canon d.L (d.acc d.st) where
 ok:=h.afE
 hL:=rfl
 st:=rfl
 num:=asY (h.xb _) h.l1
 red p q hp hq he:=by
  unfold trim at hp hq;rw[tv] at hp hq;have h1:d.sD (aC d.L d.nx d.st d.n)[p] d (aC d.L d.nx d.st d.n)[q]:=fun w hw=>by
   rw[←h.V9 hp hw,←h.V9 hq hw];exact he w hw
  have h2:=hr _ _ (h.IB _ _ (dc hp)) (h.IB _ _ (dc hq)) h1;rw[←List.Nodup.idxOf_getElem (Ej _) p hp,←List.Nodup.idxOf_getElem (Ej _) q hq,h2]
 Eh w hw:=h.afF hw
end Da
end Go.AM
set_option maxRecDepth 100000
namespace Go.AM
open Go.IntKind (wrap)
open Go.Proofs
noncomputable def IC (C:af) (A0:Int) (t38:LV) (t39 t40:Int) (t49:LV) (t50 bw bE:Int) (iH iy:LV) (t51:Int) {β:Type} (kn:Int→Option β) (kr:((Int) ⊕ (Int×Bool))→Option β):Option β:=
 bif decide (t51<t50) then
  (idx t49 t51).bind fun x2=>
  bif decide ((x2.toInt:Int)<0) then
  kr (.inl 4)
  else
  bif decide ((x2.toInt:Int)≥A0) then
   kr (.inl 4)
  else
   kn (wrap .i64 (t51+1))
 else
  kr (.inr (t51,decide (t51<t50)))
noncomputable def OO (C:af) (A0:Int) (t38:LV) (t39 t40:Int) (t49:LV) (t50 bw bE:Int) (iH iy:LV):=fun t51=>IC C A0 t38 t39 t40 t49 t50 bw bE iH iy t51 (fun y=>some (Sum.inl y)) (fun r=>some (Sum.inr r))
noncomputable def ID (C:af) (A0:Int) (t38:LV) (t39 bw bE:Int) (iH iy:LV) (t40:Int) {β:Type} (kn:Int→Option β) (kr:((Int) ⊕ (Int×Bool))→Option β):Option β:=
 bif decide (t40<t39) then
  (idx t38 t40).bind fun x1=>
  bif (x1.toList.length:Int) != bw then
  kr (.inl 4)
  else
  (Loop (OO C A0 t38 t39 t40 x1.toList (x1.toList.length:Int) bw bE iH iy) 0).bind (fX (fun kO=>
   kr (.inl kO)) (un fun (nK:Int) (mr:Bool)=>
   kn (wrap .i64 (t40+1))))
 else
  kr (.inr (t40,decide (t40<t39)))
noncomputable def OP (C:af) (A0:Int) (t38:LV) (t39 bw bE:Int) (iH iy:LV):=fun t40=>ID C A0 t38 t39 bw bE iH iy t40 (fun y=>some (Sum.inl y)) (fun r=>some (Sum.inr r))
noncomputable def afG (C:af):cL:=bR 225 UI [EQ,EQ,EQ,EQ,EQ,EQ,H1,EQ,EQ,EQ,EQ] [[0],[1,2,3,4,5,6,0,0,8,9,10,11]] (@IC C) (bR 145 UJ [EQ,EQ,EQ,H1,EQ,EQ,EQ,EQ] [[0],[1,2,3,0,0,5,6,7,8]] (@ID C) bH)
theorem as0 (C:af):bA C (afG C) 25 (Lp [1,1,1,1,1,0,1,0,0,1,1,0,0,1,1,1,0,0] 25):=bS UI [EQ,EQ,EQ,EQ,EQ,EQ,H1,EQ,EQ,EQ,EQ] [[0],[1,2,3,4,5,6,0,0,8,9,10,11]] (@IC C) (bu av)
theorem as1 (C:af):bA C (afG C) 25 (Lp [1,1,1,1,1,0,1,0,0] 25):=bS UJ [EQ,EQ,EQ,H1,EQ,EQ,EQ,EQ] [[0],[1,2,3,0,0,5,6,7,8]] (@ID C) (bu (bB (as0 C) av))
noncomputable def afH (C:af) (dy dH:Int) (c6 dI:LV):Option LV:=
 bif decide (dy<1) then
  some [V.int .i64 1]
 else
  bif decide (dy>6) then
  some [V.int .i64 1]
  else
  bif decide ((c6.length:Int)>512) then
   some [V.int .i64 3]
  else
   bif (dI.length:Int) != (c6.length:Int) then
   some [V.int .i64 4]
   else
   bif decide (dH<0) then
    some [V.int .i64 4]
   else
    bif decide (dH≥(c6.length:Int)) then
    some [V.int .i64 4]
    else
    (Loop (OP C (c6.length:Int) dI (dI.length:Int) dy dH c6 dI) 0).bind (fX (fun j5=>
     some [V.int .i64 j5]) (un fun (oD:Int) (yg:Bool)=>
     some [V.int .i64 0]))
theorem as2 {dy dH:Int} {c6 dI:LV} {r:Option LV} (h:afH CC dy dH c6 dI=r):CC qS [V.int .i64 dy,V.int .i64 dH,.list ak c6,.list ag dI]=r:=bI (bB (as1 CC) av) h
abbrev iV (n:Int):V:= .int .i64 n
def uF (r:List Int):V:= .list ab (r.map iV)
@[simp] theorem as3 (r:List Int):(uF r).toList=r.map iV:=by simp[uF]
structure Df where
 L:Int
 st:Int
 F:List Bool
 N:List (List Int)
def Ml (d:Df) (l:List V):List V:= .int .i64 d.L:: .int .i64 d.st:: .list ak (d.F.map V.bool):: .list ag (d.N.map uF)::l
namespace Df
structure Ok (d:Df):Prop where
 L1: -9223372036854775808≤d.L
 L2:d.L≤9223372036854775807
 s1: -9223372036854775808≤d.st
 s2:d.st≤9223372036854775807
 F:d.F.length≤maxLen
 N:d.N.length≤maxLen
 row: ∀r∈d.N,r.length≤maxLen∧∀q∈r,-9223372036854775808≤q∧q≤9223372036854775807
def sE (d:Df) (r:List Int) (i:Nat):Prop:=0≤r.getD i 0∧r.getD i 0<d.F.length
instance (d:Df) (r:List Int):DecidablePred (d.sE r):=fun i=>by unfold sE;infer_instance
def xc (d:Df) (q:Nat):Prop:=((d.N.getD q []).length:Int)=d.L∧∀i,i<(d.N.getD q []).length→d.sE (d.N.getD q []) i
instance (d:Df):DecidablePred d.xc:=fun i=>by unfold xc;infer_instance
def val (d:Df):Int:=
 if d.L<1∨6<d.L then 1
 else if 512<d.F.length then 3
 else if d.N.length≠d.F.length∨d.st<0∨(d.F.length:Int)≤d.st then 4
 else if∀q,q<d.N.length→d.xc q then 0 else 4
end Df
theorem Rx {α:Type} {f:α→V} {l:List α} {i:Nat} {z:α} (h:i<l.length):idx (l.map f) (i:Int)=some (f (l.getD i z)):=by
 rw[ZY rfl h];simp[h]
section
variable {d:Df} (hd:d.Ok)
include hd
theorem as4 {q:Nat} (h:q<d.N.length):(d.N.getD q []).length≤maxLen:=by
 rw[show d.N.getD q []=d.N[q] by simp[h]];exact (hd.row _ (dc h)).1
theorem as5 {q:Nat} (hq:q<d.N.length) {t38:List V} {t39:Int} {a b:Int} {l1 l2:List V}:
  Loop (OO CC (d.F.length:Int) t38 t39 (q:Int) ((d.N.getD q []).map iV) (((d.N.getD q []).map iV).length:Int) a b l1 l2) 0=
   some (if∀i,i<(d.N.getD q []).length→d.sE (d.N.getD q []) i then .inr (((d.N.getD q []).length:Int),false) else .inl 4):=by
 have hl:=as4 hd hq;have hm:=afq;generalize d.N.getD q []=r at*
 refine afs (d.sE r) r.length (fun i=>(i:Int)) (.inl 4:Int ⊕ (Int×Bool)) (.inr ((r.length:Int),false)) (fun i hi=> ?_) ?_
 ·simp only[OO,IC,dE,HK];rw[dp,Rx (z:=0) hi];simp only[Option.bind_some,V.toInt_int];by_cases h1:r.getD i 0<0
  ·rw[aB h1,ax (show¬d.sE r i from fun h=>by unfold Df.sE at h;omega)]
  ·rw[ax h1];by_cases h2:r.getD i 0≥(d.F.length:Int)
   ·rw[aB h2,ax (show¬d.sE r i from fun h=>by unfold Df.sE at h;omega)]
   ·rw[ax h2,aB (show d.sE r i from ⟨by omega,by omega⟩),sf];rfl
 ·simp only[OO,IC,dE,HK];rw[dq,XG]
theorem as6 {a b:Int} {l1 l2:List V}:
  Loop (OP CC (d.F.length:Int) (d.N.map uF) ((d.N.map uF).length:Int) d.L b l1 l2) 0=
   some (if∀q,q<d.N.length→d.xc q then .inr ((d.N.length:Int),false) else .inl 4):=by
 have hm:=afq;have hN:=hd.N;refine afs d.xc d.N.length (fun i=>(i:Int)) (.inl 4:Int ⊕ (Int×Bool)) (.inr ((d.N.length:Int),false)) (fun q hq=> ?_) ?_
 ·simp only[OP,ID,dE,HK];rw[dp,Rx (z:=[]) hq];simp only[Option.bind_some,as3,dE,acH];have:=as5 hd hq (t38:=d.N.map uF) (t39:=(d.N.length:Int)) (a:=d.L) (b:=b) (l1:=l1) (l2:=l2);rw[dE] at this;by_cases h1:((d.N.getD q []).length:Int)=d.L
  ·rw[aB h1];refine bs this ?_;by_cases h2: ∀i,i<(d.N.getD q []).length→d.sE (d.N.getD q []) i
   ·rw[aB h2,aB (show d.xc q from ⟨h1,h2⟩)];simp only[fX,un];rw[sf];rfl
   ·rw[ax h2,ax (show¬d.xc q from fun h=>h2 h.2)];rfl
  ·rw[ax h1,ax (show¬d.xc q from fun h=>h1 h.1)]
 ·simp only[OP,ID,dE,HK];rw[dq,XG]
theorem as7:CC qS (Ml d [])=some [.int .i64 d.val]:=by
 refine as2 ?_;unfold afH Df.val;simp only[dE,HK,acH];have h:=as6 hd (a:=0) (b:=d.st) (l1:=d.F.map V.bool) (l2:=d.N.map uF);rw[dE] at h;by_cases h1:d.L<1
 ·rw[aB h1,aB (.inl h1)]
 rw[ax h1];by_cases h2:d.L>6
 ·rw[aB h2,aB (.inr h2)]
 rw[ax h2,ax (show¬(d.L<1∨6<d.L) by omega)];by_cases h3:512<d.F.length
 ·rw[aB (show (d.F.length:Int)>512 by omega),aB h3]
 rw[ax (show¬(d.F.length:Int)>512 by omega),ax h3];by_cases h4:d.N.length=d.F.length
 ·rw[aB (show (d.N.length:Int)=(d.F.length:Int) by omega)];by_cases h5:d.st<0
  ·rw[aB h5,aB (.inr (.inl h5))]
  rw[ax h5];by_cases h6:d.st≥(d.F.length:Int)
  ·rw[aB h6,aB (.inr (.inr h6))]
  rw[ax h6,ax (show¬(d.N.length≠d.F.length∨d.st<0∨(d.F.length:Int)≤d.st) by omega)];refine bs h ?_;split<;>rfl
 ·rw[ax (show¬(d.N.length:Int)=(d.F.length:Int) by omega),aB (.inl h4)]
end
def tw (r:List Nat):List Int:=r.map fun q:Nat=>(q:Int)
theorem afI (r:List Nat) (i:Nat):(tw r).getD i 0=((r.getD i 0:Nat):Int):=by
 unfold tw;by_cases h:i<r.length
 ·rw[cE h,cE (by simpa using h)];simp
 ·simp[List.getElem?_eq_none (Nat.le_of_not_lt h)]
def Da.df (a:Da):Df:=⟨a.L,a.st,a.F,a.N.map tw⟩
theorem Da.Ok.as8 {a:Da} (h:a.Ok):a.df.Ok:=by
 have h1:=h.l6;have h2:=h.s;have h3:=h.eb;have h4:=h.nN;unfold Da.n at*
 refine ⟨by simp only[Da.df];omega,by simp only[Da.df];omega,by simp only[Da.df];omega,by simp only[Da.df];omega,by simp only[Da.df];unfold maxLen;omega,by simp only[Da.df,dE];unfold maxLen;omega,fun r hr=> ?_⟩;obtain ⟨r,rq,rfl⟩:=ia.1 hr;have:=h.row r rq;refine ⟨by simp only[tw,dE];unfold maxLen;omega,fun q hq=> ?_⟩;obtain ⟨q,wu,rfl⟩:=ia.1 hq;have:=this.2 q wu;unfold Da.n at this;omega
theorem Da.Ok.val {a:Da} (h:a.Ok):a.df.val=0:=by
 have h0:=h.l1;have h1:=h.l6;have h2:=h.s;have h3:=h.eb;have h4:=h.nN;unfold Da.n at*
 unfold Df.val;rw[ax (by simp only[Da.df];omega),ax (by simp only[Da.df];omega),ax (by simp only[Da.df,dE];omega),aB];intro q hq;simp only[Da.df,dE] at hq;have e:a.df.N.getD q []=tw (a.N.getD q []):=by simp[Da.df,hq]
 have hr:=h.row (a.N.getD q []) (by rw[show a.N.getD q []=a.N[q] by simp[hq]];exact dc hq);unfold Df.xc;rw[e];refine ⟨by simp only[tw,dE,Da.df];omega,fun i hi=> ?_⟩;rw[tw,dE] at hi;have:=hr.2 ((a.N.getD q [])[i]) (dc hi);unfold Df.sE;rw[afI,cE hi];simp only[Da.df];unfold Da.n at this;omega
def tab {α:Type} (n:Nat) (g:Nat→α):List α:=(List.range n).map g
section
variable {α β:Type} {n i:Nat} {g h:Nat→α}
@[simp] theorem eG:(tab n g).length=n:=by simp[tab]
theorem mz (hi:i<n):(tab n g)[i]? =some (g i):=by simp[tab,hi]
theorem A3 (hi:i<n) {z:α}:(tab n g).getD i z=g i:=by simp[tab,hi]
theorem Wa (hi:i<(tab n g).length):(tab n g)[i]=g i:=by simp[tab]
theorem c8 (e: ∀j,j<n→g j=h j):tab n g=tab n h:=pH fun j hj=>e j (fK.1 hj)
theorem lO {v:α}:(tab n g).set i v=tab n fun j=>if j=i then v else g j:=by
 refine sK (by simp) fun j h1 h2=> ?_;rw[List.getElem_set,Wa,Wa];simp only[eq_comm]
theorem as9:tab n g++[g n]=tab (n+1) g:=by simp[tab,BK]
theorem CX:tab (n+1) g=tab n g++[g n]:=as9.symm
theorem o6 {v:α}:List.replicate n v=tab n fun _=>v:=by simp[tab,List.map_const']
theorem ata {f:α→β}:(tab n g).map f=tab n fun i=>f (g i):=by simp[tab,Function.comp]
theorem afJ (l:List α) (z:α):l=tab l.length fun i=>l.getD i z:=by
 refine sK (by simp) fun j h1 h2=> ?_;rw[Wa];simp[h1]
theorem A4 (l:List α) (z:α) {f:α→β}:l.map f=tab l.length fun i=>f (l.getD i z):=by
 rw[←ata,←afJ]
theorem LO {a:α}:a∈tab n g↔∃i,i<n∧g i=a:=by simp[tab]
end
section
variable {γ:Type} {n i:Nat} {g:Nat→V}
theorem qV (hi:i<n):idx (tab n g) (i:Int)=some (g i):=by rw[Db rfl,mz hi]
theorem ni (hi:i<n) {K:V→Option γ}:(bif (decide (0≤(i:Int)))&&(decide ((i:Int)<((tab n g).length:Int))) then ((tab n g)[((i:Int)).toNat]?).bind K else none)=K (g i):=by
 rw[Int.toNat_natCast,mz hi,kh.2 ⟨ca (by omega),ca (by rw[eG];omega)⟩];rfl
theorem b7 {es:List V} {v:V} (hi:es[i]? =some v) {K:V→Option γ}:(bif (decide (0≤(i:Int)))&&(decide ((i:Int)<(es.length:Int))) then (es[((i:Int)).toNat]?).bind K else none)=K v:=by
 have hl:i<es.length:=by
  rcases jD i es.length with h|h
  ·exact h
  ·rw[List.getElem?_eq_none h] at hi;cases hi
 rw[Int.toNat_natCast,hi,kh.2 ⟨ca (by omega),ca (by omega)⟩];rfl
theorem o5 {m:Nat} (hi:i<m):((decide (0≤(i:Int)))&&(decide ((i:Int)<(m:Int))))=true:=kh.2 ⟨ca (by omega),ca (by omega)⟩
end
theorem cap {a b m:Nat} (h:a+b≤10000000) (hm:m≤1000):Nat.ble ((a+b)*m) aY=true:=by
 rw[gx,afr];have:=Nat.mul_le_mul h hm;omega
theorem gG {n m:Nat} (h:n≤10000000) (hm:m≤1000):((decide (0≤(n:Int)))&&((decide ((n:Int)≤(n:Int)))&&(Nat.ble (((n:Int).toNat)*m) aY)))=true:=by
 have h2:=Nat.mul_le_mul h hm;rw[Int.toNat_natCast];refine kh.2 ⟨ca (by omega),kh.2 ⟨ca (by omega),?_⟩⟩;rw[gx,afr];omega
theorem bq {i:Nat} (h:i≤1000000000):wrap .i64 ((i:Int)+1)=((i+1:Nat):Int):=by rw[sf];omega
theorem bn {i n:Nat} (h:i<n):decide ((i:Int)<(n:Int))=true:=ca (by omega)
theorem aX {i n:Nat} (h:n≤i):decide ((i:Int)<(n:Int))=false:=cZ (by omega)
section
variable {X R:Type} {step:X→Option (X ⊕ R)}
theorem fI (n:Nat) (s:Nat→X) (r:R) (h: ∀i,i<n→step (s i)=some (.inl (s (i+1)))) (he:step (s n)=some (.inr r)):Loop step (s 0)=some r:=aoe s n h he
theorem lN (P:Nat→X→Prop) (Q:R→Prop): ∀(n k:Nat) (x:X),(∀i,k≤i→i<k+n→∀x,P i x→∃y,step x=some (.inl y)∧P (i+1) y)→(∀x,P (k+n) x→∃r,step x=some (.inr r)∧Q r)→P k x→∃r,Loop step x=some r∧Q r
 | 0,k,x,_,he,hx=>by
  obtain ⟨r,h1,h2⟩:=he x hx;exact ⟨r,kR h1,h2⟩
 | n+1,k,x,h,he,hx=>by
  obtain ⟨y,h1,h2⟩:=h k (aw _) (by omega) x hx;obtain ⟨r,h3,h4⟩:=lN P Q n (k+1) y (fun i hi hn=>h i (by omega) (by omega)) (by rw[show k+1+n=k+(n+1) by omega];exact he) h2;exact ⟨r,(jd h1).trans h3,h4⟩
theorem atb (bad:Nat→Bool) (n:Nat) (s:Nat→X) (r1:Nat→R) (r2:R) (h: ∀i,i<n→step (s i)=some (if bad i=true then .inr (r1 i) else .inl (s (i+1)))) (he:step (s n)=some (.inr r2)):
  (∃i,i<n∧bad i=true∧(∀j,j<i→bad j=false)∧Loop step (s 0)=some (r1 i))∨((∀i,i<n→bad i=false)∧Loop step (s 0)=some r2):=by
 have go: ∀(d k:Nat),k+d=n→(∀j,j<k→bad j=false)→Loop step (s 0)=Loop step (s k)→(∃i,i<n∧bad i=true∧(∀j,j<i→bad j=false)∧Loop step (s 0)=some (r1 i))∨((∀i,i<n→bad i=false)∧Loop step (s 0)=some r2):=by
  intro d
  induction d with
  | zero=>
   intro k hk hb e;obtain rfl:k=n:=by omega
   exact .inr ⟨hb,e.trans (kR he)⟩
  | succ d ih=>
   intro k hk hb e;have h1:=h k (by omega);cases wH:bad k with
   | true=>
    rw[aB wH] at h1;exact .inl ⟨k,by omega,wH,hb,e.trans (kR h1)⟩
   | false=>
    rw[ax (by rw[wH];simp)] at h1;refine ih (k+1) (by omega) (fun j hj=> ?_) (e.trans (jd h1));rcases jD j k with c|c
    ·exact hb j c
    ·rw[show j=k by omega];exact wH
 exact go n 0 (by omega) (fun j hj=>by omega) rfl
end
def IE (w:List UInt8) (i:Nat):Int:=((w.getD i 0).toNat:Int)-97
def IF (w:List UInt8) (L:Int):Prop:=1≤L∧L≤6∧w.length≤2048∧∀i,i<w.length→0≤IE w i∧IE w i<L
instance (w:List UInt8) (L:Int):Decidable (IF w L):=by unfold IF;infer_instance
def nX (L:Nat) (f:Nat→Nat):V:= .list ab (tab L fun x=>iV (f x))
def Da.cG (a:Da):List V:=tab a.n fun q=>V.bool (a.fin q)
def Da.cN (a:Da):List V:=tab a.n fun q=>nX a.L (a.nx q)
@[simp] theorem Da.Gi {a:Da}:a.cG.length=a.n:=by simp[Da.cG]
@[simp] theorem Da.atc {a:Da}:a.cN.length=a.n:=by simp[Da.cN]
@[simp] theorem CU {L:Nat} {f:Nat→Nat}:(nX L f).toList=tab L fun x=>iV (f x):=by simp[nX]
def iW (a:Da) (l:List V):List V:= .int .i64 a.L:: .int .i64 a.st:: .list ak a.cG:: .list ag a.cN::l
def eh (a:Da):List V:=iW a []
theorem Da.Ok.leaves {a:Da} (h:a.Ok) (l:List V):Ml a.df l=iW a l:=by
 unfold Ml iW;have e1:a.df.F.map V.bool=a.cG:=A4 _ false;have e2:a.df.N.map uF=a.cN:=by
  unfold Da.cN;rw[A4 _ [],show a.df.N.length=a.n by simp[Da.df,h.nN]];refine c8 fun q hq=> ?_;have dz:q<a.N.length:=by rw[h.nN];exact hq
  unfold uF nX;rw[show a.df.N.getD q []=tw (a.N.getD q []) by simp[Da.df,dz],A4 _ 0];have hl:(tw (a.N.getD q [])).length=a.L:=by simp only[tw,dE];exact Da.V5 h hq
  rw[hl];exact congrArg _ (c8 fun x _=>by rw[afI];rfl)
 rw[e1,e2];rfl
theorem Da.CW {a:Da} {q:Nat} (hq:q<a.n):idx a.cG (q:Int)=some (.bool (a.fin q)):=qV hq
theorem Da.Gy {a:Da} {q:Nat} (hq:q<a.n):idx a.cN (q:Int)=some (nX a.L (a.nx q)):=qV hq
theorem CV {L x:Nat} {f:Nat→Nat} (hx:x<L):idx (tab L fun x=>iV (f x)) (x:Int)=some (iV (f x)):=qV hx
theorem o7 {a:Da} (h:a.Ok):CC qS (eh a)=some [.int .i64 0]:=by
 have:=as7 h.as8;rwa [h.val,h.leaves] at this
def lets (w:List UInt8):List Nat:=w.map fun b=>b.toNat-97
theorem afK {w:List UInt8}:(lets w).length=w.length:=by simp[lets]
theorem atd {w:List UInt8} {i:Nat} (hi:i<w.length) (h:0≤IE w i):(((lets w).getD i 0:Nat):Int)=IE w i:=by
 unfold lets IE at*
 rw[cE (by simpa using hi),cE hi] at*
 simp only[BI];omega
theorem IF.WL {w:List UInt8} {L:Nat} (h:IF w (L:Int)):WL L (lets w):=fun x hx=>by
 obtain ⟨i,hi,rfl⟩:=List.getElem_of_mem hx;rw[afK] at hi;obtain ⟨h1,h2⟩:=h.2.2.2 i hi;have:=atd hi h1;rw[cE (by rw[afK];exact hi)] at this;omega
section
variable {a:Da} (h:a.Ok) {w:List UInt8} (hw:IF w (a.L:Int)) {q:Nat} (hq:q<a.n)
include h hw hq
end
section
variable {α:Type} (ke:α→V)
def fP (i:Nat):List α→List V
 | []=>[]
 | a::S=> .bd [ke a,iV (i:Int)]::fP (i+1) S
where iV (n:Int):V:= .int .i64 n
end
theorem IG {α:Type} {ke:α→V}: ∀(S:List α) (i:Nat),(fP ke i S).length=S.length
 | [],_=>rfl
 | a::S,i=>by simp[fP,IG S (i+1)]
section
variable {α:Type} [DecidableEq α] {ke:α→V}
variable (hk: ∀a b,iP (ke a) (ke b)=decide (a=b))
include hk
theorem L9 (x:α): ∀(S:List α) (i:Nat),gg (ke x) (fP ke i S)=decide (x∈S)
 | [],_=>by simp[fP,gg]
 | a::S,i=>by
  have c: ∀(p q:V),(V.bd [p,q]).comp 0=p:=fun p q=>rfl;rw[fP,gg,c,hk,L9 x S (i+1)];rw[xx];simp
theorem Ma (x:α) (z:V): ∀(S:List α) (i:Nat),x∈S→jX (ke x) (fP ke i S) z= .int .i64 ((i+S.idxOf x:Nat):Int)
 | [],_,h=>by cases h
 | a::S,i,h=>by
  have c: ∀(p q:V),(V.bd [p,q]).comp 0=p:=fun p q=>rfl;have c1: ∀(p q:V),(V.bd [p,q]).comp 1=q:=fun p q=>rfl;rw[fP,jX,c,c1,hk];by_cases e:x=a
  ·subst e;rw[ca rfl];simp[fP.iV]
  ·rw[cZ e,cond_false,Ma x z S (i+1) ((fl.1 h).resolve_left e),show (a::S).idxOf x=S.idxOf x+1 from by rw[List.idxOf_cons,show (a==x)=false from qH.2 fun h=>e h.symm];rfl];congr 2;omega
theorem Mb (x:α): ∀(S:List α) (i:Nat),x∉S→iQ (ke x) (.int .i64 ((i+S.length:Nat):Int)) (fP ke i S)=fP ke i (S++[x])
 | [],i,_=>by simp[fP,iQ,fP.iV]
 | a::S,i,h=>by
  have c: ∀(p q:V),(V.bd [p,q]).comp 0=p:=fun p q=>rfl;have e:x≠a:=fun e=>h (by simp[e]);rw[fP,iQ,c,hk,cZ e,cond_false,List.cons_append,fP];congr 1;have:=Mb x S (i+1) fun hx=>h (by simp[hx]);rw[←this];simp only[List.length_cons];congr 3;omega
end
theorem ate (a b:Nat):iP (.int .i64 (a:Int)) (.int .i64 (b:Int))=decide (a=b):=by
 simp only[iP,V.cells,pO,vC,Bool.and_true];rw[xx];simp;omega
theorem akc (a b:Nat×Nat):iP (.agg [.int .i64 (a.1:Int),.int .i64 (a.2:Int)]) (.agg [.int .i64 (b.1:Int),.int .i64 (b.2:Int)])=decide (a=b):=by
 simp only[iP,V.cells,pO,vC,Bool.and_true];rw[xx];simp[Prod.ext_iff];omega
theorem zK {n:Nat} (h:n≤1000000000000):eQ .i64 (n:Int)=true:=by
 have e1:IntKind.min .i64= -9223372036854775808:=by decide
 have e2:IntKind.max .i64=9223372036854775807:=by decide
 unfold eQ;rw[e1,e2];exact kh.2 ⟨ca (by omega),ca (by omega)⟩
theorem ZF {α:Type} [DecidableEq α] {S:List α} {a:α}:(cO S a).idxOf a=if a∈S then S.idxOf a else S.length:=by
 unfold cO;split
 ·rfl
 ·rename_i h;rw[BP,ax h];simp
noncomputable def afL (C:af) (q x ei ej:Int) (lg kG:LV):Option LV:=
 (idx kG q).bind fun x1=>
 (idx x1.toList x).bind fun x2=>
 some [V.int .i64 x2.toInt,V.int .i64 ei,V.int .i64 ej,.list ak lg,.list ag kG]
theorem atf {q x ei ej:Int} {lg kG:LV} {r:Option LV} (h:afL CC q x ei ej lg kG=r):CC wS [V.int .i64 q,V.int .i64 x,V.int .i64 ei,V.int .i64 ej,.list ak lg,.list ag kG]=r:=bI (L:=bH) av h
noncomputable def afM (C:af) (q tk tm:Int) (qX tn:LV):Option LV:=
 (idx qX q).bind fun x1=>
 some [.bool x1.toBool,V.int .i64 tk,V.int .i64 tm,.list ak qX,.list ag tn]
theorem atg {q tk tm:Int} {qX tn:LV} {r:Option LV} (h:afM CC q tk tm qX tn=r):CC wU [V.int .i64 q,V.int .i64 tk,V.int .i64 tm,.list ak qX,.list ag tn]=r:=bI (L:=bH) av h
noncomputable def afN (C:af) (x:Int) (ba:LV):Option LV:=
 bif eQ .i64 x&&true then
  bif eQ .i64 x&&true then
  bif Nat.ble ((ba.length+([V.int .i64 x]:LV).length)*8) aY then
   some [V.int .i64 (ba.length:Int),.list ab (ba++([V.int .i64 x]:LV)),.list kg (iQ (V.int .i64 x) (V.int .i64 (ba.length:Int)) ([]:LV))]
  else none
  else none
 else none
theorem ath {x:Int} {ba:LV} {r:Option LV} (h:afN CC x ba=r):CC HQ [V.int .i64 x,.list ab ba]=r:=bI (L:=bH) av h
noncomputable def afO (C:af) (x:Int) (ba aI:LV):Option LV:=
 bif eQ .i64 x&&true then
  bif !(gg (V.int .i64 x) aI) then
  bif eQ .i64 x&&true then
   bif Nat.ble ((ba.length+([V.int .i64 x]:LV).length)*8) aY then
   some [V.int .i64 (ba.length:Int),.list kg (iQ (V.int .i64 x) (V.int .i64 (ba.length:Int)) aI),.list ab (ba++([V.int .i64 x]:LV))]
   else none
  else none
  else
  some [V.int .i64 ((jX (V.int .i64 x) aI (V.int .i64 0)).toInt),.list kg aI,.list ab ba]
 else none
theorem ati {x:Int} {ba aI:LV} {r:Option LV} (h:afO CC x ba aI=r):CC TX [V.int .i64 x,.list ab ba,.list kg aI]=r:=bI (L:=bH) av h
noncomputable def IH (C:af) (aR i state t36 qY qZ bw bE:Int) (aV aF bN bK:LV) (t37 im iq:Int) (iu iv rows aO bj:LV) {β:Type} (kn:(Int×Int×Int×LV×LV×LV×LV×LV)→Option β) (kr:(Int×Bool×Int×Int×LV×LV×LV×LV×LV)→Option β):Option β:=
 bif decide (t37<t36) then
  (C wS [V.int .i64 state,V.int .i64 t37,V.int .i64 im,V.int .i64 iq,.list ak iu,.list ag iv]).bind fun r3=>
  (C TX [V.int .i64 ((V.nth r3 0).toInt),.list ab aO,.list kg bj]).bind fun r4=>
  aM rows t37 fun x5=>
  kn (wrap .i64 (t37+1),(V.nth (r3.drop 1) 0).toInt,(V.nth ((r3.drop 1).drop 1) 0).toInt,(V.nth (((r3.drop 1).drop 1).drop 1) 0).toList,(V.nth ((((r3.drop 1).drop 1).drop 1).drop 1) 0).toList,bm rows t37 (V.int .i64 ((V.nth r4 0).toInt)),(V.nth ((r4.drop 1).drop 1) 0).toList,(V.nth (r4.drop 1) 0).toList)
 else
  kr (t37,decide (t37<t36),im,iq,iu,iv,rows,aO,bj)
noncomputable def OQ (C:af) (aR i state t36 qY qZ bw bE:Int) (aV aF bN bK:LV):=un fun t37=>un fun im=>un fun iq=>un fun iu=>un fun iv=>un fun rows=>un fun aO bj=>IH C aR i state t36 qY qZ bw bE aV aF bN bK t37 im iq iu iv rows aO bj (fun y=>some (Sum.inl y)) (fun r=>some (Sum.inr r))
noncomputable def II (C:af) (aR qY qZ bw bE:Int) (aW aV:LV) (i im iq:Int) (iu iv aF aO bj bN:LV) {β:Type} (kn:(Int×Int×Int×LV×LV×LV×LV×LV×LV)→Option β) (kr:((Int×Int×Int×LV×LV×Int×Int×LV×LV×LV) ⊕ (Int×Bool×Int×Int×LV×LV×LV×LV×LV×LV))→Option β):Option β:=
 bif decide (i<(aF.length:Int)) then
  aM aF i fun x2=>
  bif (decide (0≤aR))&&((decide (aR≤aR))&&(Nat.ble ((aR.toNat)*8) aY)) then
  (Loop (OQ C aR i x2.toInt ((List.replicate (aR.toNat) (V.int .i64 0)).length:Int) qY qZ bw bE aW aV bj bN) (0,im,iq,iu,iv,List.replicate (aR.toNat) (V.int .i64 0),aF,aO)).bind (un fun j5=>un fun (oD:Bool)=>un fun Gq=>un fun Gr=>un fun (Gs:LV)=>un fun (Gt:LV)=>un fun (afP:LV)=>un fun (Ek:LV) (qk:LV)=>
   bif decide ((Ek.length:Int)>512) then
    kr (.inl (3,Gq,Gr,Gs,Gt,0,0,([]:LV),([]:LV),([]:LV)))
   else
    bif Nat.ble ((bN.length+([.list ab afP]:LV).length)*24) aY then
    (C wU [V.int .i64 x2.toInt,V.int .i64 Gq,V.int .i64 Gr,.list ak Gs,.list ag Gt]).bind fun El=>
    bif Nat.ble ((bj.length+([.bool ((V.nth El 0).toBool)]:LV).length)*1) aY then
     kn (wrap .i64 (i+1),(V.nth (El.drop 1) 0).toInt,(V.nth ((El.drop 1).drop 1) 0).toInt,(V.nth (((El.drop 1).drop 1).drop 1) 0).toList,(V.nth ((((El.drop 1).drop 1).drop 1).drop 1) 0).toList,Ek,qk,bj++([.bool ((V.nth El 0).toBool)]:LV),bN++([.list ab afP]:LV))
    else none
    else none)
  else none
 else
  kr (.inr (i,decide (i<(aF.length:Int)),im,iq,iu,iv,aF,aO,bj,bN))
noncomputable def OR (C:af) (aR qY qZ bw bE:Int) (aW aV:LV):=un fun i=>un fun im=>un fun iq=>un fun iu=>un fun iv=>un fun aF=>un fun aO=>un fun bj bN=>II C aR qY qZ bw bE aW aV i im iq iu iv aF aO bj bN (fun y=>some (Sum.inl y)) (fun r=>some (Sum.inr r))
noncomputable def afQ (C:af):cL:=bR 161 U7 [EQ,EQ,EQ,EQ,H1,H1,H1,H1,H1,EQ,EQ,EQ,EQ,H1,EQ,EQ,H1,H1,EQ,EQ] [[1,2,3,4,0,0,0,0,0,0,10,11,12,13,0,15,16,0,0,19,20]] (@IH C) (bR 81 U8 [EQ,H1,H1,H1,H1,H1,EQ,EQ,EQ,EQ,EQ,EQ,H1,H1,H1,H1] [[0,0,0,0,0,0,0,0,0,0],[1,0,0,0,0,0,0,7,8,9,10,11,12,0,0,0,0]] (@II C) bH)
theorem atj (C:af):bA C (afQ C) 68 (Lp [1,1,1,1,0,1,0,0,1,0,0,1,1,0,1,0,0] 68):=bS U7 [EQ,EQ,EQ,EQ,H1,H1,H1,H1,H1,EQ,EQ,EQ,EQ,H1,EQ,EQ,H1,H1,EQ,EQ] [[1,2,3,4,0,0,0,0,0,0,10,11,12,13,0,15,16,0,0,19,20]] (@IH C) (bu av)
theorem atk (C:af):bA C (afQ C) 68 (Lp [1,1,1,1,0,1,0,0] 68):=bS U8 [EQ,H1,H1,H1,H1,H1,EQ,EQ,EQ,EQ,EQ,EQ,H1,H1,H1,H1] [[0,0,0,0,0,0,0,0,0,0],[1,0,0,0,0,0,0,7,8,9,10,11,12,0,0,0,0]] (@II C) (bu (bB (atj C) av))
noncomputable def afR (C:af) (aR start im iq:Int) (iu iv:LV):Option LV:=
 (C HQ [V.int .i64 start,.list ab ([]:LV)]).bind fun r1=>
 (Loop (OR C aR 0 0 aR 0 ([]:LV) ([]:LV)) (0,im,iq,iu,iv,(V.nth (r1.drop 1) 0).toList,(V.nth ((r1.drop 1).drop 1) 0).toList,([]:LV),([]:LV))).bind (fX (un fun zX=>un fun qj=>un fun tp=>un fun (rf:LV)=>un fun (ql:LV)=>un fun atl=>un fun atm=>un fun (sg:LV)=>un fun (tt:LV) (atn:LV)=>
  some [V.int .i64 atl,V.int .i64 atm,V.int .i64 zX,V.int .i64 qj,V.int .i64 tp,.list ak rf,.list ag ql,.list ak sg,.list ag tt,.list ab atn]) (un fun aAw=>un fun (aAx:Bool)=>un fun ato=>un fun atp=>un fun (atq:LV)=>un fun (atr:LV)=>un fun (Gw:LV)=>un fun (L6:LV)=>un fun (A5:LV) (IJ:LV)=>
  some [V.int .i64 aR,V.int .i64 0,V.int .i64 0,V.int .i64 ato,V.int .i64 atp,.list ak atq,.list ag atr,.list ak A5,.list ag IJ,.list ab Gw]))
theorem ats {aR start im iq:Int} {iu iv:LV} {r:Option LV} (h:afR CC aR start im iq iu iv=r):CC NL [V.int .i64 aR,V.int .i64 start,V.int .i64 im,V.int .i64 iq,.list ak iu,.list ag iv]=r:=bI (bB (atk CC) av) h
noncomputable def IK (C:af) (t31 ei ej bO bP:Int) (vj aW aV aF aO:LV) (t32:Int) (numbers:LV) {β:Type} (kn:(Int×LV)→Option β) (kr:(Int×Bool×LV)→Option β):Option β:=
 bif decide (t32<t31) then
  aM numbers t32 fun x3=>
  kn (wrap .i64 (t32+1),bm numbers t32 (V.int .i64 (-1)))
 else
  kr (t32,decide (t32<t31),numbers)
noncomputable def OS (C:af) (t31 ei ej bO bP:Int) (vj aW aV aF aO:LV):=un fun t32 numbers=>IK C t31 ei ej bO bP vj aW aV aF aO t32 numbers (fun y=>some (Sum.inl y)) (fun r=>some (Sum.inr r))
noncomputable def IL (C:af) (t40 ei ej bO bP:Int) (A6 aW aV aF aO:LV) (t41:Int) (numbers:LV) {β:Type} (kn:(Int×LV)→Option β) (kr:(Int×Bool×LV)→Option β):Option β:=
 bif decide (t41<t40) then
  aM A6 t41 fun x7=>
  bif (decide (0≤x7.toInt))&&(decide (x7.toInt<(numbers.length:Int))) then
  (numbers[(x7.toInt:Int).toNat]?).bind fun x8=>
  kn (wrap .i64 (t41+1),bm numbers (x7.toInt) (V.int .i64 t41))
  else none
 else
  kr (t41,decide (t41<t40),numbers)
noncomputable def OT (C:af) (t40 ei ej bO bP:Int) (A6 aW aV aF aO:LV):=un fun t41 numbers=>IL C t40 ei ej bO bP A6 aW aV aF aO t41 numbers (fun y=>some (Sum.inl y)) (fun r=>some (Sum.inr r))
noncomputable def afS (C:af):cL:=bR 97 UP [EQ,H1,EQ,EQ,EQ,EQ,EQ,H1,EQ,EQ,EQ,EQ] [[1,0,0,3,4,5,6,7,0,9,10,11,12]] (@IK C) (bR 177 UQ [EQ,H1,EQ,EQ,EQ,EQ,H1,EQ,EQ,EQ,EQ,EQ] [[1,0,0,3,4,5,6,0,8,9,10,11,12]] (@IL C) bH)
theorem att (C:af):bA C (afS C) 47 (Lp [1,1,1,1,0,1,0,0] 47):=bS UP [EQ,H1,EQ,EQ,EQ,EQ,EQ,H1,EQ,EQ,EQ,EQ] [[1,0,0,3,4,5,6,7,0,9,10,11,12]] (@IK C) (bu av)
theorem atu (C:af):bA C (afS C) 47 (Lp [1,1,1,1,1,0,1,0,0] 47):=bS UQ [EQ,H1,EQ,EQ,EQ,EQ,H1,EQ,EQ,EQ,EQ,EQ] [[1,0,0,3,4,5,6,0,8,9,10,11,12]] (@IL C) (bu av)
noncomputable def afT (C:af) (dy dH:Int) (c6 dI:LV):Option LV:=
 (C qS [V.int .i64 dy,V.int .i64 dH,.list ak c6,.list ag dI]).bind fun r1=>
 bif (((V.nth r1 0).toInt):Int) != 0 then
  some [V.int .i64 0,V.int .i64 0,.list ak ([]:LV),.list ag ([]:LV),.list ab ([]:LV)]
 else
  (C NL [V.int .i64 dy,V.int .i64 dH,V.int .i64 dy,V.int .i64 dH,.list ak c6,.list ag dI]).bind fun r2=>
  bif (decide (0≤(((V.nth (((r2.drop 3).drop 1).drop 1) 0).toList).length:Int)))&&((decide ((((V.nth (((r2.drop 3).drop 1).drop 1) 0).toList).length:Int)≤(((V.nth (((r2.drop 3).drop 1).drop 1) 0).toList).length:Int)))&&(Nat.ble ((((((V.nth (((r2.drop 3).drop 1).drop 1) 0).toList).length:Int):Int).toNat)*8) aY)) then
  (Loop (OS C ((List.replicate (((((V.nth (((r2.drop 3).drop 1).drop 1) 0).toList).length:Int):Int).toNat) (V.int .i64 0)).length:Int) 0 0 ((V.nth r2 0).toInt) ((V.nth (r2.drop 1) 0).toInt) ((V.nth ((((r2.drop 3).drop 4).drop 1).drop 1) 0).toList) ([]:LV) ([]:LV) ((V.nth ((r2.drop 3).drop 4) 0).toList) ((V.nth (((r2.drop 3).drop 4).drop 1) 0).toList)) (0,List.replicate (((((V.nth (((r2.drop 3).drop 1).drop 1) 0).toList).length:Int):Int).toNat) (V.int .i64 0))).bind (un fun nK=>un fun (mr:Bool) (atv:LV)=>
   (Loop (OT C (((V.nth ((((r2.drop 3).drop 4).drop 1).drop 1) 0).toList).length:Int) 0 0 ((V.nth r2 0).toInt) ((V.nth (r2.drop 1) 0).toInt) ((V.nth ((((r2.drop 3).drop 4).drop 1).drop 1) 0).toList) ([]:LV) ([]:LV) ((V.nth ((r2.drop 3).drop 4) 0).toList) ((V.nth (((r2.drop 3).drop 4).drop 1) 0).toList)) (0,atv)).bind (un fun xd=>un fun (Wb:Bool) (atw:LV)=>
    some [V.int .i64 ((V.nth r2 0).toInt),V.int .i64 ((V.nth (r2.drop 1) 0).toInt),.list ak ((V.nth ((r2.drop 3).drop 4) 0).toList),.list ag ((V.nth (((r2.drop 3).drop 4).drop 1) 0).toList),.list ab atw]))
  else none
theorem atx {dy dH:Int} {c6 dI:LV} {r:Option LV} (h:afT CC dy dH c6 dI=r):CC DP [V.int .i64 dy,V.int .i64 dH,.list ak c6,.list ag dI]=r:=bI (bB (att CC) (bB (atu CC) av)) h
def nV (q:Nat):V:= .int .i64 (q:Int)
def nS (S:List Nat):List V:=S.map nV
def mS (S:List Nat):List V:=fP nV 0 S
theorem Wc (a b:Nat):iP (nV a) (nV b)=decide (a=b):=ate a b
theorem dC {S:List Nat}:(nS S).length=S.length:=by simp[nS]
theorem yf {S:List Nat} {i:Nat} (h:i<S.length):(nS S)[i]? =some (nV S[i]):=by simp[nS,h]
theorem aty {x:Nat} (hx:x≤1000000):CC HQ [nV x,.list ab []]=some [nV 0,.list ab (nS [x]),.list kg (mS [x])]:=by
 refine ath ?_;unfold afN;rw[zK (by omega)];exact bT rfl (bT rfl (bT (cap (by simp) (by omega)) rfl))
theorem atz {S:List Nat} {x:Nat} (hx:x≤1000000) (hl:S.length≤1000000):CC TX [nV x,.list ab (nS S),.list kg (mS S)]=some [nV ((cO S x).idxOf x),.list kg (mS (cO S x)),.list ab (nS (cO S x))]:=by
 refine ati ?_;unfold afO;have e1:=L9 Wc x S 0;rw[zK (by omega)];refine bT rfl ?_;rw[ZF];by_cases h:x∈S
 ·refine bF (by rw[show gg (.int .i64 (x:Int)) (mS S)=true from e1.trans (ca h)];rfl) ?_;have e2:=Ma Wc x (.int .i64 0) S 0 h;rw[show jX (.int .i64 (x:Int)) (mS S) (.int .i64 0)=_ from e2,aB h,dB,show cO S x=S by unfold cO;rw[aB h]];rfl
 ·refine bT (by rw[show gg (.int .i64 (x:Int)) (mS S)=false from e1.trans (cZ h)];rfl) ?_;refine bT rfl ?_;refine bT (cap (by rw[dC];simp;omega) (by omega)) ?_;have e2:=Mb Wc x S 0 h;rw[dB] at e2;rw[dC,show iQ (.int .i64 (x:Int)) (.int .i64 (S.length:Int)) (mS S)=_ from e2,ax h,show cO S x=S++[x] by unfold cO;rw[ax h]];simp[nS,nV,mS]
theorem atA {a:Da} {q x:Nat} (hq:q<a.n) (hx:x<a.L):CC wS (nV q::nV x::eh a)=some (nV (a.nx q x)::eh a):=by
 refine atf ?_;unfold afL;refine bs (Da.Gy hq) ?_;rw[CU];exact bs (CV hx) rfl
theorem atB {a:Da} {q:Nat} (hq:q<a.n):CC wU (nV q::eh a)=some (.bool (a.fin q)::eh a):=by
 refine atg ?_;unfold afM;exact bs (Da.CW hq) rfl
section
variable {a:Da} (h:a.Ok)
include h
theorem atC {S U:List Nat} {q:Nat} (hq:q<a.n) (hS: ∀s∈S,s<a.n) (hSn:S.length≤1000) (hp:cd a.nx S q a.L <+: U) {i c1 c2:Int} {l1 l2 l3 l4:List V}:
  Loop (OQ CC (a.L:Int) i (q:Int) ((List.replicate (((a.L:Nat):Int).toNat) (V.int .i64 0)).length:Int) c1 c2 (a.L:Int) 0 l1 l2 l3 l4) (0,(a.L:Int),(a.st:Int),a.cG,a.cN,List.replicate (((a.L:Nat):Int).toNat) (V.int .i64 0),nS S,mS S)=
   some ((a.L:Int),false,(a.L:Int),(a.st:Int),a.cG,a.cN,(tab a.L fun x=>nV (U.idxOf (a.nx q x))),nS (cd a.nx S q a.L),mS (cd a.nx S q a.L)):=by
 have h6:=h.l6;rw[Int.toNat_natCast,o6,eG];refine (fI a.L (fun x=>((x:Int),(a.L:Int),(a.st:Int),a.cG,a.cN,(tab a.L fun j=>if j<x then nV (U.idxOf (a.nx q j)) else nV 0),nS (cd a.nx S q x),mS (cd a.nx S q x))) _ (fun x hx=> ?_) ?_)
 ·simp only[OQ,IH,un,aM,bm];refine bT (bn hx) ?_;refine bs (atA hq hx) ?_;have hT:(cd a.nx S q x).length≤1000000:=by
   have: ∀x,(cd a.nx S q x).length≤S.length+x:=by
    intro x
    induction x with
    | zero=>exact aw _
    | succ x ih=>rw[cd,Ei];split<;>omega
   have:=this x;omega
  refine bs (atz (S:=cd a.nx S q x) (by have:=h.lh hq hx;have:=h.eb;omega) hT) ?_;refine (ni hx).trans ?_;rw[bq (by omega),Int.toNat_natCast,lO];have e:(cO (cd a.nx S q x) (a.nx q x)).idxOf (a.nx q x)=U.idxOf (a.nx q x):=(zL ((zM S q (show x+1≤a.L by omega)).trans hp) zN).symm;show some (Sum.inl _)=some (Sum.inl _);refine congrArg (fun x=>some (Sum.inl x)) ?_;refine cI rfl (cI rfl (cI rfl (cI rfl (cI rfl (cI ?_ (cI rfl rfl))))));refine c8 fun j _=> ?_;by_cases hj:j=x
  ·rw[aB hj,dp,hj,←e];rfl
  ·rw[ax hj];by_cases dw:j<x
   ·rw[aB dw,dp]
   ·rw[ax dw,dq]
 ·simp only[OQ,IH,un,aM,bm];refine bF (aX (aw _)) ?_;rw[aX (aw _)];have:(tab a.L fun j=>if j<a.L then nV (U.idxOf (a.nx q j)) else nV 0)=tab a.L fun j=>nV (U.idxOf (a.nx q j)):=c8 fun j hj=>aB hj;rw[this]
theorem atD:CC NL ([nV a.L,nV a.st]++eh a)=some ([nV a.L,nV 0,.int .i64 0]++(eh a++[.list ak a.trim.cG,.list ag a.trim.cN,.list ab (nS (aC a.L a.nx a.st a.n))])):=by
 have h6:=h.l6;have hm:=h.eb;have hd:=h.xb a.n;refine ats ?_;unfold afR;refine bs (aty (by have:=h.s;omega)) ?_;have key:Loop (OR CC (a.L:Int) 0 0 (a.L:Int) 0 ([]:List V) ([]:List V)) (0,(a.L:Int),(a.st:Int),a.cG,a.cN,nS [a.st],mS [a.st],([]:List V),([]:List V))=
   some (.inr (((aC a.L a.nx a.st a.n).length:Int),false,(a.L:Int),(a.st:Int),a.cG,a.cN,nS (aC a.L a.nx a.st a.n),mS (aC a.L a.nx a.st a.n),a.trim.cG,a.trim.cN)):=by
  refine (fI (aC a.L a.nx a.st a.n).length (fun i=>((i:Int),(a.L:Int),(a.st:Int),a.cG,a.cN,nS (aC a.L a.nx a.st i),mS (aC a.L a.nx a.st i),(tab i fun j=>V.bool (a.trim.fin j)),(tab i fun j=>nX a.L (a.trim.nx j)))) _ (fun i hi=> ?_) ?_)
  ·have ra:=Mf hd hi;have Rs:(aC a.L a.nx a.st i)[i]=(aC a.L a.nx a.st a.n)[i]:=(sh (show i≤a.n by omega)).getElem ra;have hq:(aC a.L a.nx a.st a.n)[i]<a.n:=h.IB _ _ (dc hi);have hlen:(aC a.L a.nx a.st i).length≤512:=mM (h.xb i) hm;have aAy:(aC a.L a.nx a.st (i+1)).length≤512:=mM (h.xb (i+1)) hm;have pZ:=IA hd hi;simp only[OR,II,un,aM];refine bT (ca (by rw[dC];omega)) ?_;refine (b7 (yf ra)).trans ?_;refine bT (gG (by omega) (by omega)) ?_;rw[Rs];refine bs (atC h hq (h.IB i) (by omega) (U:=aC a.L a.nx a.st a.n) (by rw[←pZ];exact sh (by omega))) ?_;rw[←pZ];refine bF (cZ (by rw[dC];omega)) ?_;refine bT (cap (by rw[eG];simp;omega) (by omega)) ?_;refine bs (atB hq) ?_;refine bT (cap (by rw[eG];simp;omega) (by omega)) ?_;rw[bq (by omega),CX,CX];have e1:a.trim.fin i=a.fin (aC a.L a.nx a.st a.n)[i]:=Rt hi;have e2:nX a.L (a.trim.nx i)= .list ab (tab a.L fun x=>nV ((aC a.L a.nx a.st a.n).idxOf (a.nx (aC a.L a.nx a.st a.n)[i] x))):=by
    unfold nX;refine congrArg _ (c8 fun x hx=> ?_);rw[show a.trim.nx i x=_ from GA hi hx];rfl
   rw[e1,e2];rfl
  ·simp only[OR,II,un,aM];rw[Ru hd,dC];refine bF (aX (aw _)) ?_;rw[aX (aw _)];have e3:a.trim.n=(aC a.L a.nx a.st a.n).length:=tv;unfold Da.cG Da.cN;rw[e3];rfl
 refine bs key ?_;rfl
end
def pk (U:List Nat) (n:Nat):List V:=tab n fun q=>if q∈U then nV (U.idxOf q) else .int .i64 (-1)
theorem atE {U:List Nat} {n i:Nat} (hU:U.Nodup) (hi:i<U.length):(tab n fun q=>if q∈U.take i then nV (U.idxOf q) else V.int .i64 (-1)).set U[i] (.int .i64 (i:Int))=tab n fun q=>if q∈U.take (i+1) then nV (U.idxOf q) else V.int .i64 (-1):=by
 rw[lO];refine c8 fun q _=> ?_;have e:q∈U.take (i+1)↔q∈U.take i∨q=U[i]:=by rw[Kb hi,fj,fS]
 by_cases hq:q=U[i]
 ·rw[aB hq,aB (e.2 (.inr hq)),hq,hU.idxOf_getElem i hi];rfl
 ·rw[ax hq];by_cases h2:q∈U.take i
  ·rw[aB h2,aB (e.2 (.inl h2))]
  ·rw[ax h2,ax fun h3=>(e.1 h3).elim h2 hq]
theorem afU {a:Da} (h:a.Ok):CC DP (eh a)=some (eh a.trim++[.list ab (pk (aC a.L a.nx a.st a.n) a.n)]):=by
 have hm:=h.eb;have hU:=h.IB a.n;have hle:=h.xb a.n;refine atx ?_;unfold afT;refine bs (o7 h) ?_;refine bF rfl ?_;refine bs (atD h) ?_;have e0:((V.nth (((([nV a.L,nV 0,V.int .i64 0]++(eh a++[V.list ak a.trim.cG,V.list ag a.trim.cN,V.list ab (nS (aC a.L a.nx a.st a.n))])).drop 3).drop 1).drop 1) 0).toList)=a.cG:=rfl;rw[e0,Da.Gi];refine bT (gG (by omega) (by omega)) ?_;rw[Int.toNat_natCast,o6,eG];generalize hUd:aC a.L a.nx a.st a.n=U at*
 have l1: ∀{c1 c2 c3 c4:Int} {s1 s2 s3 s4 s5:List V},Loop (OS CC (a.n:Int) c1 c2 c3 c4 s1 s2 s3 s4 s5) (0,tab a.n fun _=>V.int .i64 0)=some ((a.n:Int),false,tab a.n fun q=>if q∈U.take 0 then nV (U.idxOf q) else V.int .i64 (-1)):=by
  intro c1 c2 c3 c4 s1 s2 s3 s4 s5;refine (fI a.n (fun i=>((i:Int),(tab a.n fun j=>if j<i then V.int .i64 (-1) else V.int .i64 0))) _ (fun i hi=> ?_) ?_)
  ·simp only[OS,IK,un,aM,bm];refine bT (bn hi) ?_;refine (ni hi).trans ?_;rw[bq (by omega),Int.toNat_natCast,lO];refine congrArg (fun x=>some (Sum.inl (((i+1:Nat):Int),x))) (c8 fun j _=> ?_);by_cases hj:j=i
   ·rw[aB hj,dp]
   ·rw[ax hj];by_cases dw:j<i
    ·rw[aB dw,dp]
    ·rw[ax dw,dq]
  ·simp only[OS,IK,un,aM,bm];refine bF (aX (aw _)) ?_;rw[aX (aw _)];refine congrArg (fun x=>some (Sum.inr ((a.n:Int),false,x))) (c8 fun j hj=> ?_);rw[aB hj,List.take_zero,ax (by simp)]
 refine bs l1 ?_;simp only[un];have hUn:U.Nodup:=by rw[←hUd];exact Ej _
 have l2: ∀{c1 c2 c3 c4:Int} {s2 s3 s4 s5:List V},Loop (OT CC ((nS U).length:Int) c1 c2 c3 c4 (nS U) s2 s3 s4 s5) (0,tab a.n fun q=>if q∈U.take 0 then nV (U.idxOf q) else V.int .i64 (-1))=some ((U.length:Int),false,pk U a.n):=by
  intro c1 c2 c3 c4 s2 s3 s4 s5;rw[dC];refine (fI U.length (fun i=>((i:Int),(tab a.n fun q=>if q∈U.take i then nV (U.idxOf q) else V.int .i64 (-1)))) _ (fun i hi=> ?_) ?_)
  ·have hq:=hU U[i] (dc hi);simp only[OT,IL,un,aM,bm];refine bT (bn hi) ?_;refine (b7 (yf hi)).trans ?_;refine (ni (i:=U[i]) hq).trans ?_;rw[bq (by omega)];refine congrArg (fun x=>some (Sum.inl (((i+1:Nat):Int),x))) ?_;exact atE hUn hi
  ·simp only[OT,IL,un,aM,bm];refine bF (aX (aw _)) ?_;rw[aX (aw _),vu];rfl
 refine bs l2 ?_;rfl
noncomputable def IM (C:af) (f t13:LV) (t14 t15:Int) {β:Type} (kn:Int→Option β) (kr:((Bool) ⊕ (Int×Bool))→Option β):Option β:=
 bif decide (t15<t14) then
  (idx t13 t15).bind fun x1=>
  bif decide ((x1.toInt:Int)<0) then
  kr (.inl false)
  else
  bif decide ((x1.toInt:Int)≥(f.length:Int)) then
   kr (.inl false)
  else
   kn (wrap .i64 (t15+1))
 else
  kr (.inr (t15,decide (t15<t14)))
noncomputable def Wd (C:af) (f t13:LV) (t14:Int):=fun t15=>IM C f t13 t14 t15 (fun y=>some (Sum.inl y)) (fun r=>some (Sum.inr r))
noncomputable def atF (C:af):cL:=bR 65 VC [EQ,EQ,EQ,H1] [[0],[1,2,3,0,0]] (@IM C) bH
theorem atG (C:af):bA C (atF C) 132 (Lp [1,1,0,1,0,0] 132):=bS VC [EQ,EQ,EQ,H1] [[0],[1,2,3,0,0]] (@IM C) (bu av)
noncomputable def afV (C:af) (f:LV):Option LV:=
 bif decide ((f.length:Int)<1) then
  some [.bool false]
 else
  bif decide ((f.length:Int)>32) then
  some [.bool false]
  else
  (Loop (Wd C f f (f.length:Int)) 0).bind (fX (fun (A7:Bool)=>
   some [.bool A7]) (un fun (kO:Int) (nK:Bool)=>
   some [.bool true]))
theorem atH {f:LV} {r:Option LV} (h:afV CC f=r):CC DY [.list ab f]=r:=bI (bB (atG CC) av) h
noncomputable def IN (C:af) (t14 t15:Int) (fs:LV) {β:Type} (kn:(Int×LV)→Option β) (kr:(Int×Bool×LV)→Option β):Option β:=
 bif decide (t15<t14) then
  aM fs t15 fun x1=>
  kn (wrap .i64 (t15+1),bm fs t15 (V.int .i64 t15))
 else
  kr (t15,decide (t15<t14),fs)
noncomputable def We (C:af) (t14:Int):=un fun t15 fs=>IN C t14 t15 fs (fun y=>some (Sum.inl y)) (fun r=>some (Sum.inr r))
noncomputable def atI (C:af):cL:=bR 81 VD [EQ,H1,H1] [[1,0,0,0]] (@IN C) bH
theorem atJ (C:af):bA C (atI C) 134 (Lp [1,1,1,0,1,0,0] 134):=bS VD [EQ,H1,H1] [[1,0,0,0]] (@IN C) (bu av)
noncomputable def afW (C:af) (n:Int):Option LV:=
 bif decide (n<1) then
  some [.list ab ([]:LV)]
 else
  bif decide (n>32) then
  some [.list ab ([]:LV)]
  else
  bif (decide (0≤n))&&((decide (n≤n))&&(Nat.ble ((n.toNat)*8) aY)) then
   (Loop (We C ((List.replicate (n.toNat) (V.int .i64 0)).length:Int)) (0,List.replicate (n.toNat) (V.int .i64 0))).bind (un fun A7=>un fun (kO:Bool) (atK:LV)=>
    some [.list ab atK])
  else none
theorem atL {n:Int} {r:Option LV} (h:afW CC n=r):CC NZ [V.int .i64 n]=r:=bI (bB (atJ CC) av) h
noncomputable def IP (C:af) (g t26:LV) (t27 t28:Int) (IQ:LV) {β:Type} (kn:(Int×LV)→Option β) (kr:(Int×Bool×LV)→Option β):Option β:=
 bif decide (t28<t27) then
  (idx t26 t28).bind fun x3=>
  (idx g x3.toInt).bind fun x4=>
  aM IQ t28 fun x5=>
  kn (wrap .i64 (t28+1),bm IQ t28 (V.int .i64 x4.toInt))
 else
  kr (t28,decide (t28<t27),IQ)
noncomputable def Wf (C:af) (g t26:LV) (t27:Int):=un fun t28 IQ=>IP C g t26 t27 t28 IQ (fun y=>some (Sum.inl y)) (fun r=>some (Sum.inr r))
noncomputable def atM (C:af):cL:=bR 81 VF [EQ,EQ,EQ,H1,H1] [[1,2,3,0,0,0]] (@IP C) bH
theorem atN (C:af):bA C (atM C) 136 (Lp [1,1,1,0,1,0,0] 136):=bS VF [EQ,EQ,EQ,H1,H1] [[1,2,3,0,0,0]] (@IP C) (bu av)
noncomputable def afX (C:af) (f g:LV):Option LV:=
 bif (f.length:Int) != (g.length:Int) then
  some [.list ab ([]:LV)]
 else
  (C DY [.list ab f]).bind fun r1=>
  bif !((V.nth r1 0).toBool) then
  some [.list ab ([]:LV)]
  else
  (C DY [.list ab g]).bind fun r2=>
  bif !((V.nth r2 0).toBool) then
   some [.list ab ([]:LV)]
  else
   bif (decide (0≤(f.length:Int)))&&((decide ((f.length:Int)≤(f.length:Int)))&&(Nat.ble (((f.length:Int).toNat)*8) aY)) then
   (Loop (Wf C g f (f.length:Int)) (0,List.replicate ((f.length:Int).toNat) (V.int .i64 0))).bind (un fun j5=>un fun (oD:Bool) (atO:LV)=>
    some [.list ab atO])
   else none
theorem atP {f g:LV} {r:Option LV} (h:afX CC f g=r):CC HW [.list ab f,.list ab g]=r:=bI (bB (atN CC) av) h
noncomputable def IS (C:af) (t9:LV) (t10 t11:Int) (IT:LV) {β:Type} (kn:(Int×LV)→Option β) (kr:(Int×Bool×LV)→Option β):Option β:=
 bif decide (t11<t10) then
  (idx t9 t11).bind fun x1=>
  aM IT t11 fun x2=>
  kn (wrap .i64 (t11+1),bm IT t11 (.int .u8 (wrap .u8 x1.toInt)))
 else
  kr (t11,decide (t11<t10),IT)
noncomputable def Wg (C:af) (t9:LV) (t10:Int):=un fun t11 IT=>IS C t9 t10 t11 IT (fun y=>some (Sum.inl y)) (fun r=>some (Sum.inr r))
noncomputable def atQ (C:af):cL:=bR 49 VE [EQ,EQ,H1,H1] [[1,2,0,0,0]] (@IS C) bH
theorem atS (C:af):bA C (atQ C) 135 (Lp [1,1,0,1,0,0] 135):=bS VE [EQ,EQ,H1,H1] [[1,2,0,0,0]] (@IS C) (bu av)
noncomputable def afY (C:af) (f:LV):Option LV:=
 bif (decide (0≤(f.length:Int)))&&((decide ((f.length:Int)≤(f.length:Int)))&&(Nat.ble (((f.length:Int).toNat)*1) aY)) then
  (Loop (Wg C f (f.length:Int)) (0,List.replicate ((f.length:Int).toNat) (V.int .u8 0))).bind (un fun kO=>un fun (nK:Bool) (atT:LV)=>
   some [.str (lE atT)])
 else none
theorem atU {f:LV} {r:Option LV} (h:afY CC f=r):CC yF [.list ab f]=r:=bI (bB (atS CC) av) h
end Go.AM
