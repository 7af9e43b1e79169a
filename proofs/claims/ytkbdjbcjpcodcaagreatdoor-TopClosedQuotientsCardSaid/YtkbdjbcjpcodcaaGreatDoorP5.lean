/-
  Functions of the program, lifted to plain data.
-/
import Derived.Test.YtkbdjbcjpcodcaaGreatDoorProg
import Derived.Tactics
import Derived.Tactics2
import Derived.StillTactics
import Derived.Laws.Pointers
import Derived.Lib.LazyBuf
import Derived.RegionTactic
import Derived.LoopTactic
import Derived.WalkKit
import Derived.Laws.Externs
import Derived.Lib.Builder
import Derived.Recover
import Derived.Test.YtkbdjbcjpcodcaaGreatDoorRows
import Derived.Lib.LaidTab
import Derived.LaidHandle
import Derived.MakeChecks
import Derived.Lay
import Derived.Test.YtkbdjbcjpcodcaaGreatDoorP4
set_option linter.unusedVariables false
set_option linter.unusedSimpArgs false
set_option linter.unusedSectionVars false
set_option maxRecDepth 100000
namespace Go.AM
open Go.IntKind (wrap)
open Go.Proofs
abbrev QN:FuncId:=3
abbrev Lh:FuncId:=4
abbrev FF:FuncId:=5
abbrev Lk:FuncId:=6
abbrev KT:FuncId:=7
abbrev KV:FuncId:=8
abbrev xe:FuncId:=9
abbrev y9:FuncId:=10
abbrev F5:FuncId:=11
abbrev Lg:FuncId:=12
abbrev nD:FuncId:=13
abbrev FB:FuncId:=14
abbrev B0:FuncId:=15
abbrev FC:FuncId:=16
abbrev tJ:FuncId:=17
abbrev E3:FuncId:=18
abbrev My:FuncId:=19
abbrev Mz:FuncId:=20
abbrev CT:FuncId:=21
abbrev Sz:FuncId:=22
abbrev K3:FuncId:=23
abbrev Lc:FuncId:=24
abbrev Lf:FuncId:=25
abbrev FJ:FuncId:=26
abbrev KX:FuncId:=27
abbrev sC:FuncId:=28
abbrev MA:FuncId:=29
abbrev Kh:FuncId:=30
abbrev qm:FuncId:=31
abbrev Kg:FuncId:=32
abbrev E2:FuncId:=33
abbrev SA:FuncId:=34
abbrev SB:FuncId:=35
abbrev SC:FuncId:=36
abbrev SD:FuncId:=37
abbrev CU:FuncId:=38
abbrev SF:FuncId:=39
abbrev am6:FuncId:=40
abbrev am7:FuncId:=41
abbrev abX:FuncId:=42
abbrev am8:FuncId:=43
abbrev am9:FuncId:=44
abbrev y7:FuncId:=45
abbrev CV:FuncId:=46
abbrev MB:FuncId:=47
abbrev MC:FuncId:=48
abbrev GW:FuncId:=49
abbrev BG:FuncId:=50
abbrev jG:FuncId:=51
abbrev Fu:FuncId:=52
abbrev Ft:FuncId:=53
abbrev ana:FuncId:=54
abbrev anb:FuncId:=55
abbrev MD:FuncId:=56
abbrev anc:FuncId:=57
abbrev xG:FuncId:=58
abbrev xH:FuncId:=59
abbrev GX:FuncId:=60
abbrev ane:FuncId:=61
abbrev anf:FuncId:=62
abbrev ang:FuncId:=63
abbrev anh:FuncId:=64
abbrev xI:FuncId:=65
abbrev CW:FuncId:=66
abbrev ME:FuncId:=67
abbrev vV:FuncId:=68
abbrev vW:FuncId:=69
abbrev MF:FuncId:=70
abbrev MG:FuncId:=72
abbrev MH:FuncId:=73
abbrev BF:FuncId:=74
abbrev yP:FuncId:=75
abbrev BW:FuncId:=76
abbrev BT:FuncId:=77
abbrev Fj:FuncId:=78
abbrev Ff:FuncId:=79
abbrev ani:FuncId:=80
abbrev anj:FuncId:=81
abbrev ank:FuncId:=82
abbrev anl:FuncId:=83
abbrev anm:FuncId:=84
abbrev ano:FuncId:=85
abbrev SG:FuncId:=86
abbrev CX:FuncId:=87
abbrev anp:FuncId:=88
abbrev xJ:FuncId:=89
abbrev CY:FuncId:=90
abbrev CZ:FuncId:=91
abbrev C3:FuncId:=92
abbrev C4:FuncId:=93
abbrev C6:FuncId:=94
abbrev C7:FuncId:=95
abbrev anq:FuncId:=96
abbrev GY:FuncId:=97
abbrev MI:FuncId:=98
abbrev MJ:FuncId:=99
abbrev GZ:FuncId:=100
abbrev MK:FuncId:=101
abbrev gi:FuncId:=102
abbrev nt:FuncId:=103
abbrev me:FuncId:=104
abbrev ML:FuncId:=105
abbrev MM:FuncId:=106
abbrev G0:FuncId:=107
abbrev MN:FuncId:=108
abbrev G1:FuncId:=109
abbrev G2:FuncId:=110
abbrev G3:FuncId:=111
abbrev MO:FuncId:=112
abbrev abY:FuncId:=113
abbrev fP:FuncId:=114
abbrev BV:FuncId:=115
abbrev E9:FuncId:=116
abbrev KG:FuncId:=117
abbrev xj:FuncId:=118
abbrev Fb:FuncId:=119
abbrev Fh:FuncId:=120
abbrev anr:FuncId:=121
abbrev ans:FuncId:=122
abbrev ant:FuncId:=123
abbrev anu:FuncId:=124
abbrev anv:FuncId:=125
abbrev anw:FuncId:=126
abbrev anx:FuncId:=127
abbrev anz:FuncId:=128
abbrev MP:FuncId:=129
abbrev xK:FuncId:=130
abbrev C8:FuncId:=131
abbrev C9:FuncId:=132
abbrev MQ:FuncId:=133
abbrev xL:FuncId:=134
abbrev G4:FuncId:=135
abbrev G5:FuncId:=136
abbrev G6:FuncId:=137
abbrev anA:FuncId:=138
abbrev anB:FuncId:=139
abbrev anC:FuncId:=140
abbrev anD:FuncId:=141
abbrev anE:FuncId:=142
abbrev G7:FuncId:=143
abbrev MR:FuncId:=145
abbrev MS:FuncId:=146
abbrev MT:FuncId:=147
abbrev MU:FuncId:=148
abbrev SH:FuncId:=149
abbrev MV:FuncId:=150
abbrev zF:FuncId:=151
abbrev abZ:FuncId:=152
abbrev MW:FuncId:=154
abbrev nr:FuncId:=155
abbrev Ko:FuncId:=156
abbrev SJ:FuncId:=157
abbrev anF:FuncId:=158
abbrev SK:FuncId:=159
abbrev anG:FuncId:=160
abbrev anH:FuncId:=161
abbrev anI:FuncId:=162
abbrev anJ:FuncId:=163
abbrev zG:FuncId:=164
abbrev anK:FuncId:=165
abbrev anL:FuncId:=167
abbrev anM:FuncId:=168
abbrev anN:FuncId:=169
abbrev anO:FuncId:=170
abbrev anP:FuncId:=171
abbrev anQ:FuncId:=172
abbrev rL:FuncId:=173
abbrev MX:FuncId:=174
abbrev anR:FuncId:=175
abbrev cO:FuncId:=176
abbrev anS:FuncId:=177
abbrev Db:FuncId:=178
abbrev anT:FuncId:=180
abbrev anU:FuncId:=181
abbrev anV:FuncId:=182
abbrev anW:FuncId:=183
abbrev anX:FuncId:=184
abbrev anY:FuncId:=185
abbrev anZ:FuncId:=187
abbrev an0:FuncId:=188
abbrev an1:FuncId:=189
abbrev an2:FuncId:=190
abbrev an3:FuncId:=191
abbrev an4:FuncId:=192
abbrev an5:FuncId:=193
abbrev an6:FuncId:=194
abbrev an7:FuncId:=196
abbrev an8:FuncId:=197
abbrev an9:FuncId:=198
abbrev aoa:FuncId:=199
abbrev aob:FuncId:=200
abbrev aoc:FuncId:=201
abbrev aod:FuncId:=202
abbrev aoe:FuncId:=203
abbrev ab:TypeId:=3
abbrev ar:TypeId:=4
abbrev G8:TypeId:=5
abbrev cz:TypeId:=9
abbrev ag:TypeId:=22
abbrev ou:TypeId:=23
abbrev cB:TypeId:=53
abbrev Dc:TypeId:=82
abbrev EX:TypeId:=98
abbrev E0:TypeId:=101
abbrev ai:TypeId:=106
abbrev iR:TypeId:=108
abbrev cP:TypeId:=112
abbrev vX:TypeId:=123
abbrev G9:TypeId:=128
abbrev lg:TypeId:=133
abbrev lh:TypeId:=168
abbrev Fa:TypeId:=192
abbrev ew:TypeId:=215
abbrev bJ:TypeId:=228
abbrev SL:Nat:=225
abbrev gB:Nat:=241
def MY:List V:=[.int .u8 0,.int .u8 1,.int .u8 56,.int .u8 2,.int .u8 57,.int .u8 49,.int .u8 28,.int .u8 3,.int .u8 61,.int .u8 58,.int .u8 42,.int .u8 50,.int .u8 38,.int .u8 29,.int .u8 17,.int .u8 4,.int .u8 62,.int .u8 47,.int .u8 59,.int .u8 36,.int .u8 45,.int .u8 43,.int .u8 51,.int .u8 22,.int .u8 53,.int .u8 39,.int .u8 33,.int .u8 30,.int .u8 24,.int .u8 18,.int .u8 12,.int .u8 5,.int .u8 63,.int .u8 55,.int .u8 48,.int .u8 27,.int .u8 60,.int .u8 41,.int .u8 37,.int .u8 16,.int .u8 46,.int .u8 35,.int .u8 44,.int .u8 21,.int .u8 52,.int .u8 32,.int .u8 23,.int .u8 11,.int .u8 54,.int .u8 26,.int .u8 40,.int .u8 15,.int .u8 34,.int .u8 20,.int .u8 31,.int .u8 10,.int .u8 25,.int .u8 14,.int .u8 19,.int .u8 9,.int .u8 13,.int .u8 8,.int .u8 7,.int .u8 6]
abbrev aa:VS:= .one (.int .i64)
abbrev ak:VS:= .one (.bool)
abbrev sX:VS:= .one (.nl ab)
abbrev aY:VS:= .one (.aG 0 0 0)
abbrev dh:VS:= .one (.list ag)
abbrev db:VS:= .one (.list ab)
abbrev cF:VS:= .one (.aG 1 0 0)
abbrev iu:VS:= .one (.str)
abbrev dF:VS:= .one (.list cB)
abbrev cu:VS:= .one (.whole cB 0)
abbrev dz:VS:= .one (.aG 2 0 0)
abbrev sY:VS:= .one (.list ar)
abbrev mw:VS:= .one (.whole ab 4)
abbrev dS:VS:= .one (.list vX)
abbrev lO:VS:= .one (.whole ab 3)
abbrev aof:VS:= .one (.whole Dc 3)
abbrev rM:VS:= .one (.list bJ)
abbrev Dd:VS:= .one (.whole ag 5)
abbrev pS:VS:= .one (.whole ag 1)
abbrev jr:VS:= .one (.int .u64)
abbrev zH:VS:= .one (.whole ag 6)
abbrev xM:VS:= .one (.whole ag 2)
abbrev aog:VS:= .one (.whole Dc 4)
abbrev zI:VS:= .one (.uN)
abbrev Ha:VS:= .one (.cY cP 7)
abbrev sZ:VS:= .one (.list ai)
abbrev ov:VS:= .one (.whole ab 0)
abbrev aoh:VS:= .one (.whole ar 5)
abbrev pU:VS:= .one (.whole ab 1)
abbrev zJ:VS:= .one (.whole ag 7)
abbrev oR:VS:= .one (.aG 3 0 0)
abbrev SM:VS:= .one (.whole ab 10)
abbrev ab0:VS:= .one (.whole ar 3)
abbrev Hb:VS:= .one (.list cz)
abbrev SN:VS:= .one (.whole ar 6)
abbrev vY:VS:= .one (.whole cz 3)
abbrev ab1:VS:= .one (.whole ar 4)
abbrev SO:VS:= .one (.whole ag 8)
abbrev xN:VS:= .one (.aG 5 0 0)
abbrev SP:VS:= .one (.whole cz 8)
abbrev SQ:VS:= .one (.whole ab 9)
abbrev xO:VS:= .one (.whole ag 12)
abbrev ab2:VS:= .one (.whole ew 6)
abbrev aoi:VS:= .one (.whole ag 4)
abbrev Hc:VS:= .one (.whole cB 4)
abbrev MZ:VS:= .one (.whole ag 9)
abbrev zK:VS:= .one (.cY cP 3)
abbrev zL:VS:= .one (.aG 4 0 0)
abbrev zM:VS:= .one (.whole ab 2)
abbrev ab3:VS:= .one (.whole vX 4)
abbrev De:VS:= .one (.whole ag 13)
abbrev M1:VS:= .one (.whole cB 1)
abbrev Hd:VS:= .one (.whole ab 15)
abbrev Dg:VS:= .one (.whole ar 0)
abbrev He:VS:= .one (.whole ab 16)
abbrev aoj:VS:= .one (.whole G8 2)
abbrev Hf:VS:= .one (.whole ar 11)
abbrev Dh:VS:= .one (.whole cB 5)
abbrev SR:VS:= .one (.whole ab 20)
abbrev M3:VS:= .one (.whole ag 14)
abbrev SS:VS:= .one (.whole ew 17)
abbrev Di:VS:= .one (.whole cB 3)
abbrev aok:VS:= .one (.whole ar 7)
abbrev aol:VS:= .one (.whole ar 8)
abbrev M4:VS:= .one (.whole ag 11)
abbrev zN:VS:= .one (.whole cB 6)
abbrev SU:VS:= .one (.whole ab 14)
abbrev ab4:VS:= .one (.whole ag 18)
abbrev ab5:VS:= .one (.whole ar 22)
abbrev ab6:VS:= .one (.whole lg 7)
abbrev aom:VS:= .one (.whole Dc 5)
abbrev ab7:VS:= .one (.whole G8 1)
abbrev M5:VS:= .one (.whole ag 3)
abbrev ab8:VS:= .one (.whole cz 19)
abbrev SW:VS:= .one (.whole ab 17)
abbrev aon:VS:= .one (.whole G8 3)
abbrev M6:VS:= .one (.list Fa)
abbrev SX:VS:= .one (.whole ar 2)
abbrev ab9:VS:= .one (.whole ag 10)
abbrev Dj:VS:= .one (.whole ar 10)
abbrev aoo:VS:= .one (.whole ar 21)
abbrev aop:VS:= .one (.whole cz 9)
abbrev aoq:VS:= .one (.whole ar 12)
abbrev SY:VS:= .one (.whole ab 12)
abbrev SZ:VS:= .one (.whole cB 2)
abbrev aca:VS:= .one (.whole vX 2)
abbrev M7:VS:= .one (.whole ab 11)
abbrev acb:VS:= .one (.whole ab 19)
abbrev acd:VS:= .one (.whole ab 13)
abbrev ace:VS:= .one (.whole ab 18)
abbrev aor:VS:= .one (.whole vX 5)
abbrev Dk:VS:= .one (.int .u8)
abbrev S0:VS:= .one (.whole ab 5)
abbrev S3:VS:= .one (.whole cz 0)
abbrev acf:VS:= .one (.nilS lg)
abbrev acg:VS:= .one (.whole ag 16)
abbrev ach:VS:= .one (.whole ag 15)
abbrev M8:VS:= .one (.whole vX 0)
abbrev aos:VS:= .one (.whole Dc 0)
abbrev S4:VS:= .one (.whole ab 6)
abbrev aot:VS:= .one (.whole ar 9)
abbrev S5:VS:= .one (.whole iR 2)
abbrev aci:VS:= .one (.cY G9 2)
abbrev acj:VS:= .one (.whole ou 6)
abbrev S6:VS:= .one (.whole lg 8)
abbrev ack:VS:= .one (.whole ar 23)
abbrev S7:VS:= .one (.whole Dc 2)
abbrev S8:VS:= .one (.whole ai 2)
abbrev aou:VS:= .one (.whole ai 3)
abbrev acm:VS:= .one (.whole E0 0)
abbrev acn:VS:= .one (.whole ag 17)
abbrev aco:VS:= .one (.whole ew 18)
abbrev acp:VS:= .one (.whole ab 21)
abbrev acq:VS:= .one (.whole EX 0)
abbrev aov:VS:= .one (.whole cz 18)
abbrev aow:VS:= .one (.whole ew 16)
abbrev aox:VS:= .one (.whole cz 17)
abbrev aoy:VS:= .one (.whole ew 15)
abbrev aoz:VS:= .one (.whole cz 16)
abbrev qH:VS:= .agg [.int .i64,.int .i64,.list cB]
abbrev qI:VS:= .agg [.int .i64,.int .i64,.list ai]
abbrev Dl:VS:= .agg [.int .i64,.int .i64,.list ar,.list ag]
abbrev Dm:VS:= .agg [.int .i64,.int .i64,.whole ar 0,.whole ag 1]
abbrev zO:VS:= .agg [.int .i64,.list ag,.list cz,.list ab,.list ar,.list ar]
abbrev S9:VS:= .agg [.str]
abbrev acr:VS:= .agg [.int .i64,.int .i64,.whole ar 1,.whole ag 2]
abbrev Hg:VS:= .agg [.int .i64,.int .i64,.list ai,.int .i64,.int .i64,.list ai]
abbrev aoA:VS:= .agg [.int .i64,.int .i64,.list cB,.int .i64,.int .i64,.list cB,.bool]
abbrev aoB:VS:= .agg [.int .i64,.bool]
abbrev aoC:VS:= .agg [.int .i64,.int .i64,.whole cB 0]
abbrev vZ:BS:= .var 85 [aof]
abbrev uo:BS:= .var 3 [aa]
abbrev uq:BS:= .var 41 [db,aa]
abbrev qJ:BS:= .var 53 [aa,aa,dF]
abbrev qK:BS:= .var 80 [iu]
abbrev mW:BS:= .var 26 [aa,aa,sY,dh]
abbrev pV:BS:= .var 234 [dh,aa,sX,sX,sX,sX,sX,sX,sX,sX,sX,sX,sX]
abbrev zP:BS:= .var 85 [aog]
abbrev ur:BS:= .var 229 [ak,ak,ak,ak,ak,ak]
abbrev Dn:BS:= .var 26 [aa,aa,aoh,zH]
abbrev zQ:BS:= .var 178 [iu,aa]
abbrev Dp:BS:= .var 4 [ak]
abbrev zR:BS:= .var 26 [aa,aa,ab1,Dd]
abbrev Dq:BS:= .var 26 [aa,aa,SN,zJ]
abbrev M9:BS:= .var 26 [aa,aa,ab0,aoi]
abbrev s6:BS:= .var 65 [aa,dh,Hb,db,sY,sY]
abbrev aoD:BS:= .var 175 [aa,ak,pS,xM,lO,mw,Dd,ab2,aa,Ha,SP,SQ,SM]
abbrev aoE:BS:= .var 82 [ab3]
abbrev aoF:BS:= .var 162 [zI,aoj]
abbrev uu:BS:= .var 106 [aa,aa,sZ]
abbrev aoG:BS:= .var 24 [dh]
abbrev Ta:BS:= .var 26 [aa,aa,aok,SO]
abbrev zS:BS:= .var 26 [aa,aa,aol,MZ]
abbrev aoH:BS:= .var 85 [aom]
abbrev aoI:BS:= .var 197 [cF,rM,rM,dh,mw]
abbrev aoJ:BS:= .var 197 [cF,rM,rM,dh,lO]
abbrev aoK:BS:= .var 162 [zI,aon]
abbrev Td:BS:= .var 65 [aa,ab4,ab8,SR,aoo,ab5]
abbrev acs:BS:= .var 91 [pS,ab6,aa]
abbrev acu:BS:= .var 65 [aa,SO,aop,SM,Hf,aoq]
abbrev aoL:BS:= .var 22 [mw]
abbrev aoM:BS:= .var 23 [ab0]
abbrev Te:BS:= .var 266 [jr]
abbrev aoN:BS:= .var 82 [aor]
abbrev Hh:BS:= .var 156 [aa,aa,Hc,aa,aa,Dh,ak]
abbrev aoO:BS:= .var 116 [aa,M1,xM,aa,zK]
abbrev aoP:BS:= .var 197 [cF,rM,rM,dh,zM]
abbrev aoQ:BS:= .var 162 [zI,ab7]
abbrev Tf:BS:= .var 26 [aa,aa,aot,ab9]
abbrev aoR:BS:= .var 116 [aa,Hc,Dd,aa,zK]
abbrev aoS:BS:= .var 91 [xM,acf,aa]
abbrev aoT:BS:= .var 136 [aa,ak,De,M3,Hd,He,zH,SS,aa]
abbrev Na:BS:= .var 106 [aa,aa,aou]
abbrev Nb:BS:= .var 158 [aa,ak]
abbrev aoU:BS:= .var 82 [aca]
abbrev acv:BS:= .var 26 [aa,aa,SX,M5]
abbrev aoV:BS:= .var 175 [aa,ak,xO,De,SU,Hd,acg,SS,aa,Ha,aov,acb,SR]
abbrev aoW:BS:= .var 175 [aa,ak,M4,xO,acd,SU,ach,aow,aa,Ha,aox,ace,acb]
abbrev Tg:BS:= .var 228 [aa,aa]
abbrev aoX:BS:= .var 175 [aa,ak,pS,M4,SY,acd,M3,aoy,aa,Ha,aoz,SW,ace]
abbrev aoY:BS:= .var 116 [aa,Hc,Dd,aa,.one (.cY cP 6)]
abbrev acw:BS:= .var 136 [aa,ak,xO,De,SU,Hd,acg,SS,aa]
abbrev acx:BS:= .var 65 [aa,ab9,.one (.whole cz 11),SY,.one (.whole ar 13),.one (.whole ar 14)]
abbrev acy:BS:= .var 136 [aa,ak,ach,MZ,He,SW,ab4,.one (.whole ew 19),aa]
abbrev acz:BS:= .var 65 [aa,.one (.whole ag 20),.one (.whole cz 21),.one (.whole ab 22),ack,.one (.whole ar 24)]
abbrev aoZ:BS:= .var 136 [aa,ak,De,M3,Hd,He,acn,aco,aa]
abbrev ao0:BS:= .var 65 [aa,.one (.whole ag 19),.one (.whole cz 20),acp,ab5,ack]
abbrev acA:BS:= .var 101 [iu,ak,.one (.whole iR 3),aa,aa]
abbrev ao1:BS:= .var 170 [.one (.whole ab 7),.one (.cY lh 8)]
abbrev ao2:BS:= .var 136 [aa,ak,xM,M5,mw,S0,zH,.one (.whole ew 7),aa]
abbrev ao3:BS:= .var 175 [aa,ak,SO,MZ,SM,M7,xO,.one (.whole ew 13),aa,.one (.cY cP 14),.one (.whole cz 15),He,SW]
abbrev bc:BS:= .arr ab false
abbrev bn:BS:= .arr ag false
abbrev bY:BS:= .arr ar false
abbrev dN:BS:= .arr cB false
abbrev js:BS:= .arr cz false
abbrev oS:BS:= .arr ew false
abbrev ow:BS:= .arr vX false
abbrev zT:BS:= .arr G8 false
abbrev v5:BS:= .arr lg false
abbrev zU:BS:= .arr ag true
abbrev xP:BS:= .arr ai false
abbrev Th:BS:= .arr ab true
abbrev zV:BS:= .arr iR false
abbrev Hi:BS:= .arr EX false
abbrev Ti:BS:= .arr E0 false
abbrev Tj:BS:= .arr bJ false
abbrev iF:BS:= .nest Dc
abbrev lQ:BS:= .nest ag
abbrev Tk:BS:= .nest ou
abbrev bz:List BS:=[dN]
abbrev iv:List BS:=[uo]
abbrev nM:List BS:=[bc]
abbrev ox:List BS:=[zQ]
abbrev pW:List BS:=[aoD,bn,bn,bc,bc,bn,oS,.map cP,js,bc,bc]
abbrev rN:List BS:=[bY]
abbrev rO:List BS:=[aoE,vZ,.dead,iF,ow]
abbrev rP:List BS:=[uq]
abbrev s7:List BS:=[mW]
abbrev s8:List BS:=[aoF,.dead,zT]
abbrev uv:List BS:=[qK,vZ,qJ,iF]
abbrev uw:List BS:=[vZ,qJ,zP,iF,iF]
abbrev ux:List BS:=[aoG]
abbrev xQ:List BS:=[uq,M9,Dn,bY,bn,bY,lQ]
abbrev xR:List BS:=[qK,uo,vZ,iF]
abbrev xS:List BS:=[qK,zP,Dp,aoH,iF,iF]
abbrev zW:List BS:=[aoI,pV,.dead,bc,bc]
abbrev zX:List BS:=[aoJ,pV,.dead,bc]
abbrev zY:List BS:=[aoK,.dead,qJ,zT]
abbrev Dr:List BS:=[uq,zR,Dq,bc,bY,bn,bY,lQ]
abbrev Ds:List BS:=[uq,Dn,Ta,js,bc,bY,bn,bY,lQ]
abbrev Dt:List BS:=[bc,aoL,aoM,bY,Th]
abbrev Du:List BS:=[.dead,dN]
abbrev Dv:List BS:=[Dp,aoN,zP,.dead,iF,ow]
abbrev Hj:List BS:=[ur,ur]
abbrev Hk:List BS:=[aoO,dN,bn,.map cP]
abbrev Hl:List BS:=[aoP,pV,bc]
abbrev Hm:List BS:=[aoQ,zT]
abbrev Hn:List BS:=[bY,bn]
abbrev Ho:List BS:=[uq,bY,lQ]
abbrev Nc:List BS:=[aoR,.dead,.dead,.map cP,dN,bn]
abbrev Nf:List BS:=[zR,Dq,bc,bc,bY,bn,bY,bn]
abbrev Ng:List BS:=[aoS,mW,lQ]
abbrev Nh:List BS:=[acs,zU,.dead,acu,aoT,Td,bn,v5,bn,js,bc,bY,bY,bn,bn,bc,bc,oS,lQ,js,bc,bY,bY]
abbrev Ni:List BS:=[s6,M9,Dn,bY,bn,bY,lQ]
abbrev Nj:List BS:=[ur,ur,lQ]
abbrev Nk:List BS:=[dN,Te]
abbrev Nl:List BS:=[aoU,vZ,ow,iF]
abbrev Tl:List BS:=[aoV,.dead,.dead,.dead,.dead,.dead,.dead,.map cP,.dead,.dead,.dead,bc,bn,bn,bc,bc,bn,oS,js,bc,bc]
abbrev Tm:List BS:=[aoW,.dead,.dead,.dead,.dead,.dead,.dead,.map cP,.dead,.dead,.dead,bn,bn,bc,bc,bn,oS,js,bc,bc]
abbrev Tn:List BS:=[pV,bc,bc]
abbrev To:List BS:=[aoX,bn,.dead,.dead,.dead,.dead,.dead,.map cP,.dead,.dead,.dead,bn,bc,bc,bn,oS,js,bc,bc]
abbrev acB:List BS:=[acv,aoY,bY,bn,dN,bn,.map cP]
abbrev acC:List BS:=[uq,zR,Dq,js,bY,bn,bY,lQ]
abbrev acD:List BS:=[Dq,bc,zS,bc,bc,bc,bY,bn,bY,bn]
abbrev acE:List BS:=[acs,zU,.dead,acu,aoZ,ao0,Tk,v5,bn,js,bc,bY,bY,bn,bn,bc,bc,bn,oS,lQ,js,bc,bY,bY]
abbrev acF:List BS:=[mW,Dn,ao1,Tf,bc,bY,bn,bc,.map lh,bY,bn]
abbrev acG:List BS:=[ao2,ao3,bn,bn,bc,bc,bn,oS,bn,bn,bc,bc,bn,oS,.map cP,js,bc,bc]
abbrev dG:List (Nat×VS):=[(0,aa)]
abbrev ee:List (Nat×VS):=[(0,ak)]
abbrev kH:List (Nat×VS):=[(0,aY)]
abbrev mX:List (Nat×VS):=[(0,qH)]
abbrev qL:List (Nat×VS):=[(4,ak)]
abbrev xT:List (Nat×VS):=[(0,Dl)]
abbrev zZ:List (Nat×VS):=[(2,aa)]
abbrev z0:List (Nat×VS):=[(4,aa)]
abbrev z7:List (Nat×VS):=[(0,aY),(1,aa),(2,aa)]
abbrev z8:List (Nat×VS):=[(0,qH),(1,aa)]
abbrev z9:List (Nat×VS):=[(0,dh)]
abbrev Aa:List (Nat×VS):=[(0,cu)]
abbrev Hp:List (Nat×VS):=[(0,aY),(1,aa)]
abbrev Hq:List (Nat×VS):=[(0,aa),(1,aa)]
abbrev Hr:List (Nat×VS):=[(0,iu)]
abbrev Hs:List (Nat×VS):=[(0,jr)]
abbrev Ht:List (Nat×VS):=[(0,acr)]
abbrev Hu:List (Nat×VS):=[(0,aos)]
abbrev Hv:List (Nat×VS):=[(0,ov)]
abbrev Hw:List (Nat×VS):=[(0,M1)]
abbrev Nm:List (Nat×VS):=[(0,db),(1,aa)]
abbrev Nn:List (Nat×VS):=[(0,S9),(1,qH),(2,dS)]
abbrev No:List (Nat×VS):=[(0,aa),(1,aY),(2,cF),(3,dz)]
abbrev Np:List (Nat×VS):=[(0,aoA)]
abbrev Nq:List (Nat×VS):=[(0,aoB),(1,qH)]
abbrev Nr:List (Nat×VS):=[(0,Dm),(1,aa)]
abbrev Ns:List (Nat×VS):=[(0,aoC)]
abbrev Ts:List (Nat×VS):=[(0,db),(1,db)]
abbrev Tt:List (Nat×VS):=[(0,aa),(1,dF)]
abbrev Tu:List (Nat×VS):=[(0,aa),(1,aY)]
abbrev Tv:List (Nat×VS):=[(0,aa),(1,aY),(2,cF)]
abbrev Tw:List (Nat×VS):=[(0,qI),(1,ak)]
abbrev acH:List (Nat×VS):=[(0,aY),(1,aa),(6,cF),(7,dz),(8,aa),(9,aa)]
abbrev acI:List (Nat×VS):=[(0,aY),(2,pU),(7,dz),(8,aa),(11,rM),(12,aa),(13,aa)]
abbrev acJ:List (Nat×VS):=[(11,db),(13,db),(15,db),(70,aa),(71,aa)]
def QM:Shape×List (Out×Shape):=(⟨acJ,[]⟩,[(.ret,⟨qL,[]⟩),(.exit 0,⟨acJ++[(72,ak)],[]⟩)])
abbrev acK:List (Nat×VS):=[(0,aY),(1,aa),(7,ab7),(8,aa)]
def QK:Shape×List (Out×Shape):=(⟨acK,[uq,zT]⟩,[(.exit 0,⟨acK++[(14,ak)],[uq,zT]⟩)])
abbrev acL:List (Nat×VS):=[(1,iu),(4,aY),(6,cF),(8,SX),(30,aa),(31,aa)]
def Qn:Shape×List (Out×Shape):=(⟨acL,[M9,Dn,bY,bY,bn,bY,bn]⟩,[(.exit 0,⟨acL++[(32,ak)],[M9,Dn,bY,bY,bn,bY,bn]⟩)])
abbrev acM:List (Nat×VS):=[(0,iu),(1,aa),(18,aa),(19,aa)]
def Tx:Shape×List (Out×Shape):=(⟨acM,[]⟩,[(.ret,⟨qL,[]⟩),(.exit 0,⟨acM++[(20,ak)],[]⟩)])
abbrev acN:List (Nat×VS):=[(1,aa),(2,iu),(3,aY),(30,aa),(31,aa)]
def Tz:Shape×List (Out×Shape):=(⟨acN,s7⟩,[(.exit 0,⟨acN++[(32,ak)],s7⟩)])
abbrev acO:List (Nat×VS):=[(1,aa),(7,aY),(9,pU),(33,aa),(34,aa)]
def PQ:Shape×List (Out×Shape):=(⟨acO,[s6,bc]⟩,[(.exit 0,⟨acO++[(35,ak)],[s6,bc]⟩)])
def TA:Shape×List (Out×Shape):=(⟨[(4,aY),(7,cF)],acB⟩,[(.ret,⟨[(4,aY),(5,aa)],[.var 26 [aa,aa,.one (.whole ar 1),xM],bY,bn]⟩),(.exit 0,⟨[(4,aY),(7,cF),(22,ak)],acB⟩)])
def Qv:Shape×List (Out×Shape):=(⟨[(6,cF),(7,dz),(8,aa),(17,aa),(18,aa),(25,.one (.row ab 3 [0])),(26,aa),(27,aa)],[uq,zR,.var 26 [aa,aa,SN,M5],lQ,bY,bn,bY]⟩,[(.exit 2,⟨[(6,cF),(7,dz),(8,aa),(17,aa),(18,aa),(25,.one (.row ab 3 [0])),(26,aa),(27,aa),(28,ak)],[uq,zR,.var 26 [aa,aa,SN,M5],lQ,bY,bn,bY]⟩)])
abbrev acP:List (Nat×VS):=[(6,cF),(7,dz),(17,aa),(18,aa)]
def Qw:Shape×List (Out×Shape):=(⟨acP,xQ⟩,[(.exit 0,⟨acP++[(19,ak)],xQ⟩)])
def Qz:Shape×List (Out×Shape):=(⟨acH,xQ⟩,[(.exit 0,⟨[(0,aY),(1,aa),(6,cF),(7,dz),(8,aa),(9,aa),(27,ak)],xQ⟩)])
abbrev acQ:List (Nat×VS):=[(0,aY),(1,aa),(6,cF),(7,dz),(8,aa),(10,aa),(11,lO),(12,aa)]
def QA:Shape×List (Out×Shape):=(⟨acQ,Dr⟩,[(.exit 4,⟨acQ++[(52,ak)],Dr⟩)])
abbrev acR:List (Nat×VS):=[(0,aY),(1,aa),(6,cF),(7,dz),(8,aa),(10,aa),(11,lO),(13,aa)]
def QB:Shape×List (Out×Shape):=(⟨acR,Dr⟩,[(.exit 6,⟨acR++[(61,ak)],Dr⟩)])
abbrev acS:List (Nat×VS):=[(0,aY),(1,aa),(6,cF),(7,dz),(8,aa),(10,aa)]
def QC:Shape×List (Out×Shape):=(⟨acS,xQ⟩,[(.exit 2,⟨acS++[(47,ak)],xQ⟩)])
abbrev acT:List (Nat×VS):=[(0,aY),(1,aa),(4,cF),(5,dz),(6,vY),(8,iu),(9,mw),(10,aa),(11,iu),(12,aa),(22,vY),(23,aa),(24,aa),(50,vY),(51,aa),(52,aa)]
def QF:Shape×List (Out×Shape):=(⟨acT,Ds⟩,[(.exit 6,⟨acT++[(53,ak)],Ds⟩)])
abbrev acU:List (Nat×VS):=[(0,aY),(1,aa),(4,cF),(5,dz),(6,vY),(8,iu),(9,mw),(10,aa),(11,iu),(12,aa),(22,vY),(23,aa),(24,aa)]
def QG:Shape×List (Out×Shape):=(⟨acU,Ds⟩,[(.exit 4,⟨acU++[(49,ak)],Ds⟩)])
abbrev acW:List (Nat×VS):=[(0,aY),(1,aa),(4,cF),(5,dz),(6,vY),(8,iu),(9,mw),(10,aa),(22,vY),(23,aa),(24,aa)]
def QH:Shape×List (Out×Shape):=(⟨acW,Ds⟩,[(.exit 2,⟨acW++[(38,ak)],Ds⟩)])
abbrev acX:List (Nat×VS):=[(0,aY),(1,aa),(4,cF),(5,dz),(6,vY),(22,vY),(23,aa),(24,aa)]
def QI:Shape×List (Out×Shape):=(⟨acX,acC⟩,[(.exit 0,⟨acX++[(25,ak)],acC⟩)])
abbrev acY:List (Nat×VS):=[(0,aY),(1,aa),(6,cF),(7,dz),(8,aa),(9,aa),(10,lO),(11,aa)]
def Qt:Shape×List (Out×Shape):=(⟨acY,Dr⟩,[(.exit 2,⟨acY++[(37,ak)],Dr⟩)])
def Qu:Shape×List (Out×Shape):=(⟨acH,xQ⟩,[(.exit 0,⟨[(0,aY),(1,aa),(6,cF),(7,dz),(8,aa),(9,aa),(24,ak)],xQ⟩)])
abbrev acZ:List (Nat×VS):=[(1,aY),(3,aa),(38,dh),(39,aa),(40,aa),(49,db),(50,aa),(51,aa)]
def TB:Shape×List (Out×Shape):=(⟨acZ,s7⟩,[(.ret,⟨zZ,[]⟩),(.exit 2,⟨acZ++[(52,ak)],s7⟩)])
abbrev ac0:List (Nat×VS):=[(1,aY),(3,aa),(38,dh),(39,aa),(40,aa)]
def TC:Shape×List (Out×Shape):=(⟨ac0,s7⟩,[(.ret,⟨zZ,[]⟩),(.exit 0,⟨ac0++[(41,ak)],s7⟩)])
abbrev ac1:List (Nat×VS):=[(1,aY),(2,cF),(4,dz),(5,lO),(6,mw),(7,xN),(8,aa),(10,S4),(28,mw),(29,aa),(30,aa),(47,db),(48,aa),(49,aa)]
def TD:Shape×List (Out×Shape):=(⟨ac1,[mW,Ta,Tf,bc,bc,.var 26 [aa,aa,Hf,xO],bc,bY,bn,bY,bn,bY,bn]⟩,[(.exit 2,⟨ac1++[(50,ak)],[mW,Ta,Tf,bc,bc,.var 26 [aa,aa,Hf,xO],bc,bY,bn,bY,bn,bY,bn]⟩)])
abbrev ac2:List (Nat×VS):=[(1,aY),(2,cF),(4,dz),(5,lO),(6,mw),(7,xN),(28,mw),(29,aa),(30,aa)]
def TE:Shape×List (Out×Shape):=(⟨ac2,[mW,Dq,zS,bc,bc,.var 26 [aa,aa,Dj,M4],bY,bn,bY,bn,bY,bn]⟩,[(.exit 0,⟨ac2++[(31,ak)],[mW,Dq,zS,bc,bc,.var 26 [aa,aa,Dj,M4],bY,bn,bY,bn,bY,bn]⟩)])
abbrev ac3:List (Nat×VS):=[(2,aY),(6,pU),(13,dz),(14,lO),(15,mw),(87,S0),(88,aa),(89,aa)]
def TF:Shape×List (Out×Shape):=(⟨ac3,acD⟩,[(.exit 4,⟨ac3++[(90,ak)],acD⟩)])
abbrev ac4:List (Nat×VS):=[(1,acm),(4,.one (.whole EX 1)),(5,aa),(6,aa)]
def PO:Shape×List (Out×Shape):=(⟨ac4,[Ti,Hi]⟩,[(.exit 0,⟨ac4++[(7,ak)],[Ti,Hi]⟩)])
abbrev ac5:List (Nat×VS):=[(2,aa),(3,aY),(11,pU),(13,aa),(39,S5),(40,aa),(41,aa)]
def TG:Shape×List (Out×Shape):=(⟨ac5,[s6,bc,zV]⟩,[(.ret,⟨[(6,ak),(7,aa),(8,ov),(9,aa),(10,aa)],nM⟩),(.exit 0,⟨ac5++[(42,ak)],[s6,bc,zV]⟩)])
abbrev ac6:List (Nat×VS):=[(0,aY),(3,mw),(16,aa),(17,aa)]
def TH:Shape×List (Out×Shape):=(⟨ac6,[.var 116 [aa,Dh,zH,aa,zK],.dead,.dead,.map cP,bc,dN,bn]⟩,[(.ret,⟨zZ,Nc⟩),(.exit 0,⟨ac6++[(18,ak)],[.var 116 [aa,Dh,zH,aa,zK],.dead,.dead,.map cP,bc,dN,bn]⟩)])
abbrev ac7:List (Nat×VS):=[(2,zL),(3,xN),(21,zN),(22,aa),(23,aa)]
def ao4:Shape×List (Out×Shape):=(⟨ac7,[.var 116 [aa,zN,zJ,aa,zK],.dead,.dead,.map cP,zS,.var 26 [aa,aa,Dj,zJ],dN,bn,bY,bn,bY]⟩,[(.exit 0,⟨ac7++[(24,ak)],[.var 116 [aa,zN,zJ,aa,zK],.dead,.dead,.map cP,zS,.var 26 [aa,aa,Dj,zJ],dN,bn,bY,bn,bY]⟩)])
abbrev ac8:List (Nat×VS):=[(0,aa),(1,aa),(5,S3),(6,aa),(7,aa)]
def ao5:Shape×List (Out×Shape):=(⟨ac8,[js]⟩,[(.exit 2,⟨ac8++[(26,ak)],[js]⟩)])
abbrev ac9:List (Nat×VS):=[(0,aa),(1,aa),(5,S3),(6,aa)]
def ao6:Shape×List (Out×Shape):=(⟨ac9,[js]⟩,[(.exit 0,⟨ac9++[(12,ak)],[js]⟩)])
abbrev ada:List (Nat×VS):=[(2,aY),(4,cF),(5,zM),(7,lO),(31,aa),(32,aa)]
def TI:Shape×List (Out×Shape):=(⟨ada,Nf⟩,[(.exit 0,⟨ada++[(33,ak)],Nf⟩)])
abbrev adb:List (Nat×VS):=[(2,aY),(4,cF),(7,zM),(39,lO),(40,aa),(41,aa)]
def TJ:Shape×List (Out×Shape):=(⟨adb,Nf⟩,[(.exit 2,⟨adb++[(42,ak)],Nf⟩)])
abbrev ade:List (Nat×VS):=[(1,aY),(3,pU),(4,aa),(24,sY),(25,aa),(26,aa)]
def TK:Shape×List (Out×Shape):=(⟨ade,[mW,bc]⟩,[(.exit 0,⟨ade++[(27,ak)],[mW,bc]⟩)])
abbrev adf:List (Nat×VS):=[(1,aY),(3,pU),(4,aa),(7,aci),(8,lO),(9,aa),(11,zL),(46,dh),(47,aa),(48,aa),(58,db),(59,aa),(60,aa)]
def TL:Shape×List (Out×Shape):=(⟨adf,[mW,bc,.map G9,bc,.var 130 [aa,aa,aa,aa,aa,aa,aa]]⟩,[(.exit 6,⟨adf++[(61,ak)],[mW,bc,.map G9,bc,.var 130 [aa,aa,aa,aa,aa,aa,aa]]⟩)])
abbrev adg:List (Nat×VS):=[(1,aY),(3,pU),(4,aa),(7,aci),(8,lO),(46,dh),(47,aa),(48,aa)]
def TM:Shape×List (Out×Shape):=(⟨adg,[mW,bc,.map G9,bc]⟩,[(.exit 4,⟨adg++[(49,ak)],[mW,bc,.map G9,bc]⟩)])
def TN:Shape×List (Out×Shape):=(⟨[(1,aY),(3,pU),(4,aa)],[mW,bc]⟩,[(.ret,⟨[(2,ov)],nM⟩)])
abbrev adh:List (Nat×VS):=[(0,aY),(3,cF),(5,aa),(6,aa),(33,aa),(34,aa),(37,aa),(38,aa)]
def TO:Shape×List (Out×Shape):=(⟨adh,Ng⟩,[(.exit 2,⟨adh++[(39,ak)],Ng⟩)])
abbrev adi:List (Nat×VS):=[(0,aY),(3,cF),(5,aa),(33,aa),(34,aa)]
def TP:Shape×List (Out×Shape):=(⟨adi,Ng⟩,[(.exit 0,⟨adi++[(35,ak)],Ng⟩)])
abbrev adj:List (Nat×VS):=[(0,aY),(2,oR),(5,zL),(7,aa),(8,xN),(9,aa)]
def TQ:Shape×List (Out×Shape):=(⟨adj,[.var 91 [pS,.one (.whole lg 6),aa],zU,.dead,.var 65 [aa,zJ,SP,SQ,Dj,Hf],acw,Td,v5,bn,js,bc,bY,bY,bn,bn,bc,bc,bn,oS,lQ,js,bc,bY,bY]⟩,[(.exit 0,⟨adj++[(55,ak)],[.var 91 [pS,.one (.whole lg 6),aa],zU,.dead,.var 65 [aa,zJ,SP,SQ,Dj,Hf],acw,Td,v5,bn,js,bc,bY,bY,bn,bn,bc,bc,bn,oS,lQ,js,bc,bY,bY]⟩)])
abbrev adk:List (Nat×VS):=[(0,aY),(2,oR),(5,zL),(7,aa),(8,xN),(10,aa),(12,aa),(86,zH),(87,aa),(88,aa)]
def TR:Shape×List (Out×Shape):=(⟨adk,Nh⟩,[(.exit 4,⟨adk++[(119,ak)],Nh⟩)])
abbrev adl:List (Nat×VS):=[(0,aY),(2,oR),(5,zL),(7,aa),(8,xN),(86,zH),(87,aa),(88,aa)]
def TS:Shape×List (Out×Shape):=(⟨adl,Nh⟩,[(.exit 2,⟨adl++[(89,ak)],Nh⟩)])
abbrev adm:List (Nat×VS):=[(2,oR),(5,zL),(7,aa),(8,xN),(13,acj),(14,aa),(15,.one (.aG 7 0 0)),(162,S6),(163,aa),(164,aa),(175,MZ),(176,aa),(177,aa)]
def TT:Shape×List (Out×Shape):=(⟨adm,[.var 91 [pS,S6,aa],zU,.dead,acx,acy,acz,Tk,.var 133 [aa,sY,aa],v5,bn,bn,js,bc,bY,bY,bn,bc,bc,bn,oS,lQ,js,bc,bY,bY]⟩,[(.exit 8,⟨adm++[(178,ak)],[.var 91 [pS,S6,aa],zU,.dead,acx,acy,acz,Tk,.var 133 [aa,sY,aa],v5,bn,bn,js,bc,bY,bY,bn,bc,bc,bn,oS,lQ,js,bc,bY,bY]⟩)])
abbrev adn:List (Nat×VS):=[(2,oR),(5,zL),(7,aa),(8,xN),(13,acj),(162,ab6),(163,aa),(164,aa)]
def TU:Shape×List (Out×Shape):=(⟨adn,acE⟩,[(.exit 6,⟨adn++[(165,ak)],acE⟩)])
def TV:Shape×List (Out×Shape):=(⟨[(2,aY),(3,cF),(22,.agg [.str,.str]),(23,aa)],[.var 101 [iu,ak,S5,aa,aa],acA,zV,zV]⟩,[(.exit 0,⟨[(2,aY),(3,cF),(22,.agg [.str,.str]),(23,aa),(24,ak)],[.var 101 [iu,ak,S5,aa,aa],acA,zV,zV]⟩)])
abbrev ado:List (Nat×VS):=[(1,aa),(7,acq),(8,pU),(26,sY),(27,aa),(28,aa)]
def TW:Shape×List (Out×Shape):=(⟨ado,[Hi,bc]⟩,[(.exit 0,⟨ado++[(29,ak)],[Hi,bc]⟩)])
abbrev adp:List (Nat×VS):=[(1,aa),(53,dF),(54,aa),(55,aa)]
def ao7:Shape×List (Out×Shape):=(⟨adp,[]⟩,[(.ret,⟨qL,[]⟩),(.exit 1,⟨adp++[(56,ak)],[]⟩)])
abbrev adq:List (Nat×VS):=[(1,aY),(2,cF),(3,SZ),(20,dF),(21,aa),(22,aa)]
def ao8:Shape×List (Out×Shape):=(⟨adq,[qJ,.var 53 [aa,aa,Di],dN,dN]⟩,[(.exit 0,⟨adq++[(23,ak)],[qJ,.var 53 [aa,aa,Di],dN,dN]⟩)])
abbrev adr:List (Nat×VS):=[(19,dF),(20,aa),(21,aa)]
def ao9:Shape×List (Out×Shape):=(⟨adr,[]⟩,[(.ret,⟨[(2,ak)],[]⟩),(.exit 1,⟨adr++[(22,ak)],[]⟩)])
abbrev ads:List (Nat×VS):=[(2,dS),(3,aY),(7,cF),(20,dF),(21,aa),(22,aa)]
def apa:Shape×List (Out×Shape):=(⟨ads,[qK,.var 85 [S7],iF]⟩,[(.exit 0,⟨ads++[(23,ak)],[qK,.var 85 [S7],iF]⟩)])
abbrev adt:List (Nat×VS):=[(3,aY),(4,cF),(7,aca),(8,oR),(9,aa)]
def apb:Shape×List (Out×Shape):=(⟨adt,[qK,qJ,ow,uo]⟩,[(.exit 0,⟨adt++[(28,ak)],[qK,qJ,ow,uo]⟩)])
abbrev adu:List (Nat×VS):=[(3,aY),(8,cF),(10,S7),(11,oR),(12,aa)]
def apc:Shape×List (Out×Shape):=(⟨adu,[qK,uo,iF,zP,iF]⟩,[(.exit 2,⟨adu++[(48,ak)],[qK,uo,iF,zP,iF]⟩)])
abbrev adv:List (Nat×VS):=[(2,dS),(3,aY),(4,cF),(7,dz),(20,dF),(21,aa),(22,aa)]
def apd:Shape×List (Out×Shape):=(⟨adv,[qK,qJ,vZ,iF]⟩,[(.exit 0,⟨adv++[(23,ak)],[qK,qJ,vZ,iF]⟩)])
def ape:Shape×List (Out×Shape):=(⟨[(1,.fn CW [] [.aG 0 0 0,.aG 1 0 0,.aG 2 0 0]),(4,aa),(5,jr),(6,dS),(7,aa),(8,aa)],uv⟩,[(.exit 2,⟨[(1,.fn CW [] [.aG 0 0 0,.aG 1 0 0,.aG 2 0 0]),(4,aa),(5,jr),(6,dS),(7,aa),(8,aa),(14,ak)],uv⟩)])
def apf:Shape×List (Out×Shape):=(⟨[(1,.fn CW [] [.aG 0 0 0,.aG 1 0 0,.aG 2 0 0]),(6,dS),(7,aa),(8,aa)],uv⟩,[(.exit 0,⟨[(1,.fn CW [] [.aG 0 0 0,.aG 1 0 0,.aG 2 0 0]),(6,dS),(7,aa),(8,aa),(9,ak)],uv⟩)])
def apg:Shape×List (Out×Shape):=(⟨[(0,aa),(1,aY),(2,cF),(3,dz),(10,ak)],uv⟩,[(.norm,⟨[],uv⟩)])
def TX:Shape×List (Out×Shape):=(⟨[(0,aa),(2,.fn vV [] [.aG 0 0 0]),(3,.fn vW [] [.aG 0 0 0]),(8,cF),(11,dz),(12,oR),(13,aa),(14,aa),(15,mw),(36,aa),(37,aa)],acF⟩,[(.exit 2,⟨[(0,aa),(2,.fn vV [] [.aG 0 0 0]),(3,.fn vW [] [.aG 0 0 0]),(8,cF),(11,dz),(12,oR),(13,aa),(14,aa),(15,mw),(36,aa),(37,aa),(38,ak)],acF⟩)])
def TY:Shape×List (Out×Shape):=(⟨[(0,aa),(2,.fn vV [] [.aG 0 0 0]),(3,.fn vW [] [.aG 0 0 0]),(8,cF),(11,dz),(12,oR),(13,aa)],[mW,zR,.var 170 [S4,.one (.cY lh 7)],zS,bY,bn,bc,.map lh,bY,bn]⟩,[(.ret,⟨[(8,cF),(9,mw),(10,aa)],[mW,acv,bY,bn,bc]⟩),(.exit 0,⟨[(0,aa),(2,.fn vV [] [.aG 0 0 0]),(3,.fn vW [] [.aG 0 0 0]),(8,cF),(11,dz),(12,oR),(13,aa),(25,ak)],[mW,zR,.var 170 [S4,.one (.cY lh 7)],zS,bY,bn,bc,.map lh,bY,bn]⟩)])
def TZ:Shape×List (Out×Shape):=(⟨[(4,aY),(6,cF)],acG⟩,[(.ret,⟨[(4,aY),(5,aa)],[.var 136 [aa,ak,pS,xM,lO,mw,Dd,ab2,aa],bn,bn,bc,bc,bn,oS]⟩),(.exit 0,⟨[(4,aY),(6,cF),(21,ak)],acG⟩)])
abbrev adw:List (Nat×VS):=[(1,aY),(3,cF),(28,dh),(29,aa),(30,aa)]
def T4:Shape×List (Out×Shape):=(⟨adw,[s6,s6]⟩,[(.ret,⟨zZ,[]⟩),(.exit 0,⟨adw++[(31,ak)],[s6,s6]⟩)])
abbrev adx:List (Nat×VS):=[(0,aY),(1,aa),(4,aa),(7,lO),(20,mw),(21,aa),(22,aa)]
def T6:Shape×List (Out×Shape):=(⟨adx,zW⟩,[(.exit 2,⟨adx++[(23,ak)],zW⟩)])
abbrev ady:List (Nat×VS):=[(0,aY),(1,aa),(4,aa),(7,lO)]
def T7:Shape×List (Out×Shape):=(⟨ady,zW⟩,[(.ret,⟨[(4,aa),(5,ak),(6,ak)],zX⟩),(.exit 0,⟨ady++[(14,ak)],zW⟩)])
abbrev adz:List (Nat×VS):=[(0,aY),(3,lO),(15,mw),(16,aa),(17,aa)]
def T8:Shape×List (Out×Shape):=(⟨adz,zW⟩,[(.exit 0,⟨adz++[(18,ak)],zW⟩)])
abbrev adA:List (Nat×VS):=[(1,aa),(2,aY),(23,dF),(24,aa),(25,aa)]
def aph:Shape×List (Out×Shape):=(⟨adA,iv⟩,[(.ret,⟨[(6,ak)],iv⟩),(.exit 0,⟨adA++[(26,ak)],iv⟩)])
def api:Shape×List (Out×Shape):=(⟨[(3,aY),(4,cF),(5,dz),(6,oR),(24,ak)],[qJ,Hh,.var 53 [aa,aa,zN],.var 53 [aa,aa,.one (.whole cB 7)],dN,dN,dN,dN]⟩,[(.norm,⟨[(3,aY),(4,cF),(5,dz)],[qJ,.var 156 [aa,aa,Di,aa,aa,Hc,ak],.var 53 [aa,aa,Dh],dN,dN,dN]⟩)])
def apj:Shape×List (Out×Shape):=(⟨[(0,aY),(3,dz),(5,aa),(28,ak)],zY⟩,[(.norm,⟨[],s8⟩)])
def apk:Shape×List (Out×Shape):=(⟨[(0,aY),(3,dz),(5,aa),(22,ak)],zY⟩,[(.norm,⟨[],s8⟩)])
def apl:Shape×List (Out×Shape):=(⟨[(0,aY),(3,dz),(5,aa),(14,ak)],zY⟩,[(.norm,⟨[],s8⟩)])
def apm:Shape×List (Out×Shape):=(⟨[(0,aY),(3,dz),(5,aa),(10,ak)],zY⟩,[(.norm,⟨[],s8⟩)])
def apn:Shape×List (Out×Shape):=(⟨[(0,aY),(3,dz),(5,aa),(6,ak)],zY⟩,[(.norm,⟨[],s8⟩)])
abbrev adB:List (Nat×VS):=[(0,M8),(1,dS),(6,aa)]
def apo:Shape×List (Out×Shape):=(⟨adB,[ow]⟩,[(.exit 0,⟨adB++[(12,ak)],[ow]⟩)])
abbrev adC:List (Nat×VS):=[(0,aa),(1,aY),(2,cF),(3,dz),(10,aa),(11,aa)]
def apq:Shape×List (Out×Shape):=(⟨adC,uw⟩,[(.exit 0,⟨adC++[(12,ak)],uw⟩)])
abbrev adD:List (Nat×VS):=[(0,aa),(1,aY),(2,cF),(3,dz),(5,ab3),(6,aa)]
def apr:Shape×List (Out×Shape):=(⟨adD,[qK,uo,vZ,iF,ow]⟩,[(.exit 0,⟨adD++[(13,ak)],[qK,uo,vZ,iF,ow]⟩)])
abbrev adE:List (Nat×VS):=[(1,ak),(6,aY),(39,dh),(40,aa),(41,aa)]
def T9:Shape×List (Out×Shape):=(⟨adE,pW⟩,[(.ret,⟨[(4,.one (.eG)),(5,aa)],[]⟩),(.exit 0,⟨adE++[(42,ak)],pW⟩)])
def Ua:Shape×List (Out×Shape):=(⟨[(6,aY),(9,aa),(72,ak)],pW⟩,[(.norm,⟨[(6,aY),(9,aa)],pW⟩)])
def Ub:Shape×List (Out×Shape):=(⟨[(6,aY),(9,aa),(10,aa),(11,db),(12,iu),(13,aa),(85,pS),(86,aa),(87,aa),(106,ak)],pW⟩,[(.norm,⟨[(6,aY),(9,aa),(13,aa),(85,pS),(86,aa),(87,aa)],pW⟩)])
abbrev adF:List (Nat×VS):=[(6,aY),(9,aa),(85,pS),(86,aa),(87,aa)]
def Uc:Shape×List (Out×Shape):=(⟨adF,pW⟩,[(.exit 2,⟨adF++[(88,ak)],pW⟩)])
def Ud:Shape×List (Out×Shape):=(⟨[(0,aY),(3,aa),(4,M7),(5,aa),(7,SY),(8,aa),(10,iu),(27,De),(28,aa),(29,aa),(78,ak)],[.var 175 [aa,ak,De,M3,Hd,He,acn,aco,aa,Ha,ab8,SR,acp],.dead,.dead,.dead,.dead,.dead,.dead,.map cP,.dead,.dead,.dead,bc,bc,bn,bn,bc,bc,bn,oS,js,bc,bc]⟩,[(.norm,⟨[(0,aY),(3,aa),(4,M7),(5,aa),(8,aa),(27,xO),(28,aa),(29,aa)],Tl⟩)])
abbrev adG:List (Nat×VS):=[(0,aY),(3,aa),(4,M7),(27,xO),(28,aa),(29,aa)]
def Ue:Shape×List (Out×Shape):=(⟨adG,Tl⟩,[(.ret,⟨zZ,Tm⟩),(.exit 0,⟨adG++[(30,ak)],Tl⟩)])
abbrev adH:List (Nat×VS):=[(0,db),(1,aa),(7,aa),(8,aa)]
def Uf:Shape×List (Out×Shape):=(⟨adH,[]⟩,[(.ret,⟨z0,[]⟩),(.exit 0,⟨adH++[(9,ak)],[]⟩)])
abbrev adI:List (Nat×VS):=[(0,aY),(2,cF),(4,S8)]
def aps:Shape×List (Out×Shape):=(⟨adI,[zQ,Na,xP,xP]⟩,[(.ret,⟨[(2,cF),(3,ak)],[zQ,.var 106 [aa,aa,S8],xP]⟩),(.exit 0,⟨adI++[(16,ak)],[zQ,Na,xP,xP]⟩)])
abbrev adJ:List (Nat×VS):=[(1,aY),(3,aa),(53,dh),(54,aa),(55,aa)]
def Ug:Shape×List (Out×Shape):=(⟨adJ,[s6]⟩,[(.ret,⟨[(2,ak)],[]⟩),(.exit 0,⟨adJ++[(56,ak)],[s6]⟩)])
abbrev adK:List (Nat×VS):=[(1,aY),(2,cF),(3,dz),(4,aa),(5,db),(19,dh),(20,aa),(21,aa),(34,db),(35,aa),(36,aa)]
def Uh:Shape×List (Out×Shape):=(⟨adK,Ni⟩,[(.exit 2,⟨adK++[(37,ak)],Ni⟩)])
abbrev adL:List (Nat×VS):=[(1,aY),(2,cF),(3,dz),(19,dh),(20,aa),(21,aa)]
def Ui:Shape×List (Out×Shape):=(⟨adL,Ni⟩,[(.exit 0,⟨adL++[(22,ak)],Ni⟩)])
abbrev adM:List (Nat×VS):=[(0,db),(1,db),(12,aa),(13,aa)]
def Uj:Shape×List (Out×Shape):=(⟨adM,[]⟩,[(.ret,⟨qL,[]⟩),(.exit 0,⟨adM++[(14,ak)],[]⟩)])
abbrev adN:List (Nat×VS):=[(0,Hb),(1,Hb),(12,aa),(13,aa)]
def Uk:Shape×List (Out×Shape):=(⟨adN,[]⟩,[(.ret,⟨qL,[]⟩),(.exit 0,⟨adN++[(14,ak)],[]⟩)])
abbrev adO:List (Nat×VS):=[(0,sY),(1,sY),(12,aa),(13,aa)]
def Ul:Shape×List (Out×Shape):=(⟨adO,[]⟩,[(.ret,⟨qL,[]⟩),(.exit 0,⟨adO++[(14,ak)],[]⟩)])
abbrev adP:List (Nat×VS):=[(0,dh),(1,db),(5,Dg),(15,db),(16,aa),(17,aa)]
def Um:Shape×List (Out×Shape):=(⟨adP,rN⟩,[(.ret,⟨qL,[]⟩),(.exit 0,⟨adP++[(18,ak)],rN⟩)])
abbrev adQ:List (Nat×VS):=[(0,dh),(1,db),(5,Dg),(9,aa),(47,db),(48,aa),(49,aa),(53,db),(54,aa),(55,aa)]
def Un:Shape×List (Out×Shape):=(⟨adQ,rN⟩,[(.ret,⟨qL,[]⟩),(.exit 4,⟨adQ++[(56,ak)],rN⟩)])
abbrev adR:List (Nat×VS):=[(0,dh),(1,db),(5,Dg),(47,db),(48,aa),(49,aa)]
def Uo:Shape×List (Out×Shape):=(⟨adR,rN⟩,[(.ret,⟨qL,[]⟩),(.exit 2,⟨adR++[(50,ak)],rN⟩)])
abbrev adS:List (Nat×VS):=[(3,aY),(6,sZ),(7,aa),(8,aa)]
def apt:Shape×List (Out×Shape):=(⟨adS,[Dp]⟩,[(.exit 0,⟨adS++[(9,ak)],[Dp]⟩)])
abbrev adT:List (Nat×VS):=[(1,aY),(3,.one (.whole bJ 1)),(19,sZ),(20,aa),(21,aa)]
def apu:Shape×List (Out×Shape):=(⟨adT,[uu,Tj]⟩,[(.exit 1,⟨adT++[(22,ak)],[uu,Tj]⟩)])
abbrev adU:List (Nat×VS):=[(0,dh),(1,db),(7,aY),(8,cF),(10,xM),(11,aa),(33,aa),(34,aa),(37,db),(38,aa),(39,aa)]
def Up:Shape×List (Out×Shape):=(⟨adU,Nj⟩,[(.exit 2,⟨adU++[(40,ak)],Nj⟩)])
abbrev adV:List (Nat×VS):=[(0,dh),(1,db),(7,aY),(8,cF),(10,xM),(33,aa),(34,aa)]
def Uq:Shape×List (Out×Shape):=(⟨adV,Nj⟩,[(.exit 0,⟨adV++[(35,ak)],Nj⟩)])
abbrev adW:List (Nat×VS):=[(0,dh),(7,aY),(11,cF),(12,zM),(18,M6),(19,aa),(20,aa),(24,rM),(25,aa),(26,aa),(48,aa),(49,aa)]
def Ur:Shape×List (Out×Shape):=(⟨adW,[pV,Tg,bc]⟩,[(.exit 4,⟨adW++[(50,ak)],[pV,Tg,bc]⟩)])
abbrev adX:List (Nat×VS):=[(0,dh),(7,aY),(18,M6),(19,aa),(20,aa),(24,rM),(25,aa),(26,aa)]
def Us:Shape×List (Out×Shape):=(⟨adX,[pV]⟩,[(.exit 2,⟨adX++[(27,ak)],[pV]⟩)])
abbrev adY:List (Nat×VS):=[(0,dh),(7,aY),(18,M6),(19,aa),(20,aa)]
def Ut:Shape×List (Out×Shape):=(⟨adY,[pV]⟩,[(.exit 0,⟨adY++[(21,ak)],[pV]⟩)])
def Uu:Shape×List (Out×Shape):=(⟨[(0,aY),(2,pU),(7,dz),(8,aa),(10,oR),(11,rM),(12,aa),(13,aa),(18,aa),(19,ak)],[pV,bc,bc,Tg]⟩,[(.norm,⟨acI,Tn⟩)])
def Uv:Shape×List (Out×Shape):=(⟨acI,Tn⟩,[(.exit 0,⟨[(0,aY),(2,pU),(7,dz),(8,aa),(11,rM),(12,aa),(13,aa),(14,ak)],Tn⟩)])
def Uw:Shape×List (Out×Shape):=(⟨[(0,aY),(3,aa)],zX⟩,[(.ret,⟨[(2,ak)],zX⟩),(.exit 0,⟨[(0,aY),(3,aa),(11,ak)],zX⟩)])
abbrev adZ:List (Nat×VS):=[(2,aY),(3,cF),(4,dz),(5,Di),(6,Hc),(7,aa),(21,dF),(22,aa),(23,aa)]
def apv:Shape×List (Out×Shape):=(⟨adZ,[Nb,qJ,.var 156 [aa,aa,Dh,aa,aa,zN,ak],dN,dN,dN,dN]⟩,[(.exit 0,⟨adZ++[(24,ak)],[Nb,qJ,.var 156 [aa,aa,Dh,aa,aa,zN,ak],dN,dN,dN,dN]⟩)])
abbrev ad0:List (Nat×VS):=[(2,aY),(4,cF),(5,SZ),(6,Di),(7,ak),(20,dF),(21,aa),(22,aa)]
def apw:Shape×List (Out×Shape):=(⟨ad0,[Nb,Hh,dN,dN,dN,dN]⟩,[(.exit 0,⟨ad0++[(23,ak)],[Nb,Hh,dN,dN,dN,dN]⟩)])
abbrev ad1:List (Nat×VS):=[(4,aY),(6,M1),(7,ak),(11,SZ),(54,Di),(55,aa),(56,aa)]
def apx:Shape×List (Out×Shape):=(⟨ad1,[Hh,dN,dN,dN,dN,dN]⟩,[(.exit 2,⟨ad1++[(57,ak)],[Hh,dN,dN,dN,dN,dN]⟩)])
def apy:Shape×List (Out×Shape):=(⟨[(0,aY),(2,iu),(3,aa),(9,dz),(10,dF),(11,aa),(12,aa),(18,ak)],zY⟩,[(.norm,⟨[(0,aY),(2,iu),(3,aa),(9,dz),(10,dF),(11,aa),(12,aa)],zY⟩)])
abbrev ad2:List (Nat×VS):=[(0,aY),(2,iu),(3,aa),(10,dF),(11,aa),(12,aa)]
def apz:Shape×List (Out×Shape):=(⟨ad2,s8⟩,[(.exit 0,⟨ad2++[(13,ak)],s8⟩)])
def apA:Shape×List (Out×Shape):=(⟨[(0,dF),(1,.fn xK [] []),(7,aa),(8,aa)],[]⟩,[(.ret,⟨z0,[]⟩),(.exit 0,⟨[(0,dF),(1,.fn xK [] []),(7,aa),(8,aa),(9,ak)],[]⟩)])
abbrev ad3:List (Nat×VS):=[(0,db),(13,db),(14,aa),(15,aa)]
def Ux:Shape×List (Out×Shape):=(⟨ad3,[]⟩,[(.ret,⟨[(2,ak)],[]⟩),(.exit 0,⟨ad3++[(16,ak)],[]⟩)])
abbrev ad4:List (Nat×VS):=[(3,ov),(14,aa),(15,aa)]
def Uy:Shape×List (Out×Shape):=(⟨ad4,nM⟩,[(.exit 0,⟨ad4++[(16,ak)],nM⟩)])
abbrev ad5:List (Nat×VS):=[(3,.one (.whole G8 0)),(9,db),(10,aa),(11,aa)]
def Uz:Shape×List (Out×Shape):=(⟨ad5,[zT]⟩,[(.exit 0,⟨ad5++[(12,ak)],[zT]⟩)])
abbrev ad6:List (Nat×VS):=[(1,db),(5,ov),(26,db),(27,aa),(28,aa)]
def UA:Shape×List (Out×Shape):=(⟨ad6,nM⟩,[(.exit 0,⟨ad6++[(29,ak)],nM⟩)])
def apB:Shape×List (Out×Shape):=(⟨kH,ox⟩,[(.exit 0,⟨[(0,aY),(3,ak)],ox⟩)])
abbrev ad7:List (Nat×VS):=[(0,aY),(2,cF),(4,dz)]
def apC:Shape×List (Out×Shape):=(⟨ad7,[zQ,Na,uu,xP]⟩,[(.ret,⟨[(2,cF),(3,ak)],[zQ,.var 106 [aa,aa,S8],xP]⟩),(.exit 0,⟨ad7++[(19,ak)],[zQ,Na,uu,xP]⟩)])
abbrev ad8:List (Nat×VS):=[(1,aa),(7,db),(8,aa),(9,aa)]
def UB:Shape×List (Out×Shape):=(⟨ad8,[]⟩,[(.ret,⟨qL,[]⟩),(.exit 0,⟨ad8++[(10,ak)],[]⟩)])
abbrev ad9:List (Nat×VS):=[(0,dh),(13,dh),(14,aa),(15,aa),(24,db),(25,aa),(26,aa)]
def UC:Shape×List (Out×Shape):=(⟨ad9,[]⟩,[(.ret,⟨zZ,[]⟩),(.exit 2,⟨ad9++[(27,ak)],[]⟩)])
abbrev aea:List (Nat×VS):=[(0,dh),(13,dh),(14,aa),(15,aa)]
def UD:Shape×List (Out×Shape):=(⟨aea,[]⟩,[(.ret,⟨zZ,[]⟩),(.exit 0,⟨aea++[(16,ak)],[]⟩)])
abbrev aeb:List (Nat×VS):=[(0,dh),(5,Dg),(7,aa),(9,db),(10,db),(16,db),(17,aa),(18,aa),(29,dh),(30,aa),(31,aa),(45,db),(46,aa),(47,aa)]
def UE:Shape×List (Out×Shape):=(⟨aeb,rN⟩,[(.ret,⟨qL,[]⟩),(.exit 4,⟨aeb++[(48,ak)],rN⟩)])
abbrev aec:List (Nat×VS):=[(0,dh),(5,Dg),(7,aa),(16,db),(17,aa),(18,aa),(29,dh),(30,aa),(31,aa)]
def UF:Shape×List (Out×Shape):=(⟨aec,rN⟩,[(.ret,⟨qL,[]⟩),(.exit 2,⟨aec++[(32,ak)],rN⟩)])
abbrev aed:List (Nat×VS):=[(0,dh),(5,Dg),(16,db),(17,aa),(18,aa)]
def UG:Shape×List (Out×Shape):=(⟨aed,rN⟩,[(.ret,⟨qL,[]⟩),(.exit 0,⟨aed++[(19,ak)],rN⟩)])
def UH:Shape×List (Out×Shape):=(⟨[(0,dh),(3,ov),(4,cF),(5,dz),(6,.fn rL [] [.aG 2 0 0,.aG 1 0 0]),(7,aa),(9,aa),(17,aa),(18,aa),(45,db),(46,aa),(47,aa)],Dt⟩,[(.exit 4,⟨[(0,dh),(3,ov),(4,cF),(5,dz),(6,.fn rL [] [.aG 2 0 0,.aG 1 0 0]),(7,aa),(9,aa),(17,aa),(18,aa),(45,db),(46,aa),(47,aa),(48,ak)],Dt⟩)])
def UI:Shape×List (Out×Shape):=(⟨[(0,dh),(3,ov),(4,cF),(5,dz),(6,.fn rL [] [.aG 2 0 0,.aG 1 0 0]),(7,aa),(17,aa),(18,aa)],Dt⟩,[(.exit 2,⟨[(0,dh),(3,ov),(4,cF),(5,dz),(6,.fn rL [] [.aG 2 0 0,.aG 1 0 0]),(7,aa),(17,aa),(18,aa),(35,ak)],Dt⟩)])
def UJ:Shape×List (Out×Shape):=(⟨[(0,dh),(3,ov),(4,cF),(5,dz),(6,.fn rL [] [.aG 2 0 0,.aG 1 0 0]),(7,aa),(17,aa),(18,aa)],Dt⟩,[(.exit 0,⟨[(0,dh),(3,ov),(4,cF),(5,dz),(6,.fn rL [] [.aG 2 0 0,.aG 1 0 0]),(7,aa),(17,aa),(18,aa),(19,ak)],Dt⟩)])
def UK:Shape×List (Out×Shape):=(⟨[(0,db),(1,.fn zF [] [.aG 0 0 0]),(7,aa),(8,aa)],ux⟩,[(.ret,⟨z0,ux⟩),(.exit 0,⟨[(0,db),(1,.fn zF [] [.aG 0 0 0]),(7,aa),(8,aa),(9,ak)],ux⟩)])
abbrev aee:List (Nat×VS):=[(3,ov),(9,aa),(10,aa)]
def UL:Shape×List (Out×Shape):=(⟨aee,nM⟩,[(.exit 0,⟨aee++[(11,ak)],nM⟩)])
abbrev aef:List (Nat×VS):=[(0,aa),(1,aY),(6,aa),(7,aa)]
def UM:Shape×List (Out×Shape):=(⟨aef,ux⟩,[(.ret,⟨[(3,ak)],ux⟩),(.exit 0,⟨aef++[(8,ak)],ux⟩)])
def apD:Shape×List (Out×Shape):=(⟨[(2,aY),(3,cF),(4,dz),(5,oR),(8,ak)],[ur,ur,uu,uu]⟩,[(.norm,⟨[],Hj⟩)])
abbrev aeg:List (Nat×VS):=[(3,aY),(6,sZ),(7,aa),(8,aa)]
def apE:Shape×List (Out×Shape):=(⟨aeg,iv⟩,[(.exit 0,⟨aeg++[(9,ak)],iv⟩)])
abbrev aeh:List (Nat×VS):=[(0,dh),(1,aa),(2,aa),(7,aa)]
def UN:Shape×List (Out×Shape):=(⟨aeh,[]⟩,[(.exit 0,⟨aeh++[(19,ak)],[]⟩)])
abbrev aei:List (Nat×VS):=[(0,dh),(7,aa),(8,aa),(9,aa)]
def UO:Shape×List (Out×Shape):=(⟨aei,[]⟩,[(.exit 2,⟨aei++[(45,ak)],[]⟩)])
abbrev aej:List (Nat×VS):=[(0,dh),(1,aa),(8,aa),(54,aa),(55,aa)]
def UP:Shape×List (Out×Shape):=(⟨aej,[]⟩,[(.exit 4,⟨aej++[(56,ak)],[]⟩)])
def UQ:Shape×List (Out×Shape):=(⟨[(0,dh),(1,.fn xj [] []),(7,aa),(8,aa)],[]⟩,[(.ret,⟨z0,[]⟩),(.exit 0,⟨[(0,dh),(1,.fn xj [] []),(7,aa),(8,aa),(9,ak)],[]⟩)])
def apF:Shape×List (Out×Shape):=(⟨[(0,cu),(1,.fn xJ [] []),(5,aa),(6,aa)],bz⟩,[(.exit 0,⟨[(0,cu),(1,.fn xJ [] []),(5,aa),(6,aa),(19,ak)],bz⟩)])
abbrev aek:List (Nat×VS):=[(0,aa),(5,cu),(8,dF),(9,aa),(10,aa)]
def apG:Shape×List (Out×Shape):=(⟨aek,bz⟩,[(.exit 0,⟨aek++[(11,ak)],bz⟩)])
abbrev ael:List (Nat×VS):=[(1,aa),(5,aa),(18,sZ),(19,aa),(20,aa)]
def apH:Shape×List (Out×Shape):=(⟨ael,[]⟩,[(.exit 0,⟨ael,[]⟩)])
def apI:Shape×List (Out×Shape):=(⟨[(0,cu),(1,.fn Db [] []),(5,aa),(6,.one (.sub cB 0)),(7,aa)],bz⟩,[(.exit 2,⟨[(0,cu),(1,.fn Db [] []),(5,aa),(6,.one (.sub cB 0)),(7,aa),(35,ak)],bz⟩)])
def apJ:Shape×List (Out×Shape):=(⟨[(0,cu),(1,.fn Db [] []),(5,aa)],bz⟩,[(.ret,⟨[(4,M1)],Du⟩),(.exit 0,⟨[(0,cu),(1,.fn Db [] []),(5,aa),(15,ak)],bz⟩)])
def apK:Shape×List (Out×Shape):=(⟨[(0,cu),(1,aa),(2,aa),(3,aa),(4,.fn cO [] []),(10,ak),(11,ak),(12,aa),(39,ak)],bz⟩,[(.norm,⟨[(0,cu),(1,aa),(2,aa),(3,aa),(4,.fn cO [] []),(10,ak),(11,ak),(12,aa)],bz⟩)])
def apL:Shape×List (Out×Shape):=(⟨[(0,cu),(1,aa),(2,aa),(3,aa),(4,.fn cO [] []),(10,ak),(11,ak),(12,aa),(13,aa),(14,aa),(56,ak)],bz⟩,[(.norm,⟨[(0,cu),(1,aa),(2,aa),(3,aa),(4,.fn cO [] []),(10,ak),(11,ak),(12,aa),(13,aa),(14,aa)],bz⟩)])
def apM:Shape×List (Out×Shape):=(⟨[(0,cu),(1,aa),(2,aa),(3,aa),(4,.fn cO [] []),(10,ak),(11,ak),(12,aa),(13,aa),(75,ak)],bz⟩,[(.ret,⟨[(0,cu),(1,aa),(2,aa),(3,aa),(4,.fn cO [] []),(10,ak),(11,ak),(12,aa),(13,aa),(80,ak)],bz⟩),(.norm,⟨[(0,cu),(1,aa),(2,aa),(3,aa),(4,.fn cO [] []),(10,ak),(11,ak),(12,aa),(13,aa)],bz⟩)])
def apO:Shape×List (Out×Shape):=(⟨[(0,cu),(1,aa),(2,aa),(3,aa),(4,.fn cO [] []),(10,ak),(11,ak)],bz⟩,[(.ret,⟨[],bz⟩)])
def apP:Shape×List (Out×Shape):=(⟨[(0,dF),(1,dF),(2,.fn cO [] []),(11,dF),(12,aa),(13,aa)],[]⟩,[(.ret,⟨[(6,aa)],[]⟩),(.exit 0,⟨[(0,dF),(1,dF),(2,.fn cO [] []),(11,dF),(12,aa),(13,aa),(14,ak)],[]⟩)])
def apQ:Shape×List (Out×Shape):=(⟨[(0,cu),(1,aa),(2,aa),(3,.fn cO [] []),(8,aa),(9,aa)],bz⟩,[(.exit 2,⟨[(0,cu),(1,aa),(2,aa),(3,.fn cO [] []),(8,aa),(9,aa),(34,ak)],bz⟩)])
def apR:Shape×List (Out×Shape):=(⟨[(0,cu),(1,aa),(2,aa),(3,.fn cO [] []),(8,aa)],bz⟩,[(.exit 0,⟨[(0,cu),(1,aa),(2,aa),(3,.fn cO [] []),(8,aa),(14,ak)],bz⟩)])
def apS:Shape×List (Out×Shape):=(⟨[(0,cu),(3,.fn cO [] []),(8,aa),(9,aa),(10,aa),(11,aa)],bz⟩,[(.exit 0,⟨[(0,cu),(3,.fn cO [] []),(8,aa),(9,aa),(10,aa),(11,aa),(21,ak)],bz⟩)])
def apU:Shape×List (Out×Shape):=(⟨[(0,cu),(3,.fn cO [] []),(8,aa),(9,aa),(12,aa)],bz⟩,[(.exit 2,⟨[(0,cu),(3,.fn cO [] []),(8,aa),(9,aa),(12,aa),(33,ak)],bz⟩)])
def apV:Shape×List (Out×Shape):=(⟨[(0,cu),(1,aa),(8,aa),(9,cF),(10,jr),(11,aa),(12,aa),(45,ak)],Nk⟩,[(.norm,⟨[(0,cu),(1,aa),(8,aa),(9,cF),(10,jr),(11,aa),(12,aa)],Nk⟩)])
abbrev aem:List (Nat×VS):=[(0,cu),(1,aa),(8,aa),(9,cF),(10,jr),(11,aa)]
def apW:Shape×List (Out×Shape):=(⟨aem,Nk⟩,[(.exit 0,⟨aem++[(35,ak)],Nk⟩)])
def apX:Shape×List (Out×Shape):=(⟨[(0,dF),(3,.fn cO [] []),(11,aY),(12,aa),(13,aa),(14,aa),(36,ak)],iv⟩,[(.norm,⟨[(0,dF),(3,.fn cO [] []),(11,aY),(12,aa),(13,aa),(14,aa)],iv⟩)])
def apY:Shape×List (Out×Shape):=(⟨[(0,dF),(3,.fn cO [] []),(10,aa),(11,aY),(12,aa),(13,aa),(14,aa),(34,ak)],iv⟩,[(.norm,⟨[(11,aY),(13,aa)],iv⟩)])
abbrev aen:List (Nat×VS):=[(0,cu),(8,aa),(9,aa)]
def apZ:Shape×List (Out×Shape):=(⟨aen,bz⟩,[(.exit 0,⟨aen++[(15,ak)],bz⟩)])
def ap0:Shape×List (Out×Shape):=(⟨[(0,cu),(1,aa),(2,aa),(3,.fn cO [] []),(9,aa),(10,aa)],bz⟩,[(.exit 2,⟨[(0,cu),(1,aa),(2,aa),(3,.fn cO [] []),(9,aa),(10,aa),(36,ak)],bz⟩)])
def ap1:Shape×List (Out×Shape):=(⟨[(0,cu),(1,aa),(2,aa),(3,.fn cO [] []),(9,aa),(10,aa),(11,aa)],bz⟩,[(.exit 4,⟨[(0,cu),(1,aa),(2,aa),(3,.fn cO [] []),(9,aa),(10,aa),(11,aa)],bz⟩)])
def ap2:Shape×List (Out×Shape):=(⟨[(0,cu),(1,aa),(2,aa),(3,.fn cO [] []),(9,aa),(10,aa),(65,ak)],bz⟩,[(.norm,⟨[(0,cu),(1,aa),(2,aa),(3,.fn cO [] []),(9,aa),(10,aa)],bz⟩)])
def ap3:Shape×List (Out×Shape):=(⟨[(0,cu),(1,aa),(2,aa),(3,.fn cO [] []),(9,aa),(10,aa),(12,aa)],bz⟩,[(.exit 6,⟨[(0,cu),(1,aa),(2,aa),(3,.fn cO [] []),(9,aa),(10,aa),(12,aa)],bz⟩)])
def ap4:Shape×List (Out×Shape):=(⟨[(0,cu),(1,aa),(2,aa),(3,.fn cO [] []),(9,aa),(10,aa)],bz⟩,[(.ret,⟨[(8,ak)],bz⟩),(.exit 0,⟨[(0,cu),(1,aa),(2,aa),(3,.fn cO [] []),(9,aa),(10,aa),(16,ak)],bz⟩)])
def ap5:Shape×List (Out×Shape):=(⟨[(0,cu),(1,aa),(4,.fn cO [] []),(11,aa),(12,aa)],bz⟩,[(.exit 2,⟨[(0,cu),(1,aa),(4,.fn cO [] []),(11,aa),(12,aa),(47,ak)],bz⟩)])
def ap6:Shape×List (Out×Shape):=(⟨[(0,cu),(1,aa),(4,.fn cO [] []),(11,aa),(12,aa)],bz⟩,[(.exit 4,⟨[(0,cu),(1,aa),(4,.fn cO [] []),(11,aa),(12,aa),(65,ak)],bz⟩)])
def ap7:Shape×List (Out×Shape):=(⟨[(0,cu),(1,aa),(4,.fn cO [] []),(11,aa),(12,aa)],bz⟩,[(.exit 0,⟨[(0,cu),(1,aa),(4,.fn cO [] []),(11,aa),(12,aa),(70,ak)],bz⟩)])
def ap8:Shape×List (Out×Shape):=(⟨[(0,cu),(1,aa),(4,.fn cO [] []),(12,aa),(13,aa)],bz⟩,[(.exit 0,⟨[(0,cu),(1,aa),(4,.fn cO [] []),(12,aa),(13,aa),(47,ak)],bz⟩)])
def ap9:Shape×List (Out×Shape):=(⟨[(0,cu),(1,aa),(4,.fn cO [] []),(12,aa),(13,aa)],bz⟩,[(.exit 2,⟨[(0,cu),(1,aa),(4,.fn cO [] []),(12,aa),(13,aa),(66,ak)],bz⟩)])
def aqa:Shape×List (Out×Shape):=(⟨[(0,cu),(1,aa),(4,.fn cO [] []),(12,aa),(13,aa)],bz⟩,[(.exit 6,⟨[(0,cu),(1,aa),(4,.fn cO [] []),(12,aa),(13,aa),(120,ak)],bz⟩)])
def aqb:Shape×List (Out×Shape):=(⟨[(0,cu),(1,aa),(4,.fn cO [] []),(12,aa),(13,aa)],bz⟩,[(.exit 8,⟨[(0,cu),(1,aa),(4,.fn cO [] []),(12,aa),(13,aa),(139,ak)],bz⟩)])
def aqc:Shape×List (Out×Shape):=(⟨[(0,cu),(1,aa),(4,.fn cO [] []),(12,aa),(13,aa)],bz⟩,[(.exit 4,⟨[(0,cu),(1,aa),(4,.fn cO [] []),(12,aa),(13,aa),(144,ak)],bz⟩)])
def aqd:Shape×List (Out×Shape):=(⟨[(0,jr),(2,aa),(4,ak)],[]⟩,[(.norm,⟨[(0,jr),(2,aa)],[]⟩)])
def aqe:Shape×List (Out×Shape):=(⟨[(0,jr),(2,aa),(8,ak)],[]⟩,[(.norm,⟨[(0,jr),(2,aa)],[]⟩)])
def aqf:Shape×List (Out×Shape):=(⟨[(0,cu),(2,aa),(3,aa),(4,.fn cO [] []),(10,aa),(11,aa),(40,ak)],bz⟩,[(.norm,⟨[(0,cu),(2,aa),(3,aa),(4,.fn cO [] []),(10,aa),(11,aa)],bz⟩)])
def aqg:Shape×List (Out×Shape):=(⟨[(0,cu),(2,aa),(3,aa),(4,.fn cO [] []),(10,aa)],bz⟩,[(.exit 0,⟨[(0,cu),(2,aa),(3,aa),(4,.fn cO [] []),(10,aa),(11,aa),(18,ak)],bz⟩),(.ret,⟨[(0,cu),(2,aa),(3,aa),(4,.fn cO [] []),(10,aa),(11,aa),(58,ak)],bz⟩)])
def aqh:Shape×List (Out×Shape):=(⟨[(0,dF),(1,.fn xJ [] []),(7,aa),(8,aa)],[]⟩,[(.ret,⟨z0,[]⟩),(.exit 0,⟨[(0,dF),(1,.fn xJ [] []),(7,aa),(8,aa),(9,ak)],[]⟩)])
def aqi:Shape×List (Out×Shape):=(⟨[(1,.fn C3 [] [.aG 0 0 0]),(4,aa),(5,jr),(6,dS),(7,aa),(8,aa)],iv⟩,[(.exit 2,⟨[(1,.fn C3 [] [.aG 0 0 0]),(4,aa),(5,jr),(6,dS),(7,aa),(8,aa),(14,ak)],iv⟩)])
def aqj:Shape×List (Out×Shape):=(⟨[(1,.fn C3 [] [.aG 0 0 0]),(6,dS),(7,aa),(8,aa)],iv⟩,[(.exit 0,⟨[(1,.fn C3 [] [.aG 0 0 0]),(6,dS),(7,aa),(8,aa),(9,ak)],iv⟩)])
def aqk:Shape×List (Out×Shape):=(⟨[(0,cu),(1,.fn zG [] []),(5,aa),(6,aa)],bz⟩,[(.exit 0,⟨[(0,cu),(1,.fn zG [] []),(5,aa),(6,aa),(19,ak)],bz⟩)])
def aql:Shape×List (Out×Shape):=(⟨[(0,dF),(1,.fn zG [] []),(7,aa),(8,aa)],[]⟩,[(.ret,⟨z0,[]⟩),(.exit 0,⟨[(0,dF),(1,.fn zG [] []),(7,aa),(8,aa),(9,ak)],[]⟩)])
def aqm:Shape×List (Out×Shape):=(⟨[(0,cu),(1,.fn xK [] []),(5,aa),(6,aa)],bz⟩,[(.exit 0,⟨[(0,cu),(1,.fn xK [] []),(5,aa),(6,aa),(19,ak)],bz⟩)])
def aqn:Shape×List (Out×Shape):=(⟨[(1,.fn C6 [] [.aG 0 0 0,.aG 1 0 0,.aG 2 0 0]),(4,aa),(5,jr),(6,dS),(7,aa),(8,aa)],uw⟩,[(.exit 2,⟨[(1,.fn C6 [] [.aG 0 0 0,.aG 1 0 0,.aG 2 0 0]),(4,aa),(5,jr),(6,dS),(7,aa),(8,aa),(14,ak)],uw⟩)])
def aqo:Shape×List (Out×Shape):=(⟨[(1,.fn C6 [] [.aG 0 0 0,.aG 1 0 0,.aG 2 0 0]),(6,dS),(7,aa),(8,aa)],uw⟩,[(.exit 0,⟨[(1,.fn C6 [] [.aG 0 0 0,.aG 1 0 0,.aG 2 0 0]),(6,dS),(7,aa),(8,aa),(9,ak)],uw⟩)])
def aqp:Shape×List (Out×Shape):=(⟨[(1,.fn C4 [] [.aG 0 0 0,.aG 1 0 0]),(4,aa),(5,jr),(6,dS),(7,aa),(8,aa)],rO⟩,[(.exit 2,⟨[(1,.fn C4 [] [.aG 0 0 0,.aG 1 0 0]),(4,aa),(5,jr),(6,dS),(7,aa),(8,aa),(14,ak)],rO⟩)])
def aqq:Shape×List (Out×Shape):=(⟨[(1,.fn C4 [] [.aG 0 0 0,.aG 1 0 0]),(6,dS),(7,aa),(8,aa)],rO⟩,[(.exit 0,⟨[(1,.fn C4 [] [.aG 0 0 0,.aG 1 0 0]),(6,dS),(7,aa),(8,aa),(9,ak)],rO⟩)])
def aqr:Shape×List (Out×Shape):=(⟨[(1,.fn CX [] [.aG 0 0 0,.aG 1 0 0]),(4,aa),(5,jr),(6,dS),(7,aa),(8,aa)],rO⟩,[(.exit 2,⟨[(1,.fn CX [] [.aG 0 0 0,.aG 1 0 0]),(4,aa),(5,jr),(6,dS),(7,aa),(8,aa),(14,ak)],rO⟩)])
def aqs:Shape×List (Out×Shape):=(⟨[(1,.fn CX [] [.aG 0 0 0,.aG 1 0 0]),(6,dS),(7,aa),(8,aa)],rO⟩,[(.exit 0,⟨[(1,.fn CX [] [.aG 0 0 0,.aG 1 0 0]),(6,dS),(7,aa),(8,aa),(9,ak)],rO⟩)])
def aqt:Shape×List (Out×Shape):=(⟨[(1,.fn C7 [] [.aG 0 0 0,.aG 1 0 0,.aG 2 0 0]),(4,aa),(5,jr),(6,dS),(7,aa),(8,aa)],xR⟩,[(.exit 2,⟨[(1,.fn C7 [] [.aG 0 0 0,.aG 1 0 0,.aG 2 0 0]),(4,aa),(5,jr),(6,dS),(7,aa),(8,aa),(14,ak)],xR⟩)])
def aqu:Shape×List (Out×Shape):=(⟨[(1,.fn C7 [] [.aG 0 0 0,.aG 1 0 0,.aG 2 0 0]),(6,dS),(7,aa),(8,aa)],xR⟩,[(.exit 0,⟨[(1,.fn C7 [] [.aG 0 0 0,.aG 1 0 0,.aG 2 0 0]),(6,dS),(7,aa),(8,aa),(9,ak)],xR⟩)])
def aqv:Shape×List (Out×Shape):=(⟨[(1,.fn CY [] [.aG 0 0 0,.aG 1 0 0,.aG 2 0 0,.aG 3 0 0]),(4,aa),(5,jr),(6,dS),(7,aa),(8,aa)],xS⟩,[(.exit 2,⟨[(1,.fn CY [] [.aG 0 0 0,.aG 1 0 0,.aG 2 0 0,.aG 3 0 0]),(4,aa),(5,jr),(6,dS),(7,aa),(8,aa),(14,ak)],xS⟩)])
def aqw:Shape×List (Out×Shape):=(⟨[(1,.fn CY [] [.aG 0 0 0,.aG 1 0 0,.aG 2 0 0,.aG 3 0 0]),(6,dS),(7,aa),(8,aa)],xS⟩,[(.exit 0,⟨[(1,.fn CY [] [.aG 0 0 0,.aG 1 0 0,.aG 2 0 0,.aG 3 0 0]),(6,dS),(7,aa),(8,aa),(9,ak)],xS⟩)])
def aqx:Shape×List (Out×Shape):=(⟨[(1,.fn CZ [] [.aG 0 0 0,.aG 1 0 0,.aG 2 0 0]),(4,aa),(5,jr),(6,dS),(7,aa),(8,aa)],Dv⟩,[(.exit 2,⟨[(1,.fn CZ [] [.aG 0 0 0,.aG 1 0 0,.aG 2 0 0]),(4,aa),(5,jr),(6,dS),(7,aa),(8,aa),(14,ak)],Dv⟩)])
def aqy:Shape×List (Out×Shape):=(⟨[(1,.fn CZ [] [.aG 0 0 0,.aG 1 0 0,.aG 2 0 0]),(6,dS),(7,aa),(8,aa)],Dv⟩,[(.exit 0,⟨[(1,.fn CZ [] [.aG 0 0 0,.aG 1 0 0,.aG 2 0 0]),(6,dS),(7,aa),(8,aa),(9,ak)],Dv⟩)])
def aqz:Shape×List (Out×Shape):=(⟨[(0,dF),(1,.fn GX [] []),(7,aa),(8,aa)],[]⟩,[(.ret,⟨z0,[]⟩),(.exit 0,⟨[(0,dF),(1,.fn GX [] []),(7,aa),(8,aa),(9,ak)],[]⟩)])
def aqA:Shape×List (Out×Shape):=(⟨[(2,.fn MW [] [.aG 0 0 0,.aG 1 0 0]),(3,dz),(13,sZ),(14,aa),(15,aa)],[ur,ur,uu]⟩,[(.exit 0,⟨[(2,.fn MW [] [.aG 0 0 0,.aG 1 0 0]),(3,dz),(13,sZ),(14,aa),(15,aa),(16,ak)],[ur,ur,uu]⟩)])
def aqB:Shape×List (Out×Shape):=(⟨[(2,.fn MX [] [.aG 0 0 0]),(3,cF),(13,sZ),(14,aa),(15,aa)],[uo,uu]⟩,[(.exit 0,⟨[(2,.fn MX [] [.aG 0 0 0]),(3,cF),(13,sZ),(14,aa),(15,aa),(16,ak)],[uo,uu]⟩)])
def aqC:List (Nat×FuncId):=[(3,QN),
 (4,Lh),
 (5,FF),
 (6,Lk),
 (7,KT),
 (8,KV),
 (9,xe),
 (10,y9),
 (11,F5),
 (12,Lg),
 (13,nD),
 (14,FB),
 (15,B0),
 (16,FC),
 (17,tJ),
 (18,E3),
 (19,My),
 (20,Mz),
 (21,CT),
 (22,Sz),
 (23,K3),
 (24,Lc),
 (25,Lf),
 (26,FJ),
 (27,KX),
 (28,sC),
 (29,MA),
 (30,Kh),
 (31,qm),
 (32,Kg),
 (33,E2),
 (34,SA),
 (35,SB),
 (36,SC),
 (37,SD),
 (38,CU),
 (39,SF),
 (40,am6),
 (41,am7),
 (42,abX),
 (43,am8),
 (44,am9),
 (45,y7),
 (46,CV),
 (47,MB),
 (48,MC),
 (49,GW),
 (50,BG),
 (51,jG),
 (52,Fu),
 (53,Ft),
 (54,ana),
 (55,anb),
 (56,MD),
 (57,anc),
 (58,xG),
 (59,xH),
 (60,GX),
 (61,ane),
 (62,anf),
 (63,ang),
 (64,anh),
 (65,xI),
 (66,CW),
 (67,ME),
 (68,vV),
 (69,vW),
 (70,MF),
 (72,MG),
 (73,MH),
 (74,BF),
 (75,yP),
 (76,BW),
 (77,BT),
 (78,Fj),
 (79,Ff),
 (80,ani),
 (81,anj),
 (82,ank),
 (83,anl),
 (84,anm),
 (85,ano),
 (86,SG),
 (87,CX),
 (88,anp),
 (89,xJ),
 (90,CY),
 (91,CZ),
 (92,C3),
 (93,C4),
 (94,C6),
 (95,C7),
 (96,anq),
 (97,GY),
 (98,MI),
 (99,MJ),
 (100,GZ),
 (101,MK),
 (102,gi),
 (103,nt),
 (104,me),
 (105,ML),
 (106,MM),
 (107,G0),
 (108,MN),
 (109,G1),
 (110,G2),
 (111,G3),
 (112,MO),
 (113,abY),
 (114,fP),
 (115,BV),
 (116,E9),
 (117,KG),
 (118,xj),
 (119,Fb),
 (120,Fh),
 (121,anr),
 (122,ans),
 (123,ant),
 (124,anu),
 (125,anv),
 (126,anw),
 (127,anx),
 (128,anz),
 (129,MP),
 (130,xK),
 (131,C8),
 (132,C9),
 (133,MQ),
 (134,xL),
 (135,G4),
 (136,G5),
 (137,G6),
 (138,anA),
 (139,anB),
 (140,anC),
 (141,anD),
 (142,anE),
 (143,G7),
 (145,MR),
 (146,MS),
 (147,MT),
 (148,MU),
 (149,SH),
 (150,MV),
 (151,zF),
 (154,MW),
 (155,nr),
 (156,Ko),
 (157,SJ),
 (158,anF),
 (159,SK),
 (160,anG),
 (161,anH),
 (162,anI),
 (163,anJ),
 (164,zG),
 (165,anK),
 (167,anL),
 (168,anM),
 (169,anN),
 (170,anO),
 (171,anP),
 (172,anQ),
 (173,rL),
 (174,MX),
 (175,anR),
 (176,cO),
 (177,anS),
 (178,Db),
 (180,anT),
 (181,anU),
 (182,anV),
 (183,anW),
 (184,anX),
 (185,anY),
 (187,anZ),
 (188,an0),
 (189,an1),
 (190,an2),
 (191,an3),
 (192,an4),
 (193,an5),
 (194,an6),
 (196,an7),
 (197,an8),
 (198,an9),
 (199,aoa),
 (200,aob),
 (201,aoc),
 (202,aod),
 (203,aoe),
 (225,GY),
 (226,SG),
 (227,MP),
 (228,xI),
 (229,abX),
 (230,SK),
 (231,MP),
 (232,SK),
 (233,xI),
 (234,xI),
 (235,xI),
 (236,xI),
 (237,xI),
 (238,xI),
 (239,SG),
 (240,MP),
 (241,abZ),
 (242,abZ)]
def aqD:List (Nat×Shape):=[(3,⟨Ts,[]⟩),
 (4,⟨Nm,[]⟩),
 (5,⟨[(0,db)],[]⟩),
 (6,⟨z7,rP⟩),
 (7,⟨[(0,Dl),(1,iu)],[]⟩),
 (8,⟨[(0,Dl),(1,iu)],[]⟩),
 (9,⟨xT,[]⟩),
 (10,⟨[],[]⟩),
 (11,⟨z7,rP⟩),
 (12,⟨kH,rP⟩),
 (13,⟨Hp,rP⟩),
 (14,⟨xT,[]⟩),
 (15,⟨[(0,iu),(1,aa)],[]⟩),
 (16,⟨[(0,Dl),(1,aa),(2,iu)],[]⟩),
 (17,⟨xT,[]⟩),
 (18,⟨[(0,Dl),(1,aa)],[]⟩),
 (19,⟨z8,[]⟩),
 (20,⟨Tt,[]⟩),
 (21,⟨dG,[]⟩),
 (22,⟨[(0,qH),(1,iu)],[]⟩),
 (23,⟨z7,rP⟩),
 (24,⟨z7,rP⟩),
 (25,⟨Hp,rP⟩),
 (26,⟨z7,rP⟩),
 (27,⟨Hq,[]⟩),
 (28,⟨xT,[]⟩),
 (29,⟨xT,[]⟩),
 (30,⟨dG,[]⟩),
 (31,⟨xT,[]⟩),
 (32,⟨[],[]⟩),
 (33,⟨[(0,zO),(1,aa),(2,aa)],[]⟩),
 (34,⟨z8,[]⟩),
 (35,⟨z8,[]⟩),
 (36,⟨mX,[]⟩),
 (37,⟨kH,Hk⟩),
 (38,⟨kH,Hk⟩),
 (39,⟨kH,Hk⟩),
 (40,⟨mX,[]⟩),
 (41,⟨[(0,S9)],[]⟩),
 (42,⟨[(0,M8),(1,aa)],[ow]⟩),
 (43,⟨Nn,[]⟩),
 (44,⟨[(0,dS),(1,aa)],[]⟩),
 (45,⟨Hq,[]⟩),
 (46,⟨xT,[]⟩),
 (47,⟨xT,[]⟩),
 (48,⟨[(0,aY),(1,Dl)],[.var 91 [.one (.nilS ag),acf,aa]]⟩),
 (49,⟨kH,[.var 91 [pS,.one (.whole lg 2),aa],lQ,v5]⟩),
 (50,⟨[],[]⟩),
 (51,⟨[(0,.agg [.str,.bool,.int .i64,.int .i64,.str,.str])],[]⟩),
 (52,⟨[(0,zO),(1,aa)],[]⟩),
 (53,⟨[(0,dh),(1,db),(2,Hg),(3,aa)],[]⟩),
 (54,⟨mX,[]⟩),
 (55,⟨z8,[]⟩),
 (56,⟨[(0,aY),(1,qH)],Hk⟩),
 (57,⟨mX,[]⟩),
 (58,⟨z8,[]⟩),
 (59,⟨mX,[]⟩),
 (60,⟨mX,[]⟩),
 (61,⟨[(0,S9),(1,dF),(2,dS)],[]⟩),
 (62,⟨Nn,[]⟩),
 (63,⟨Nn,[]⟩),
 (64,⟨Nn,[]⟩),
 (65,⟨[(0,dS),(1,.fn CW [] [.aG 0 0 0,.aG 1 0 0,.aG 2 0 0])],uv⟩),
 (66,⟨No,uv⟩),
 (67,⟨[(0,aa),(1,aa),(2,.fn vV [] [.aG 0 0 0]),(3,.fn vW [] [.aG 0 0 0])],s7⟩),
 (68,⟨[(0,aa),(1,aa),(2,aY)],s7⟩),
 (69,⟨Tu,s7⟩),
 (70,⟨[(0,dh),(1,ak)],[]⟩),
 (72,⟨Nm,[]⟩),
 (73,⟨[(0,.agg [.int .i64,.list ar,.int .i64]),(1,db)],[]⟩),
 (74,⟨Hr,[]⟩),
 (75,⟨[(0,zO)],[]⟩),
 (76,⟨[(0,dh),(1,db),(2,Hg)],[]⟩),
 (77,⟨kH,Hl⟩),
 (78,⟨Hp,Hl⟩),
 (79,⟨kH,Hl⟩),
 (80,⟨[(0,qH),(1,aa),(2,aY)],iv⟩),
 (81,⟨Tt,[]⟩),
 (82,⟨Np,[]⟩),
 (83,⟨Nq,[]⟩),
 (84,⟨[(0,aY),(1,qH)],Hm⟩),
 (85,⟨kH,Hm⟩),
 (86,⟨[(0,dF),(1,.fn xK [] [])],[]⟩),
 (87,⟨Tv,Nl⟩),
 (88,⟨[(0,M8),(1,dS),(2,aa)],[ow]⟩),
 (89,⟨mX,[]⟩),
 (90,⟨[(0,aa),(1,aY),(2,cF),(3,dz),(4,oR)],xS⟩),
 (91,⟨No,[Dp,.var 82 [.one (.whole vX 3)],zP,ow,iF]⟩),
 (92,⟨Tu,iv⟩),
 (93,⟨Tv,Nl⟩),
 (94,⟨No,uw⟩),
 (95,⟨No,xR⟩),
 (96,⟨Hs,[]⟩),
 (97,⟨Hp,[.var 170 [pU,.one (.fk lh)],bc]⟩),
 (98,⟨[(0,dh),(1,ak)],[]⟩),
 (99,⟨kH,pW⟩),
 (100,⟨kH,pW⟩),
 (101,⟨Nm,[]⟩),
 (102,⟨kH,ox⟩),
 (103,⟨[(0,aY),(1,Dk)],ox⟩),
 (104,⟨[(0,Hg)],[]⟩),
 (105,⟨[(0,zO)],[]⟩),
 (106,⟨[(0,zO)],[]⟩),
 (107,⟨Ts,[]⟩),
 (108,⟨[(0,Hb),(1,Hb)],[]⟩),
 (109,⟨[(0,sY),(1,sY)],[]⟩),
 (110,⟨z9,[]⟩),
 (111,⟨[(0,dh),(1,db)],[]⟩),
 (112,⟨z9,[]⟩),
 (113,⟨[(0,sZ)],[]⟩),
 (114,⟨[(0,qI)],[]⟩),
 (115,⟨[(0,dh),(1,db),(2,Hg)],[]⟩),
 (116,⟨[(0,dh),(1,aa),(2,M6)],[]⟩),
 (117,⟨[(0,dh),(1,.fn xj [] [])],[]⟩),
 (118,⟨[(0,db)],[]⟩),
 (119,⟨[(0,aY),(1,rM),(2,pU)],[pV,bc]⟩),
 (120,⟨kH,Hl⟩),
 (121,⟨[(0,dF)],[]⟩),
 (122,⟨[(0,dF)],[]⟩),
 (123,⟨[(0,dF)],[]⟩),
 (124,⟨[],[]⟩),
 (125,⟨Nq,[]⟩),
 (126,⟨Nq,[]⟩),
 (127,⟨[(0,aY),(1,Dk)],Hm⟩),
 (128,⟨[(0,aY),(1,dF),(2,iu),(3,aa)],Hm⟩),
 (129,⟨[(0,dF),(1,.fn xK [] [])],[]⟩),
 (130,⟨mX,[]⟩),
 (131,⟨[(0,db)],[]⟩),
 (132,⟨[(0,aY),(1,db),(2,aa),(3,aa),(4,iu),(5,aa)],pW⟩),
 (133,⟨dG,[]⟩),
 (134,⟨[(0,db)],[]⟩),
 (135,⟨Ts,[]⟩),
 (136,⟨z7,pW⟩),
 (137,⟨z7,pW⟩),
 (138,⟨kH,ox⟩),
 (139,⟨[(0,Dk)],[]⟩),
 (140,⟨kH,ox⟩),
 (141,⟨kH,ox⟩),
 (142,⟨[(0,qI)],[]⟩),
 (143,⟨Nm,[]⟩),
 (145,⟨z9,[]⟩),
 (146,⟨[(0,dh),(1,db)],[]⟩),
 (147,⟨z9,[]⟩),
 (148,⟨z9,[]⟩),
 (149,⟨[(0,db),(1,.fn zF [] [.aG 0 0 0])],ux⟩),
 (150,⟨z9,[]⟩),
 (151,⟨Tu,ux⟩),
 (154,⟨[(0,qI),(1,qI),(2,aY),(3,cF)],Hj⟩),
 (155,⟨[(0,sZ)],[]⟩),
 (156,⟨[(0,dh),(1,aa),(2,aa)],[]⟩),
 (157,⟨[(0,dh),(1,.fn xj [] [])],[]⟩),
 (158,⟨[],[]⟩),
 (159,⟨[(0,cu),(1,.fn xJ [] [])],bz⟩),
 (160,⟨Tt,[]⟩),
 (161,⟨[(0,aa),(1,dF),(2,qH)],[]⟩),
 (162,⟨Aa,bz⟩),
 (163,⟨[],[]⟩),
 (164,⟨mX,[]⟩),
 (165,⟨Nq,[]⟩),
 (167,⟨[(0,aY),(1,iu)],Hm⟩),
 (168,⟨dG,[]⟩),
 (169,⟨[(0,iu),(1,Dk)],[]⟩),
 (170,⟨kH,ox⟩),
 (171,⟨kH,ox⟩),
 (172,⟨[(0,qI),(1,aa)],[]⟩),
 (173,⟨Tv,[.var 23 [SX],.var 22 [lO],bY,Th]⟩),
 (174,⟨[(0,qI),(1,qI),(2,aY)],iv⟩),
 (175,⟨[(0,cu),(1,.fn cO [] [])],bz⟩),
 (176,⟨[(0,qH),(1,qH)],[]⟩),
 (177,⟨[(0,cu),(1,.fn Db [] [])],bz⟩),
 (178,⟨[(0,qH),(1,qH)],[]⟩),
 (180,⟨[(0,iu),(1,Dk)],[]⟩),
 (181,⟨[(0,qI)],[]⟩),
 (182,⟨[(0,cu),(1,aa),(2,aa),(3,aa),(4,.fn cO [] [])],bz⟩),
 (183,⟨Hs,[]⟩),
 (184,⟨Hq,[]⟩),
 (185,⟨[(0,dF),(1,dF),(2,.fn cO [] [])],[]⟩),
 (187,⟨[(0,cu),(1,aa),(2,aa),(3,.fn cO [] [])],bz⟩),
 (188,⟨[(0,cu),(1,aa),(2,aa),(3,.fn cO [] [])],bz⟩),
 (189,⟨[(0,cu),(1,aa),(2,aa),(3,.fn cO [] [])],bz⟩),
 (190,⟨[(0,dF),(1,aa),(2,aa),(3,.fn cO [] [])],[]⟩),
 (191,⟨[(0,cu),(1,aa),(2,aa),(3,.fn cO [] [])],bz⟩),
 (192,⟨[(0,cu),(1,aa),(2,aa),(3,.fn cO [] [])],bz⟩),
 (193,⟨[(0,cu),(1,aa),(2,aa),(3,aa),(4,.fn cO [] [])],bz⟩),
 (194,⟨[(0,cu),(1,aa),(2,aa),(3,aa),(4,.fn cO [] [])],bz⟩),
 (196,⟨Hs,[]⟩),
 (197,⟨dG,[]⟩),
 (198,⟨[(0,cu),(1,aa),(2,aa),(3,aa),(4,.fn cO [] [])],bz⟩),
 (199,⟨dG,[]⟩),
 (200,⟨kH,[Te]⟩),
 (201,⟨[(0,dF),(1,aa),(2,aY),(3,.fn cO [] [])],iv⟩),
 (202,⟨[(0,dF),(1,aa),(2,aa),(3,aa),(4,aY),(5,.fn cO [] [])],iv⟩),
 (203,⟨[(0,dF),(1,aa),(2,aa),(3,aY),(4,.fn cO [] [])],iv⟩),
 (225,⟨Hp,[.var 170 [pU,.one (.cY lh 2)],bc,.map lh]⟩),
 (226,⟨[(0,dF),(1,.fn xJ [] [])],[]⟩),
 (227,⟨[(0,dF),(1,.fn xJ [] [])],[]⟩),
 (228,⟨[(0,dS),(1,.fn C3 [] [.aG 0 0 0])],iv⟩),
 (229,⟨[(0,.one (.row vX 0 [0])),(1,aa)],[iF]⟩),
 (230,⟨[(0,cu),(1,.fn zG [] [])],bz⟩),
 (231,⟨[(0,dF),(1,.fn zG [] [])],[]⟩),
 (232,⟨[(0,cu),(1,.fn xK [] [])],bz⟩),
 (233,⟨[(0,dS),(1,.fn C6 [] [.aG 0 0 0,.aG 1 0 0,.aG 2 0 0])],uw⟩),
 (234,⟨[(0,dS),(1,.fn C4 [] [.aG 0 0 0,.aG 1 0 0])],Nl⟩),
 (235,⟨[(0,dS),(1,.fn CX [] [.aG 0 0 0,.aG 1 0 0])],Nl⟩),
 (236,⟨[(0,dS),(1,.fn C7 [] [.aG 0 0 0,.aG 1 0 0,.aG 2 0 0])],xR⟩),
 (237,⟨[(0,dS),(1,.fn CY [] [.aG 0 0 0,.aG 1 0 0,.aG 2 0 0,.aG 3 0 0])],xS⟩),
 (238,⟨[(0,dS),(1,.fn CZ [] [.aG 0 0 0,.aG 1 0 0,.aG 2 0 0])],[Dp,.var 82 [.one (.whole vX 3)],zP,ow,iF]⟩),
 (239,⟨[(0,dF),(1,.fn GX [] [])],[]⟩),
 (240,⟨[(0,dF),(1,.fn GX [] [])],[]⟩),
 (241,⟨[(0,qI),(1,qI),(2,.fn MW [] [.aG 0 0 0,.aG 1 0 0])],Hj⟩),
 (242,⟨[(0,qI),(1,qI),(2,.fn MX [] [.aG 0 0 0])],iv⟩)]
def aqE:List (Nat×Shape):=[(3,⟨ee,[]⟩),
 (4,⟨[(0,Dm)],[bY,lQ]⟩),
 (5,⟨kH,rP⟩),
 (6,⟨Hr,rP⟩),
 (7,⟨Nr,Hn⟩),
 (8,⟨Nr,Hn⟩),
 (9,⟨[(0,db),(1,ak)],[]⟩),
 (10,⟨ee,[]⟩),
 (11,⟨Ht,Ho⟩),
 (12,⟨dG,rP⟩),
 (13,⟨dG,rP⟩),
 (14,⟨Nr,Hn⟩),
 (15,⟨ee,[]⟩),
 (16,⟨dG,[]⟩),
 (17,⟨[(0,Dm)],Hn⟩),
 (18,⟨[(0,ov),(1,aa)],nM⟩),
 (19,⟨Nr,Hn⟩),
 (20,⟨mX,[]⟩),
 (21,⟨Ns,bz⟩),
 (22,⟨ee,[]⟩),
 (23,⟨Ht,Ho⟩),
 (24,⟨Ht,Ho⟩),
 (25,⟨Ht,Ho⟩),
 (26,⟨Ht,Ho⟩),
 (27,⟨dG,[]⟩),
 (28,⟨dG,[]⟩),
 (29,⟨[(0,Dm),(1,zM)],[bY,bn,bc]⟩),
 (30,⟨ee,[]⟩),
 (31,⟨[(0,zO),(1,aa)],[]⟩),
 (32,⟨[(0,acm)],[Ti]⟩),
 (33,⟨[(0,ak),(1,aa),(2,ov),(3,aa),(4,aa)],nM⟩),
 (34,⟨dG,[]⟩),
 (35,⟨kH,Hk⟩),
 (36,⟨mX,[]⟩),
 (37,⟨ee,Nc⟩),
 (38,⟨dG,Nc⟩),
 (39,⟨[(0,.agg [.int .i64,.int .i64,.whole ar 4,.whole ag 5])],[.var 116 [aa,zN,Dd,aa,zK],.dead,.dead,.map cP,bY,bn,dN]⟩),
 (40,⟨ee,[]⟩),
 (41,⟨[(0,M8)],[ow]⟩),
 (42,⟨[],[ow]⟩),
 (43,⟨Hu,[iF]⟩),
 (44,⟨ee,[]⟩),
 (45,⟨[(0,S3)],[js]⟩),
 (46,⟨[(0,Dm),(1,zM)],[bY,bn,bc]⟩),
 (47,⟨Hv,nM⟩),
 (48,⟨dG,[.var 91 [pS,.one (.whole lg 2),aa],lQ,v5]⟩),
 (49,⟨[(0,zO),(1,.one (.list ou)),(2,aa)],[.var 91 [pS,.one (.whole lg 3),aa],zU,.dead,v5]⟩),
 (50,⟨[(0,acq)],[Hi]⟩),
 (51,⟨[(0,.agg [.str,.bool,.whole iR 0,.int .i64,.int .i64])],[zV]⟩),
 (52,⟨[(0,ov),(1,aa)],nM⟩),
 (53,⟨[(0,ov),(1,aa),(2,aa)],nM⟩),
 (54,⟨ee,[]⟩),
 (55,⟨ee,[]⟩),
 (56,⟨dG,Nc⟩),
 (57,⟨mX,[]⟩),
 (58,⟨z8,[]⟩),
 (59,⟨Hr,[]⟩),
 (60,⟨ee,[]⟩),
 (61,⟨Hu,[iF]⟩),
 (62,⟨Hu,[iF]⟩),
 (63,⟨Hu,[iF]⟩),
 (64,⟨Hu,[iF]⟩),
 (65,⟨[],uv⟩),
 (66,⟨[],uv⟩),
 (67,⟨[(0,acr),(1,lO),(2,aa)],[mW,bY,bn,bc]⟩),
 (68,⟨dG,s7⟩),
 (69,⟨ee,s7⟩),
 (70,⟨[(0,.agg [.int .i64,.bool,.whole ag 0,.whole ag 1,.whole ab 2,.whole ab 3,.whole ag 4,.whole ew 5,.int .i64]),(1,aa)],[bn,bn,bc,bc,bn,oS]⟩),
 (72,⟨ee,[]⟩),
 (73,⟨ee,[]⟩),
 (74,⟨[(0,Hg),(1,aa),(2,aa)],[]⟩),
 (75,⟨dG,[]⟩),
 (76,⟨[(0,aY),(1,.one (.Bd .i64 0))],Hl⟩),
 (77,⟨ee,zX⟩),
 (78,⟨[(0,aa),(1,ak),(2,ak)],zX⟩),
 (79,⟨[(0,lO)],zW⟩),
 (80,⟨ee,iv⟩),
 (81,⟨mX,[]⟩),
 (82,⟨z8,[]⟩),
 (83,⟨Np,[]⟩),
 (84,⟨[],s8⟩),
 (85,⟨Hr,[.var 162 [zI,zI],.dead]⟩),
 (86,⟨ee,[]⟩),
 (87,⟨[],rO⟩),
 (88,⟨[],[ow]⟩),
 (89,⟨ee,[]⟩),
 (90,⟨[],xS⟩),
 (91,⟨[],Dv⟩),
 (92,⟨[],iv⟩),
 (93,⟨[],rO⟩),
 (94,⟨[],uw⟩),
 (95,⟨[],xR⟩),
 (96,⟨dG,[]⟩),
 (97,⟨dG,[.var 170 [zM,.one (.cY lh 3)],.dead,bc,.map lh]⟩),
 (98,⟨[(0,aY),(1,.one (.Bd .i64 0))],pW⟩),
 (99,⟨ee,Tm⟩),
 (100,⟨dG,Tm⟩),
 (101,⟨dG,[]⟩),
 (102,⟨Tw,ox⟩),
 (103,⟨ee,ox⟩),
 (104,⟨dG,[]⟩),
 (105,⟨ee,[]⟩),
 (106,⟨[(0,Dm)],[bY,lQ]⟩),
 (107,⟨ee,[]⟩),
 (108,⟨ee,[]⟩),
 (109,⟨ee,[]⟩),
 (110,⟨dG,[]⟩),
 (111,⟨ee,[]⟩),
 (112,⟨dG,[]⟩),
 (113,⟨ee,[]⟩),
 (114,⟨[(0,.one (.whole bJ 0))],[Tj]⟩),
 (115,⟨z9,[]⟩),
 (116,⟨kH,[pV]⟩),
 (117,⟨ee,[]⟩),
 (118,⟨ee,[]⟩),
 (119,⟨dG,[pV,bc]⟩),
 (120,⟨ee,zX⟩),
 (121,⟨mX,[]⟩),
 (122,⟨mX,[]⟩),
 (123,⟨mX,[]⟩),
 (124,⟨Ns,bz⟩),
 (125,⟨Np,[]⟩),
 (126,⟨Np,[]⟩),
 (127,⟨[(0,zI)],s8⟩),
 (128,⟨[],s8⟩),
 (129,⟨dG,[]⟩),
 (130,⟨ee,[]⟩),
 (131,⟨ee,[]⟩),
 (132,⟨dG,To⟩),
 (133,⟨Hv,nM⟩),
 (134,⟨Hr,[]⟩),
 (135,⟨Hv,nM⟩),
 (136,⟨dG,To⟩),
 (137,⟨ee,To⟩),
 (138,⟨[],ox⟩),
 (139,⟨ee,[]⟩),
 (140,⟨[(0,Dk)],ox⟩),
 (141,⟨Tw,ox⟩),
 (142,⟨dG,[]⟩),
 (143,⟨ee,[]⟩),
 (145,⟨dG,[]⟩),
 (146,⟨ee,[]⟩),
 (147,⟨Hv,nM⟩),
 (148,⟨ee,[]⟩),
 (149,⟨dG,ux⟩),
 (150,⟨Hv,nM⟩),
 (151,⟨ee,ux⟩),
 (154,⟨[],Hj⟩),
 (155,⟨dG,[]⟩),
 (156,⟨dG,[]⟩),
 (157,⟨dG,[]⟩),
 (158,⟨Ns,bz⟩),
 (159,⟨Hw,Du⟩),
 (160,⟨Aa,bz⟩),
 (161,⟨mX,[]⟩),
 (162,⟨Hw,Du⟩),
 (163,⟨Ns,bz⟩),
 (164,⟨ee,[]⟩),
 (165,⟨mX,[]⟩),
 (167,⟨[(0,aa),(1,zI)],s8⟩),
 (168,⟨dG,[]⟩),
 (169,⟨dG,[]⟩),
 (170,⟨Tw,ox⟩),
 (171,⟨[(0,aa),(1,ak)],ox⟩),
 (172,⟨dG,[]⟩),
 (173,⟨[],[.var 23 [ab1],.var 22 [S0],.dead,.dead,bY,Th]⟩),
 (174,⟨[],iv⟩),
 (175,⟨[],bz⟩),
 (176,⟨dG,[]⟩),
 (177,⟨Hw,Du⟩),
 (178,⟨ee,[]⟩),
 (180,⟨dG,[]⟩),
 (181,⟨ee,[]⟩),
 (182,⟨[],bz⟩),
 (183,⟨dG,[]⟩),
 (184,⟨dG,[]⟩),
 (185,⟨dG,[]⟩),
 (187,⟨[],bz⟩),
 (188,⟨[],bz⟩),
 (189,⟨[],bz⟩),
 (190,⟨Hq,[]⟩),
 (191,⟨[],bz⟩),
 (192,⟨ee,bz⟩),
 (193,⟨dG,bz⟩),
 (194,⟨[(0,aa),(1,ak)],bz⟩),
 (196,⟨dG,[]⟩),
 (197,⟨ee,[]⟩),
 (198,⟨[],bz⟩),
 (199,⟨Hs,[]⟩),
 (200,⟨Hs,[Te]⟩),
 (201,⟨dG,iv⟩),
 (202,⟨dG,iv⟩),
 (203,⟨Hq,iv⟩),
 (225,⟨dG,[.var 170 [lO,.one (.cY lh 2)],.dead,.map lh,bc]⟩),
 (226,⟨ee,[]⟩),
 (227,⟨dG,[]⟩),
 (228,⟨[],iv⟩),
 (229,⟨[],[iF]⟩),
 (230,⟨Hw,Du⟩),
 (231,⟨dG,[]⟩),
 (232,⟨Hw,Du⟩),
 (233,⟨[],uw⟩),
 (234,⟨[],rO⟩),
 (235,⟨[],rO⟩),
 (236,⟨[],xR⟩),
 (237,⟨[],xS⟩),
 (238,⟨[],Dv⟩),
 (239,⟨ee,[]⟩),
 (240,⟨dG,[]⟩),
 (241,⟨[],Hj⟩),
 (242,⟨[],iv⟩)]
def aqF:List (Nat×Shape):=[(76,⟨[(0,.one (.eG)),(1,aa)],[]⟩),
 (98,⟨[(0,.one (.eG)),(1,aa)],[]⟩),
 (159,⟨Aa,bz⟩),
 (162,⟨Aa,bz⟩),
 (177,⟨Aa,bz⟩),
 (230,⟨Aa,bz⟩),
 (232,⟨Aa,bz⟩)]
def aqG (n:Nat):List Nat:=(List.range (n.log2+1)).filter n.testBit
def aeo:Nat→List Nat→List (Nat×List Nat)
 | _,[]=>[]
 | i,n::l=>(i,aqG n)::aeo (i+1) l
def UR (l:List (Nat×List Nat)):List (Nat×List (Nat×List Nat)):=l.map fun e=>(e.1,aeo 0 e.2)
def aqH:List (Nat×List (Nat×List Nat)):=UR [(3,[3,34,96,480,1952,4398046511776,16,6784,31232,129024,147573952589676455936,16,3541774862152233953280,8264141345021879166976,3541774862152234084352,4951763698916383251830450176,16,3541774862152233953280,16]),
 (4,[19,50,16]),
 (5,[1,33,1,4]),
 (6,[7,135,387,16771,387,387,64]),
 (7,[22,214,16598,48,2097234,48,80,48]),
 (8,[22,214,65750,48,8388690,48,338,3221225810,7516193106,3221226322,3221225810,3221225810,80,48]),
 (9,[2,48,131088,12,12]),
 (10,[0,6,1]),
 (11,[71,327,839,64,33095,64,4194375,64,64]),
 (12,[1,4]),
 (13,[3,16387,16,3,16]),
 (14,[6,22,278,12,12]),
 (15,[3,65539,16,786435,1835011,786467,17180655619,16,786435,16]),
 (16,[14,268435470,64,3221225486,7516192782,3221225614,3221225486,3221225486,64]),
 (17,[6,134,4,12,4]),
 (18,[6,70,524358,48,8388614,48,386,1073742210,48,642,25769804418,60129542786,25769805442,25769839234,25769804418,1125925676681858,25769804418,288230401921516162,25769804418,25769804418,48]),
 (19,[22,86,8278,48,144,4194448,400,67109264,48,48]),
 (20,[19,16]),
 (21,[5,4]),
 (22,[6,16390,16,38,102,102,16]),
 (23,[71,192,393408,917696,393664,235274688,503710144,235276224,235274688,235274688,393408,192,64]),
 (24,[71,199,451,451,963,134218691,963,963,1475,140737488356803,1475,3523,7619,4503599627378115,7619,7619,11715,2305843009213705667,11715,28099,28099,11715,64]),
 (25,[19,51,115,29360243,62914675,29360499,29360499,29361011,29362035,274907268979,29362035,29364083,29368179,562949982789491,7881299377266547,16888498632007539,7881299377291123,584342051680698227,7881299377266547,7881299377266547,29368179,29362035,29360243,29360243,16]),
 (26,[71,199,451,451,963,16778179,963,963,1987,4035,137438957507,4035,4035,963,64]),
 (27,[3,67,16,3,2051,1,16]),
 (28,[2,32770,4,10,1048586,4,68719476746,4,1924145348618,4123168604170,1924145348650,283399122059306,4,3942573819297802,8446173446668298,3942573819297930,2309785583032991754,4,3942573819297802,1924145348618,4]),
 (29,[6,54,118,246,1879048438,4026532086,1879049206,551634862582,1879049718,985164297537014,2111064204379638,985164297543158,985164297537014,985164297537014,1879049462,1879048438,1879048438,24676,57444,1083197534374707740536791108,2321137573660088015435915332,1083197534374707740536987716,1083197534374707740536987716,317995847591432058114712789060,1083197534374707740536791108,1083197534374707740536791108,12]),
 (30,[1,4]),
 (32,[0,2,114,242,122,114,114,1]),
 (33,[14,6158,67115022,1984,8589936654,1984,10254,3848290707468,8246337218572,3848290756620,285323267467276,1984,3848291182604,3848291051532,18446747922000603148,1984,92233724216838809612,1984,2361183245283113576460,3848290707468,1984]),
 (34,[6,1030,16,8198,16,131072,16,16]),
 (35,[6,38,36,32,16]),
 (36,[6,38,4,4]),
 (37,[1,4]),
 (38,[1,9,196617,458761,196633,196729,274878103673,4,197049,2251799813882041,288230376151908409,4,196761,196617,196617,1,0,4]),
 (39,[5,13,14680076,31457292,14680108,14680076,14680076,4]),
 (40,[2,4]),
 (41,[2,4]),
 (42,[0]),
 (43,[28,540,1564,64,131612,64,67109404,67109404,64,8589934620,64,156,128,64]),
 (44,[3,16]),
 (45,[3,35,99,4195,99,227,67109091,227,227,16]),
 (46,[6,8198,12,54,180,6442451124,15032385716,6442451380,6442451124,6442451124,3848290697364,8246337208468,3848290698900,3848290697364,3848290697364,12]),
 (47,[2,262146,4,26,117440538,251658266,117440634,68836917306,117440538,117440538,154,410,492581209244058,1055531162665370,492581209245594,492581209247642,2018105214271228826,4323948223484922778,2018105214271241114,2018105214271228826,2018105214271228826,492581209295770,1208925820107210383969178,492581209263002,492581209260954,492581209244058,492581209244058,19807040628566084398385987970,4,26]),
 (49,[5,101,134217829,28,165,17179869349,28,421,933,36028797018964901,933,933,933,541598767187353870268367269,1160568786830044007717929381,541598767187353870268370341,541598767187353870268368293,541598767187353870268368293,541598767187353870268368293,541598767187353870268372389,664613998434056703639257400408544677,541598767187353870268372389,541598767187353870268372389,541598767187353870268367269,8613,40922045845265281709703175316055924550366111211940,87690098239854175092221089962976981179355952587172,40922045845265281709703175316055924550366111261092,40922045845265281709703175316055924550366111261092,335274321610258453047598115364446189841149549088924068,718398206826730667637184872152023485745834329634824612,335274321610258453047598115364446189841149549089120676,335274321610258453047598115364446189841149549088924068,335274321610258453047598115364446189841149549088924068,40922045845265281709703175316055924550366111211940,28]),
 (50,[0,1]),
 (51,[6,14,12582924,29360140,12582956,12583244,8602517580,12582924,12582924,4]),
 (52,[6,70,16454,48,134,16777350,48,390,469762434,1006633346,469763970,1099981390722,469762434,469762434,48]),
 (53,[75,6152,16783368,1792,2147485704,1792,8589936648,1792,59392,2199023298560,1792,70368744185856,1792,1792]),
 (54,[2,10,4]),
 (55,[6,518,16,134217734,16,536870918,16,1610612742,1610612742,16,137975824390,137975824390,137975824390,17592186044422,16,35184908959750,35184372088838,2251799813685254,16,63050394783186946,135107988821114882,63050394783187010,4674736413210574850,16,63050394783186946,16]),
 (56,[9,41,41,32,16]),
 (57,[6,518,4,14,7340046,15728654,7340094,7340046,7340046,4]),
 (58,[22,48]),
 (59,[2,66,4,10,8,4]),
 (60,[2,66,194,194,4,1090,4,32834,32834,3670016,7864320,3670032,137887744,4,3670016,4,536870914,4,4]),
 (61,[14,142,7340172,15728780,7340684,7341708,7341708,7342732,7346316,7340172,7340172,64]),
 (62,[28,412,408,920,268436376,920,920,1288,3336,7432,281474976718088,7432,15624,15624,15624,7432,64]),
 (63,[28,156,7340188,15728796,7340700,7341212,7340188,7340188,64]),
 (64,[28,140,396,128,64]),
 (65,[450,962,498,16882,498,498,450]),
 (66,[15,1039,0,1048581,0]),
 (67,[271,2319,2317,6413,14605,33569037,14605,30989,63757,206158493965,481036400909,206158559501,206158493965,206158493965,4503599627434253,1792,30989,14605,1792]),
 (68,[7,32]),
 (69,[3,8]),
 (70,[19,208,65744,48,2097232,336,33554768,48,48]),
 (72,[3,16]),
 (73,[6,16]),
 (74,[5,8197,28,37,229,67108965,28,485,4398046511460,28,516,1540,4503599627372036,28,28]),
 (75,[2,514,4,26,67108874,4,1879048202,4026531850,1879048298,4399925559306,4,1879048202,9444732965739290427392,4,4]),
 (76,[35,291,16675,192,524323,192,4194339,192,547,17179869731,192,1537,1024,1024,192]),
 (77,[1,4]),
 (78,[19,147,16531,147,7340179,15728787,7340947,7340179,7340179,2305843009213694099,112,36893488147419103379,112,112]),
 (79,[1,9,229385,491529,229433,229385,229385,4]),
 (80,[14,65550,64,14,58720262,125829126,58720518,17238589446,64,58720262,64]),
 (81,[19,83,211,16,2131,16,32787,16,2097171,16,49,67108912,201326640,137438953520,16,16,35184372088880,140737488355376,16,144115188075855920,16,16,16]),
 (82,[6,134,12,12]),
 (83,[28,124,4220,12412,16,266364,16777336,56,16,2147487804,2147487804,2147487804,16,274877911100,144,400,16,144115188075855932,16,16]),
 (84,[9,41,105,0,1065,0,16425,0,4194345,0,268435497,0,17179869225,0,1099511627817,9,0,281474976710665,1,0]),
 (85,[1,4]),
 (86,[3,16]),
 (87,[0]),
 (88,[67,4163,67,67]),
 (89,[2,4]),
 (90,[93,69,0]),
 (91,[4109,0]),
 (92,[0]),
 (93,[135,0]),
 (94,[3087,7183,3119,68655,3087,3087,3087]),
 (95,[47,111,8303,111,111,47,41,0]),
 (96,[1,17,4,4]),
 (97,[3,99,131107,4194307,3,35,35,32,16]),
 (98,[3,4194307,48,67,67,3848290697282,8246337208386,3848290697538,144119036366553410,48,3848290697282,3848290697282,578,4722366482869645214272,576,270799383593676935134184000,580284393415022003858965056,270799383593676935134187072,270799383593676935134191168,270799383593676935134215744,81129909213990275372724139343424,270799383593676935134192192,270799383593676935134192192,270799383593676935134184000,270799383593676935134184000,48]),
 (99,[1,4]),
 (100,[1,9,25,939524121,2013265945,939524217,939524281,939525049,939526073,73786976295777732537,4,302231454903658233202105,939524409,158456325028528675188027426105,939524409,939524121,939524121,1,0,4]),
 (101,[3,387,899,419,65955,16,387,16]),
 (102,[5,21,21,65557,21,117,33554485,12,21,8589934612,12,12]),
 (103,[3,257,16,0,16]),
 (104,[2,10,266,4,4]),
 (105,[2,10,16777226,4,2251799813685258,4,63050394783186954,135107988821114890,63050394783186986,295210955574136012810,4,63050394783186954,4]),
 (106,[6,14,3670030,7864334,3670078,3670078,120262754366,257701707838,120262754558,120262754366,120262754366,3670030,4]),
 (107,[3,1027,16,12291,28675,12323,16789507,16,12291,16]),
 (108,[3,1027,16,12291,28675,12323,16789507,16,12291,16]),
 (109,[3,1027,16,12291,28675,12323,16789507,16,12291,16]),
 (110,[1,9,137,4,8192,4,4]),
 (111,[3,35,229411,491555,229603,4398046740643,16,229411,229411,985162418487331,2111062325329955,985162418487843,64035557201674787,136093151239602723,64035557201676835,590359845915907326499,16,64035557201674787,985162418487331,16]),
 (112,[2,34,4,4]),
 (113,[1,9,456,968,488,456,456,4]),
 (114,[2,130,386,4,4098,4,10,3670026,7864330,3670074,3670042,2151153674,3670026,3670026,549755813898,8,4]),
 (115,[35,419,931,931,419,1411,25769805187,60129543555,25769807235,987842481539,2087354109315,987842489731,4611687006269877635,987842481539,987842481539,25769805187,64]),
 (116,[7,133,1835137,3932289,1835649,119275649,253493377,119277697,8796212299905,119281793,844425049413761,1970324956256385,844425049421953,844425049413761,844425049413761,119275649,119275649,1835137,64]),
 (117,[3,16]),
 (118,[1,4]),
 (119,[7,135,391,14725,31109,15749,277893,802181,14725,14725,537148805,14725,14725,1099511905669,14725,14725,4611686018427403653,14725,14725,64]),
 (120,[1,9,2057,9,9,274877906953,4,9,4]),
 (121,[5,37,4,12,4]),
 (122,[5,37,4,12,4]),
 (123,[5,37,4,12,4]),
 (124,[1,1]),
 (125,[28,124,252,14680316,31457532,14681084,14681596,14681340,4398061191420,14680316,14680316,2200,72057594037930136,216172782113786008,2064,4683743612465318040,2064,1180591620717411305616,2064,16]),
 (126,[28,60,124,252,7340276,15728884,7341044,275776500,7340276,7341428,7340276,7340276,2288,126100789566376144,270215977642232016,126100789566388432,9349472826421164240,126100789566376144,126100789566396624,126100789566376144,126100789566376144,16]),
 (127,[3,3,0,16]),
 (128,[7181,15373,7949,269837,7693,67116557,7181,7693,7181,7181,7181]),
 (129,[3,387,899,419,65955,16,387,16]),
 (130,[2,4]),
 (131,[1,4097,4,57345,122881,57361,67166209,4,57345,4]),
 (132,[63,8255,8255,8253,8249,8241,8225,8192,4096]),
 (133,[1,1025,4,8,49160,114696,49176,49160,49160,4]),
 (134,[1,9,3592,7688,3640,3592,3592,4]),
 (135,[3,4194307,16,35,469762082,1006632994,469762274,469762082,469762082,16]),
 (136,[7,263,64,64]),
 (137,[7,135,64]),
 (138,[9]),
 (139,[1,4]),
 (140,[1,4097,4,4]),
 (141,[5,53,16405,12,21,524309,21,213,268435541,12,21,12]),
 (142,[2,32,4,4]),
 (143,[3,898,1922,962,525186,16,898,16]),
 (145,[1,513,4,4097,4,57345,122881,57361,8445969,4,117497857,251715585,117497921,137556451329,4,117497857,57345,4]),
 (146,[3,35,458785,983073,458913,34013345,458913,3758555297,8053522593,3758555809,3758556833,246294363178657,527769339889313,246294363184801,1153167798970025633,16,246294363178657,3758555297,458785,16]),
 (148,[1,4]),
 (149,[3,387,899,419,65955,16,387,16]),
 (150,[1,8,1544,3592,1560,1544,1544,4]),
 (151,[3,195,451,211,536871107,8,195,8]),
 (152,[28,12,57356,122892,57484,57356,57356]),
 (154,[60,316,56,0]),
 (155,[1,9,456,968,488,456,456,4]),
 (156,[7,135,524423,135,391,536871303,897,35184372089729,897,64,54043195528446211,126100789566374147,54043195528446211,54043195528446211,64]),
 (157,[3,387,899,419,65955,16,387,16]),
 (158,[1,1]),
 (159,[3,35,4131,16,99,524387,99,227,536871139,99,99,33,16]),
 (160,[3,35,1825,3873,1953,133025,1825,1825,1825,16]),
 (161,[99,355,867,64,4163,64,64]),
 (162,[1,1,4]),
 (163,[1,1]),
 (164,[2,4]),
 (165,[28,88,16,16]),
 (167,[3,3,2,48]),
 (168,[1,8,24,4,72,4,264,4,1032,4,4096,4,4]),
 (169,[3,16]),
 (170,[5,21,2069,12,21,1048597,3145749,12,16777237,101,12,12]),
 (171,[1,65,12,16385,12,65537,12,34359738369,12,17,17,12]),
 (172,[6,16390,16,38,1835042,3932194,1835170,1835042,8591769634,1835042,16]),
 (174,[12,140,0]),
 (175,[19,0]),
 (176,[12,524,16,524300,16,16]),
 (177,[3,1027,16,35,32803,35,268435491,99,227,34359738595,227,562949953421539,227,227,33,16,16]),
 (178,[12,16]),
 (180,[3,16]),
 (181,[2,18,50,4,65554,4,4294967314,4,8796093022210,4,4]),
 (182,[1055,3103,7199,33561631,0,4294974495,0,549755821087,7199,7199,31775,72057594037959711,15391,15391,31775,37778931862957161724959,1208925819614629174721567,158456325028528675187087916063,35869,3103,200735,71711,858143,1902623,42535295865117307932921825928972929055,68639,68637,3103,68639,68635,3103]),
 (183,[1,4,4]),
 (184,[3,35,99,2115,4096,16,16,8195,16,65539,16,524288,16,16]),
 (185,[7,14343,30727,14727,2111879,64,15111,15367,2147499015,64,14343,274877906944,64,64]),
 (187,[271,16655,271,783,17179869967,783,783]),
 (188,[271,783,1801,3849,2101001,3849,3849,4873,8589939465,4873,4873,4873]),
 (189,[259,131331,771,1795,3843,34359742211,3843,7939,35184372096771,7939,3843]),
 (190,[15,1035,3083,7179,15371,31753,17179900937,68719507465,30729,30729,30729,10240,36028797018972160,768,180143985094828032,768,1152921504606855168,768]),
 (191,[261,769,33537,769,769,769]),
 (192,[15,527,1551,67087,1551,68719478287,1551,2199023257103,256,35184372090383,256,1551,36893488147419104783,3599,590295810358705655311,3599,19342813113834066795302415,3599,20282409603651670423947251287567,5647,649037107316853453566312041158159,5647,21267647932558653966460912964485518863,5647,256]),
 (193,[31,23,6163,140737488361491,6163,36893488147419109395,6163,1180591620717411309587,6163,6163,6163,1024]),
 (194,[31,23,12307,140737488367635,12307,73786976294838218771,12307,2361183241434822619155,8192,3072,12307,12307,12307,1329227995784915872903807060280356883,12307,696898287454081973172991196020261297074195,12307,22300745198530623141535718272648361505992723,12307,12307,12307,8192,3072]),
 (196,[5,21,1,5,261,5,5,16389,5,5,4]),
 (197,[1,4]),
 (198,[1053,3101,265245,1099511630877,3101,288230376151714845,2077,1053]),
 (199,[1,4]),
 (200,[1,1,1,1,4]),
 (201,[15,256]),
 (202,[63,63,55,4,4096]),
 (203,[31,4194318,6,3072,3072])]++[(31,[(0,[1,2]),(1,[1,2,4]),(2,[1,2,4,13]),(3,[2,3]),(4,[1,2,5,2000011]),(5,[2,5,6,2000011]),(6,[2,5,6,20,2000011]),(7,[2,3]),(8,[2,7,8,9]),(9,[2,7,8,9,29]),(10,[2,3]),(11,[2,7]),(12,[2,3])]),(48,[(0,[0,3,2000006]),(1,[0,3,5,2000006]),(2,[0,3,5,17,2000006]),(3,[4]),(4,[0,3,5,22,2000006]),(5,[0,3,5,2000006]),(6,[0,3,5,33,34,2000006]),(7,[0,3,5,33,34,35,2000006]),(8,[0,3,5,6,33,34,2000006]),(9,[0,3,5,6,33,34,37,38,2000006]),(10,[0,3,5,6,33,34,37,38,39,2000006]),(11,[0,3,5,6,7,33,34,37,38,2000006]),(12,[0,3,5,6,33,34,37,38,2000006]),(13,[0,3,5,6,33,34,37,38,2000006]),(14,[0,3,5,33,34,2000006]),(15,[0,5,2000006]),(16,[]),(17,[4])]),(147,[(0,[0]),(1,[0,3,4,1000007]),(2,[0,3,4,5,1000007]),(3,[0,3,4,5,6,1000007]),(4,[0,3,4,5,6,7,1000007]),(5,[0,3,4,5,6,7,17,18,1000007]),(6,[0,3,4,5,6,7,17,18,19,1000007]),(7,[0,3,4,5,6,7,8,17,18,1000007]),(8,[0,3,4,5,6,7,8,17,18,24,1000007]),(9,[0,3,4,5,6,7,8,17,18,1000007]),(10,[0,3,4,5,6,7,17,18,1000007]),(11,[0,3,4,5,6,7,17,18,35,1000007]),(12,[0,3,4,5,6,7,17,18,1000007]),(13,[0,3,4,5,6,7,9,17,18,1000007]),(14,[0,3,4,5,6,7,9,17,18,45,46,47,1000007]),(15,[0,3,4,5,6,7,9,17,18,45,46,47,48,1000007]),(16,[0,3,4,5,6,7,9,11,17,18,45,46,47,1000007]),(17,[0,3,4,5,6,7,9,11,17,18,45,46,47,1000007]),(18,[0,3,4,5,6,7,9,17,18,45,46,47,1000007]),(19,[0,3,4,5,6,7,9,17,18,45,46,47,1000007]),(20,[0,3,4,5,6,7,17,18,1000007]),(21,[2])]),(173,[(0,[0,1,2,8,3000010]),(1,[0,2,3000010]),(2,[3000010]),(9999,[3000010])])]
def aqI:List (Nat×List (Nat×List Nat)):=UR [(3,[0,0,0,0,0,0,0,0,0,0,0,0,0,0,0,0,0,0,0,0,0,0,0,0,0,0,0,0,0,0,0,0,0,0,0,0,0,0,0,0,0,0,672,0,0,0,0,0,0,0,0,0,0,0,0,0,0,0,0,0,0,0,0,0,0,0,0,43008,0,0,0,0,3541774862152233953280,0,0,0,0,0,0,0,0,0,0,0,0,0,0,0,0,0,0,0,3541774862152233953280]),
 (4,[]),
 (5,[0,0,0,0,0,1]),
 (6,[0,0,0,0,0,0,0,0,0,0,0,0,0,0,387]),
 (7,[0,0,0,0,0,0,0,0,0,0,0,0,0,0,86,0,0,0,0,0,0,82]),
 (8,[0,0,0,0,0,0,0,0,0,0,0,0,0,0,0,0,86,0,0,0,0,0,0,82,0,0,0,0,0,0,0,0,3221225810]),
 (9,[0,0,0,0,0,0,0,0,0,0,0,0,0,0,0,0,0,16]),
 (10,[]),
 (11,[0,0,0,0,0,0,0,0,0,71,0,0,0,0,0,71,0,0,0,0,0,0,71]),
 (12,[]),
 (13,[0,0,0,0,0,0,0,0,0,0,0,0,0,0,3]),
 (14,[0,0,0,0,0,0,0,0,6]),
 (15,[0,0,0,0,0,0,0,0,0,0,0,0,0,0,0,0,3,0,0,0,786435,0,0,0,0,0,0,0,0,0,0,0,0,0,786435]),
 (16,[0,0,0,0,0,0,0,0,0,0,0,0,0,0,0,0,0,0,0,0,0,0,0,0,0,0,0,0,14,0,0,0,3221225486]),
 (17,[0,0,0,0,0,0,0,6]),
 (18,[0,0,0,0,0,0,0,0,0,0,0,0,0,0,0,0,0,0,0,6,0,0,0,6,0,0,0,0,0,0,130,0,0,0,0,25769804418,0,0,0,0,0,0,0,0,0,0,0,0,0,0,25769804418,0,0,0,0,0,0,0,25769804418]),
 (19,[0,0,0,0,0,0,0,0,0,0,0,0,0,22,0,0,0,0,0,0,0,0,144,0,0,0,144]),
 (20,[]),
 (21,[]),
 (22,[0,0,0,0,0,0,0,0,0,0,0,0,0,0,6]),
 (23,[0,0,0,0,0,0,0,0,0,0,0,0,0,0,0,0,0,0,0,393408,0,0,0,0,0,0,0,0,235274688]),
 (24,[0,0,0,0,0,0,0,0,0,0,0,0,0,0,0,0,0,0,0,0,0,0,0,0,0,0,0,963,0,0,0,0,0,0,0,0,0,0,0,0,0,0,0,0,0,0,0,1475,0,0,0,0,7619,0,0,0,0,0,0,0,0,11715]),
 (25,[0,0,0,0,0,0,0,0,0,0,0,0,0,0,0,0,0,0,0,0,0,0,0,0,0,29360243,0,0,0,0,0,0,0,0,0,0,0,0,29362035,0,0,0,0,0,0,0,0,0,0,29368179,0,0,0,7881299377266547,0,0,0,0,0,7881299377266547]),
 (26,[0,0,0,0,0,0,0,0,0,0,0,0,0,0,0,0,0,0,0,0,0,0,0,0,963,0,0,0,0,0,0,0,0,0,0,0,0,4035]),
 (27,[0,0,0,0,0,0,3,0,0,0,0,1]),
 (28,[0,0,0,0,0,0,0,0,0,0,0,0,0,0,0,2,0,0,0,0,10,0,0,0,0,0,0,0,0,0,0,0,0,0,0,0,10,0,0,0,0,1924145348618,0,0,0,0,0,0,1924145348650,0,0,0,3942573819297802,0,0,0,0,0,0,0,0,3942573819297802]),
 (29,[0,0,0,0,0,0,0,0,0,0,0,0,0,0,0,0,0,0,0,0,0,0,0,0,0,0,0,0,0,0,0,1879048438,0,0,0,0,0,0,0,1879048694,0,0,0,0,0,0,0,0,0,0,985164297537014,0,0,0,0,0,0,0,0,0,0,0,0,0,0,0,0,0,0,0,0,0,0,0,0,0,0,0,0,0,0,0,0,0,0,0,0,0,0,0,1083197534374707740536791108,0,0,0,0,0,0,0,1083197534374707740536791108]),
 (30,[]),
 (32,[0,0,0,0,0,0,0,114]),
 (33,[0,0,0,0,0,0,0,0,0,0,0,0,0,0,0,0,0,0,0,0,0,0,0,0,0,0,2062,0,0,0,0,0,0,2062,0,0,0,0,0,0,0,0,3848290707468,0,0,0,0,0,3848290756620,0,0,0,0,0,0,0,0,0,0,0,0,0,0,0,0,0,3848290707468,0,0,0,0,3848290707468]),
 (34,[0,0,0,0,0,0,0,0,0,0,6,0,0,6,0,0,0,0]),
 (35,[]),
 (36,[0,0,0,0,0,6]),
 (37,[]),
 (38,[0,0,0,0,0,0,0,0,0,0,0,0,0,0,0,0,0,0,196617,0,0,0,0,0,0,0,0,0,0,0,0,0,0,0,0,0,0,0,196665,0,0,0,0,0,0,0,0,0,0,0,0,196761,0,0,0,0,0,0,196665]),
 (39,[0,0,0,0,0,0,0,0,0,0,0,0,0,0,0,0,0,0,0,0,0,0,0,0,14680076]),
 (40,[]),
 (41,[]),
 (42,[]),
 (43,[0,0,0,0,0,0,0,0,0,0,28,0,0,0,0,0,0,28,0,0,0,0,0,0,0,0,67109404,0,0,0,0,0,0,28]),
 (44,[]),
 (45,[0,0,0,0,0,0,0,0,0,0,0,0,99,0,0,0,0,0,0,0,0,0,0,0,0,0,227]),
 (46,[0,0,0,0,0,0,0,0,0,0,0,0,0,6,0,0,0,0,0,0,0,0,0,0,0,0,0,0,0,0,0,0,0,6442451124,0,0,0,0,0,0,0,0,3848290697364]),
 (47,[0,0,0,0,0,0,0,0,0,0,0,0,0,0,0,0,0,0,2,0,0,0,0,0,0,0,0,117440538,0,0,0,0,0,0,0,0,117440538,0,0,0,0,0,0,0,0,0,0,0,0,492581209244058,0,0,0,0,0,0,0,0,0,0,0,2018105214271228826,0,0,0,0,0,0,0,0,0,0,0,0,0,0,0,0,0,0,492581209260954,0,0,0,0,0,0,0,0,0,0,0,0,0,386]),
 (49,[0,0,0,0,0,0,0,0,0,0,0,0,0,0,0,0,0,0,0,0,0,0,0,0,0,0,0,37,0,0,0,0,0,0,165,0,0,0,0,0,0,0,0,0,0,0,0,0,0,0,0,0,0,0,0,933,0,0,0,0,0,0,0,0,0,0,0,0,0,0,0,0,0,0,0,0,0,0,0,0,0,0,0,0,0,0,0,0,0,541598767187353870268367269,0,0,0,0,0,0,0,0,0,0,0,0,0,0,0,0,0,0,0,0,0,0,0,0,0,0,0,0,0,541598767187353870268372389,0,0,0,0,0,0,0,0,0,0,0,0,0,0,0,0,0,0,0,0,0,0,0,0,0,0,0,0,0,0,0,0,0,0,0,0,0,0,0,0,0,0,0,0,0,40922045845265281709703175316055924550366111211940,0,0,0,0,0,0,0,0,0,0,0,0,335274321610258453047598115364446189841149549088924068]),
 (50,[]),
 (51,[0,0,0,0,0,0,0,0,0,0,0,0,0,0,0,0,0,0,0,0,0,0,0,0,12582924,0,0,0,0,0,0,0,0,12582924]),
 (52,[0,0,0,0,0,0,0,0,0,0,0,0,0,0,6,0,0,0,0,0,0,0,0,0,134,0,0,0,0,469762434,0,0,0,0,0,0,0,0,0,0,469762434]),
 (53,[0,0,0,0,0,0,0,0,0,0,0,0,0,0,0,0,0,0,0,0,0,0,0,0,2056,0,0,0,0,0,0,2056,0,2056,0,0,0,0,0,0,0,0,0,0,0,0,0]),
 (54,[]),
 (55,[0,0,0,0,0,0,0,0,0,6,0,0,0,0,0,0,0,0,0,0,0,0,0,0,0,0,0,6,0,0,1610612742,0,0,0,0,0,0,137975824390,0,0,0,0,0,0,6,35184372088838,0,0,0,0,0,6,0,0,0,0,63050394783186946,0,0,0,0,0,63050394783186946]),
 (56,[]),
 (57,[0,0,0,0,0,0,0,0,0,6,0,0,0,0,0,0,0,0,0,0,0,0,0,7340046]),
 (58,[]),
 (59,[0,0,0,0,0,0,2]),
 (60,[0,0,0,0,0,0,0,194,0,0,0,0,0,0,0,32834,0,0,0,0,0,0,3670016,0,0,0,0,3670016,0,0]),
 (61,[0,0,0,0,0,0,0,0,0,0,0,0,0,0,0,0,0,0,0,0,0,0,0,7340172]),
 (62,[0,0,0,0,0,0,0,0,0,0,0,0,0,0,0,0,0,0,0,0,0,0,0,0,0,0,0,0,920,0,0,0,0,0,0,0,0,0,0,0,0,0,0,0,0,0,0,0,7432]),
 (63,[0,0,0,0,0,0,0,0,0,0,0,0,0,0,0,0,0,0,0,0,0,0,0,7340188]),
 (64,[]),
 (65,[0,0,0,0,0,0,0,0,0,450,0,0,0,0,498]),
 (66,[0,0,0,0,0,0,0,0,0,0,0,0,0,0,0,0,0,0,0,0,0]),
 (67,[0,0,0,0,0,0,0,0,0,0,0,0,0,0,0,0,0,0,0,0,0,0,0,0,0,14605,0,0,0,0,0,0,0,0,0,0,0,0,206158493965,0,0,0,0,0,0,0,0,0,0,0,0,0,63757]),
 (68,[]),
 (69,[]),
 (70,[0,0,0,0,0,0,0,0,0,0,0,0,0,0,0,0,80,0,0,0,0,80,0,0,0,80]),
 (72,[]),
 (73,[]),
 (74,[0,0,0,0,0,0,0,0,0,0,0,0,0,5,0,0,0,0,0,0,0,0,0,0,0,0,101,0,0,0,0,0,0,0,0,0,0,0,0,0,0,0,324,0,0,0,0,0,0,0,0,0,516]),
 (75,[0,0,0,0,0,0,0,0,0,2,0,0,0,0,0,0,0,0,0,0,0,0,0,0,0,0,10,0,0,0,0,1879048202,0,0,0,0,0,0,0,0,0,0,1879048202,0,0,0,0,0,0,0,0,0,0,0,0,0,0,0,0,0,0,0,0,0,0,0,0,0,0,0,0,0,0,0]),
 (76,[0,0,0,0,0,0,0,0,0,0,0,0,0,0,35,0,0,0,0,35,0,0,35,0,0,0,0,0,0,0,0,0,0,0,547]),
 (77,[]),
 (78,[0,0,0,0,0,0,0,0,0,0,0,0,0,0,147,0,0,0,0,0,0,0,0,7340179,0,0,0,0,0,0,0,0,0,0,0,0,0,0,0,0,0,0,0,0,0,0,0,0,0,0,0,0,0,0,0,0,0,0,0,0,0,147,0,0,0,147]),
 (79,[0,0,0,0,0,0,0,0,0,0,0,0,0,0,0,0,0,0,229385]),
 (80,[0,0,0,0,0,0,0,0,0,0,0,0,0,0,0,0,14,0,0,0,0,0,0,0,0,0,58720262,0,0,0,0,0,0,0,58720262]),
 (81,[0,0,0,0,0,0,0,19,0,0,0,19,0,0,0,19,0,0,0,0,0,19,0,0,0,0,0,16,0,0,0,0,0,0,0,0,0,48,0,0,0,0,0,0,0,16,0,48,0,0,0,0,0,0,0,0,0,48]),
 (82,[0,0,0,0,0,0,0,6]),
 (83,[0,0,0,0,0,0,0,0,0,0,0,0,0,48,0,0,0,0,48,0,0,0,0,0,56,0,0,0,0,0,0,2147487804,0,0,0,0,0,0,48,0,0,0,0,0,0,0,0,0,0,0,0,0,0,0,0,0,0,48]),
 (84,[0,0,0,0,0,0,0,0,0,0,0,0,0,0,0,0,0,0,0,0,0,0,0,0,0,0,0,0,0,0,0,0,0,0,0,0,0,0,0,0,0,0,0,0,0,0,0,0,0]),
 (85,[]),
 (86,[]),
 (87,[]),
 (88,[0,0,0,0,0,0,0,0,0,0,0,0,67]),
 (89,[]),
 (90,[]),
 (91,[0,0,0,0,0,0,0,0,0,0,0,0,0]),
 (92,[]),
 (93,[0,0,0,0,0,0,0,0]),
 (94,[0,0,0,0,0,0,0,0,0,0,0,0,3087,0,0,0,3087]),
 (95,[0,0,0,0,0,0,0,0,0,0,0,0,0,111]),
 (96,[0,0,0,0,1]),
 (97,[0,0,0,0,0,0,0,0,0,0,0,0,0,0,0,0,0,32,0,0,0,0,3]),
 (98,[0,0,0,0,0,0,0,0,0,0,0,0,0,0,0,0,0,0,0,0,0,0,3,0,0,0,0,0,0,0,0,0,0,0,0,0,0,0,0,0,0,0,3848290697282,0,0,0,0,0,0,0,0,0,0,0,0,0,0,3848290697538,0,0,0,0,0,0,0,0,0,0,0,0,0,0,576,0,0,0,0,0,0,0,0,0,0,0,0,0,0,0,270799383593676935134184000,0,0,0,0,0,0,0,0,0,0,0,0,0,0,0,0,0,270799383593676935134192192]),
 (99,[]),
 (100,[0,0,0,0,0,0,0,0,0,0,0,0,0,0,0,0,0,0,0,0,0,0,0,0,0,0,0,0,0,0,939524121,0,0,0,0,0,0,0,0,0,0,0,0,0,0,0,0,0,0,0,0,0,0,0,0,0,0,0,0,0,0,0,0,0,0,0,939524409,0,0,0,0,0,0,0,0,0,0,0,939524409,0,0,0,0,0,0,0,0,0,0,0,0,0,0,0,0,0,0,939524409]),
 (101,[0,0,0,0,0,0,0,0,0,387,0,0,0,0,0,0,387]),
 (102,[0,0,0,0,0,0,0,0,0,0,0,0,0,0,0,0,21,0,0,0,0,0,0,0,0,53,0,0,0,0,0,0,0,20]),
 (103,[0,0,0,0,0,0,0,0,1]),
 (104,[0,0,0,0,0,0,0,0,2]),
 (105,[0,0,0,0,0,0,0,0,0,0,0,0,0,0,0,0,0,0,0,0,0,0,0,0,10,0,0,0,0,0,0,0,0,0,0,0,0,0,0,0,0,0,0,0,0,0,0,0,0,0,0,10,0,0,0,0,63050394783186954,0,0,0,0,0,0,0,0,0,0,0,63050394783186954]),
 (106,[0,0,0,0,0,0,0,0,0,0,0,0,0,0,0,0,0,0,0,0,0,0,3670030,0,0,0,0,0,0,0,0,0,0,0,0,0,0,120262754366]),
 (107,[0,0,0,0,0,0,0,0,0,0,3,0,0,0,12291,0,0,0,0,0,0,0,0,0,12291]),
 (108,[0,0,0,0,0,0,0,0,0,0,3,0,0,0,12291,0,0,0,0,0,0,0,0,0,12291]),
 (109,[0,0,0,0,0,0,0,0,0,0,3,0,0,0,12291,0,0,0,0,0,0,0,0,0,12291]),
 (110,[0,0,0,0,0,0,0,1,0,0,0,0,0,0]),
 (111,[0,0,0,0,0,0,0,0,0,0,0,0,0,0,0,0,0,0,229411,0,0,0,0,0,0,0,0,0,0,0,0,0,0,0,0,0,0,0,0,0,0,0,229539,0,0,0,0,0,0,0,985162418487331,0,0,0,0,0,64035557201674787,0,0,0,0,0,0,0,0,0,0,0,0,64035557201674787]),
 (112,[0,0,0,0,0,2]),
 (113,[0,0,0,0,0,0,0,0,0,456]),
 (114,[0,0,0,0,0,0,0,0,2,0,0,0,2,0,0,0,0,0,0,0,0,0,3670026,0,0,0,0,0,0,0,0,3670026,0,0,0,0,0,0,0,8]),
 (115,[0,0,0,0,0,0,0,0,0,0,0,0,0,0,0,0,0,0,0,0,0,0,0,0,0,0,0,0,0,0,0,0,0,0,0,25769805187,0,0,0,0,987842481539,0,0,0,0,0,0,0,0,0,0,0,0,0,0,0,0,0,0,0,0,0,987842481539]),
 (116,[0,0,0,0,0,0,0,0,0,0,0,0,0,0,0,0,0,0,0,0,0,1835137,0,0,0,0,0,119275649,0,0,0,0,0,0,0,0,0,0,0,0,0,0,0,119277697,0,0,0,0,0,0,844425049413761]),
 (117,[]),
 (118,[]),
 (119,[0,0,0,0,0,0,0,0,0,0,0,0,0,0,14725,0,0,0,0,14725,0,0,0,0,0,0,0,0,0,14725,0,0,0,0,0,0,0,0,0,0,14725,0,0,0,0,0,0,0,0,0,0,0,0,0,0,0,0,0,0,0,0,0,14725]),
 (120,[0,0,0,0,0,0,0,0,0,0,0,9,0,0,0,0,0,0,0,0,0,0,0,0,0,0,0,0,0,0,0,0,0,0,0,0,0,0,9]),
 (121,[0,0,0,0,0,5]),
 (122,[0,0,0,0,0,5]),
 (123,[0,0,0,0,0,5]),
 (124,[]),
 (125,[0,0,0,0,0,0,0,0,0,0,0,0,0,0,0,0,0,0,0,0,0,0,0,0,14680316,0,0,0,0,0,0,0,0,0,0,0,0,0,0,0,0,0,14680316,0,0,0,0,0,0,0,0,0,0,0,0,0,0,2064,0,0,0,0,2064,0,0,0,0,0,0,0,2064]),
 (126,[0,0,0,0,0,0,0,0,0,0,0,0,0,0,0,0,0,0,0,0,0,0,0,7340276,0,0,0,0,7340916,0,0,0,0,0,0,0,0,0,0,0,0,0,0,0,0,0,0,0,0,0,0,0,0,0,0,0,0,126100789566376144,0,0,0,0,0,126100789566388432]),
 (127,[]),
 (128,[0,0,0,0,0,0,0,0,0,0,0,0,0,7181,0,0,0,0,7693,0,0,0,0,0,0,0,7693]),
 (129,[0,0,0,0,0,0,0,0,0,387,0,0,0,0,0,0,387]),
 (130,[]),
 (131,[0,0,0,0,0,0,0,0,0,0,0,0,1,0,0,0,57345,0,0,0,0,0,0,0,0,0,57345]),
 (132,[]),
 (133,[0,0,0,0,0,0,0,0,0,0,1,0,0,0,0,0,49160]),
 (134,[0,0,0,0,0,0,0,0,0,0,0,0,3592]),
 (135,[0,0,0,0,0,0,0,0,0,0,0,0,0,0,0,0,0,0,0,0,0,0,3,0,0,0,0,0,0,469762082]),
 (136,[0,0,0,0,0,0,0,0,7]),
 (137,[]),
 (138,[0,0,0,1]),
 (139,[]),
 (140,[0,0,0,0,0,0,0,0,0,0,0,0,1]),
 (141,[0,0,0,0,0,0,0,0,0,0,0,0,0,0,21,0,0,0,0,21,0,0,0,0,0,0,0,0,85]),
 (142,[0,0,0,0,0,0]),
 (143,[0,0,0,0,0,0,0,0,0,0,898,0,0,0,0,0,0,0,0,898]),
 (145,[0,0,0,0,0,0,0,0,0,1,0,0,1,0,0,0,57345,0,0,0,0,0,0,57361,0,0,0,117497857,0,0,0,0,0,0,0,0,0,117497857]),
 (146,[0,0,0,0,0,0,0,0,0,0,0,0,0,0,0,0,0,0,0,458785,0,0,0,0,0,458913,0,0,0,0,0,0,3758555297,0,0,0,0,0,0,0,0,0,0,0,0,0,0,0,246294363178657,0,0,0,0,0,0,0,0,0,0,0,246294363178657]),
 (148,[]),
 (149,[0,0,0,0,0,0,0,0,0,387,0,0,0,0,0,0,387]),
 (150,[0,0,0,0,0,0,0,0,0,0,0,1544]),
 (151,[0,0,0,0,0,0,0,0,195,0,0,0,0,0,0,0,0,0,0,0,0,0,0,0,0,0,0,0,0,195]),
 (152,[0,0,0,0,0,0,0,0,0,0,0,0,0,0,0,0,57356]),
 (154,[0,0,0,0,0,0,0,0,0]),
 (155,[0,0,0,0,0,0,0,0,0,456]),
 (156,[0,0,0,0,0,0,0,0,0,0,0,0,0,0,0,0,0,0,0,135,0,0,0,0,0,0,0,0,0,263,0,0,0,0,0,0,0,0,0,0,0,0,0,0,0,897,0,0,0,0,0,0,0,0,0,0,54043195528446211]),
 (157,[0,0,0,0,0,0,0,0,0,387,0,0,0,0,0,0,387]),
 (158,[]),
 (159,[0,0,0,0,0,0,0,0,0,0,0,0,35,0,0,0,0,0,0,99,0,0,0,0,0,0,0,0,0,99]),
 (160,[0,0,0,0,0,0,0,0,0,0,0,1825,0,0,0,0,0,1825]),
 (161,[0,0,0,0,0,0,0,0,0,67,0,0,67]),
 (162,[]),
 (163,[]),
 (164,[]),
 (165,[0,0,0,0,0,0,24]),
 (167,[]),
 (168,[0,0,0,0,0,0,0,0,0,0,0,0,0]),
 (169,[]),
 (170,[0,0,0,0,0,0,0,0,0,0,0,21,0,0,0,0,0,0,0,0,0,20,0,0,20]),
 (171,[0,0,0,0,0,0,1,0,0,0,0,0,0,0,1,0,1,0,0,0,0,0,0,0,0,0,0,0,0,0,0,0,0,0,0,1]),
 (172,[0,0,0,0,0,0,0,0,0,0,0,0,0,0,6,0,0,0,0,0,0,1835042,0,0,0,0,0,0,0,0,0,0,0,1835042]),
 (174,[0,0,0,0,0,0,0,0]),
 (175,[]),
 (176,[0,0,0,0,0,0,0,0,0,12,0,0,0,0,0,0,0,0,0,12]),
 (177,[0,0,0,0,0,0,0,0,0,0,3,0,0,0,0,35,0,0,0,0,0,0,0,0,0,0,0,0,35,0,0,0,0,0,0,227,0,0,0,0,0,0,0,0,0,0,0,0,0,227]),
 (178,[]),
 (180,[]),
 (181,[0,0,0,0,0,0,0,0,0,0,0,0,0,0,0,0,0,0,0,0,0,0,0,0,0,0,0,0,0,0,0,0,0,0,0,0,0,0,0,0,0,0,0,0]),
 (182,[0,0,0,0,0,0,0,0,0,0,0,0,0,0,0,0,0,0,0,0,0,0,0,0,0,7199,0,0,0,0,0,0,7199,0,0,0,0,0,0,7199,0,0,0,0,0,0,0,0,0,0,0,0,0,0,0,0,31775,0,0,0,0,0,0,0,0,0,0,0,0,0,0,0,0,0,0,15391,0,0,0,0,15391,0,0,0,0,0,0,0,0,0,0,0,0,0,0,0,0,12319,0,0,0,0,0,0,0,0,0,0,0,0,0,0,0,0,0,0,0,0,0,0,0,0,0,0,0,3103]),
 (183,[]),
 (184,[0,0,0,0,0,0,0,0,0,0,0,67,0,3,0,0,3,0,0,0]),
 (185,[0,0,0,0,0,0,0,0,0,0,0,0,0,0,14343,0,0,0,0,0,0,14727,0,0,0,0,0,0,0,0,0,14343,0,0,0,0,0,0,0]),
 (187,[0,0,0,0,0,0,0,0,0,0,0,0,0,0,271,0,0,0,0,0,0,0,0,0,0,0,0,0,0,0,0,0,0,0,783]),
 (188,[0,0,0,0,0,0,0,0,0,0,0,0,0,0,0,0,0,0,0,0,0,3849,0,0,0,0,0,0,0,0,0,0,0,4873]),
 (189,[0,0,0,0,0,0,0,0,0,0,0,0,0,0,0,0,0,0,0,0,0,0,0,0,0,0,0,0,0,0,0,0,0,0,0,3843,0,0,0,0,0,0,0,0,0,7939]),
 (190,[0,0,0,0,0,0,0,0,0,0,0,0,0,0,0,0,0,0,0,0,0,0,0,0,0,0,0,0,0,0,0,0,0,0,10240,0,30729,0,0,0,0,0,0,0,0,0,0,0,0,0,0,0,0,0,0,0,0,768,0,0,768]),
 (191,[0,0,0,0,0,0,0,0,0,0,0,0,0,0,0,769]),
 (192,[0,0,0,0,0,0,0,0,0,0,0,0,0,0,0,0,1551,0,0,0,0,0,0,0,0,0,0,0,0,0,0,0,0,0,0,0,1551,0,0,0,0,1551,0,0,0,1551,0,0,0,0,0,0,0,0,0,0,0,0,0,0,0,0,0,0,0,1551,0,0,0,3599,0,0,0,0,0,0,0,0,0,0,0,0,0,0,3599,0,0,0,0,0,0,0,0,0,0,0,0,0,0,0,0,0,0,0,1551,0,0,0,0,5647,0,0,0,0,0,0,0,0,0,0,0,0,0,0,5647]),
 (193,[0,0,0,0,0,0,0,0,0,0,0,0,0,0,0,0,0,0,0,0,0,0,0,0,0,0,0,0,0,0,0,0,0,0,0,0,0,0,0,0,0,0,0,0,0,0,0,6163,0,0,0,0,0,0,0,0,0,0,0,0,0,0,0,0,0,6163,0,0,0,0,6163]),
 (194,[0,0,0,0,0,0,0,0,0,0,0,0,0,0,0,0,0,0,0,0,0,0,0,0,0,0,0,0,0,0,0,0,0,0,0,0,0,0,0,0,0,0,0,0,0,0,0,12307,0,0,0,0,0,0,0,0,0,0,0,0,0,0,0,0,0,0,12307,0,0,0,0,12307,0,0,0,0,0,0,0,0,0,0,0,0,0,0,0,0,0,0,0,0,0,0,0,0,0,0,0,0,0,0,0,0,0,0,0,0,0,0,0,0,0,0,0,0,0,0,0,0,12307,0,0,0,0,0,0,0,0,0,0,0,0,0,0,0,0,0,0,12307,0,0,0,0,12307]),
 (196,[0,0,0,0,5,0,0,0,5,0,0,0,0,0,5]),
 (197,[]),
 (198,[0,0,0,0,0,0,0,0,0,0,0,0,0,0,0,0,0,0,3101,0,0,0,0,0,0,0,0,0,0,0,0,0,0,0,0,0,0,0,0,0,3101,0,0,0,0,0,0,0,0,0,0,0,0,0,0,0,0,0,3101]),
 (199,[]),
 (200,[]),
 (201,[]),
 (202,[]),
 (203,[0,0,0,0,0,0,0,0,0,0,0,0,0,0,0,0,0,0,0,0,0,0,6])]++[(31,[(13,[1,2]),(20,[2,5,2000011]),(29,[2,7,8])]),(48,[(17,[0,3,5,2000006]),(22,[0,3,5,2000006]),(35,[0,3,5,33,34,2000006]),(39,[0,3,5,6,33,34,37,38,2000006])]),(147,[(19,[0,3,4,5,6,7,17,18,1000007]),(24,[0,3,4,5,6,7,8,17,18,1000007]),(35,[0,3,4,5,6,7,17,18,1000007]),(48,[0,3,4,5,6,7,9,17,18,45,46,47,1000007])]),(173,[(8,[3000010])])]
def aqJ:List (Nat×List (Nat×List Nat)):=UR [(3,[0,3541774862152233953280]),
 (4,[]),
 (5,[]),
 (6,[128,387]),
 (7,[]),
 (8,[336,3221225810]),
 (9,[]),
 (10,[]),
 (11,[71]),
 (12,[]),
 (13,[]),
 (14,[]),
 (15,[0,786435]),
 (16,[2,3221225486]),
 (17,[]),
 (18,[512,25769804418,25769804418]),
 (19,[144,144]),
 (20,[]),
 (21,[]),
 (22,[]),
 (23,[192,393408,393408,235274688]),
 (24,[451,963,192,1475,3523,7619,1475,11715]),
 (25,[48,29360243,29360755,29362035,29366131,29368179,29368179,7881299377266547]),
 (26,[192,963,1987,4035]),
 (27,[]),
 (28,[0,1924145348618,1924145348618,3942573819297802]),
 (29,[228,1879048438,1879049718,985164297537014,40964,1083197534374707740536791108]),
 (30,[]),
 (31,[]),
 (32,[2,114]),
 (33,[8192,3848290707468,3848290707468]),
 (34,[]),
 (35,[]),
 (36,[]),
 (37,[]),
 (38,[9,196617]),
 (39,[12,14680076]),
 (40,[]),
 (41,[]),
 (42,[]),
 (43,[28]),
 (44,[]),
 (45,[32,99,99,227]),
 (46,[180,6442451124,148,3848290697364]),
 (47,[26,117440538,4,26,402,492581209244058,492581209246618,2018105214271228826]),
 (49,[421,933,421,541598767187353870268367269,541598767187353870268367269,541598767187353870268372389,8452,40922045845265281709703175316055924550366111211940,40922045845265281709703175316055924550366111211940,335274321610258453047598115364446189841149549088924068]),
 (50,[]),
 (51,[12,12582924]),
 (52,[256,469762434]),
 (53,[0]),
 (54,[]),
 (55,[6,0,63050394783186946]),
 (56,[]),
 (57,[14,7340046]),
 (58,[]),
 (59,[]),
 (60,[0,0,3670016]),
 (61,[128,7340172]),
 (62,[408,920,2048,7432]),
 (63,[128,7340188]),
 (64,[]),
 (65,[0,450,450,498]),
 (66,[0]),
 (67,[6400,14605,63757,206158493965]),
 (68,[]),
 (69,[]),
 (70,[80,80]),
 (72,[]),
 (73,[]),
 (74,[]),
 (75,[10,1879048202]),
 (76,[]),
 (77,[]),
 (78,[16,147,147,7340179]),
 (79,[8,229385]),
 (80,[0,58720262]),
 (81,[19,16,48]),
 (82,[]),
 (83,[48]),
 (84,[0]),
 (85,[]),
 (86,[]),
 (87,[]),
 (88,[0,67]),
 (89,[]),
 (90,[]),
 (91,[]),
 (92,[]),
 (93,[]),
 (94,[0,3087]),
 (95,[47,111]),
 (96,[]),
 (97,[]),
 (98,[66,3848290697282,64,270799383593676935134184000]),
 (99,[]),
 (100,[17,939524121,939524409]),
 (101,[0,387]),
 (102,[20,21]),
 (103,[]),
 (104,[]),
 (105,[10,63050394783186954]),
 (106,[12,3670030,3670030,120262754366]),
 (107,[0,12291]),
 (108,[0,12291]),
 (109,[0,12291]),
 (110,[]),
 (111,[35,229411,0,985162418487331,985162418487331,64035557201674787]),
 (112,[]),
 (113,[8,456]),
 (114,[2,10,3670026]),
 (115,[1024,25769805187,25769805187,987842481539]),
 (116,[128,1835137,1835137,119275649,119281793,844425049413761]),
 (117,[]),
 (118,[]),
 (119,[128,14725,14725]),
 (120,[0,9]),
 (121,[]),
 (122,[]),
 (123,[]),
 (124,[]),
 (125,[248,14680316,2064]),
 (126,[240,7340276,2256,126100789566376144]),
 (127,[]),
 (128,[0,7181]),
 (129,[0,387]),
 (130,[]),
 (131,[0,57345]),
 (132,[]),
 (133,[8,49160]),
 (134,[8,3592]),
 (135,[32,469762082]),
 (136,[]),
 (137,[]),
 (138,[0,1]),
 (139,[]),
 (140,[]),
 (141,[20,21]),
 (142,[]),
 (143,[0,898]),
 (145,[0,57345,57345,117497857]),
 (146,[0,458785,458785,3758555297,3758555297,246294363178657]),
 (148,[]),
 (149,[0,387]),
 (150,[8,1544]),
 (151,[0,195]),
 (152,[0,57356]),
 (154,[]),
 (155,[8,456]),
 (156,[135,135,256,897,256,54043195528446211]),
 (157,[0,387]),
 (158,[]),
 (159,[33,99]),
 (160,[32,1825]),
 (161,[67]),
 (162,[]),
 (163,[]),
 (164,[]),
 (165,[]),
 (167,[]),
 (168,[0]),
 (169,[]),
 (170,[20]),
 (171,[]),
 (172,[32,1835042]),
 (173,[]),
 (174,[]),
 (175,[]),
 (176,[]),
 (177,[1,35,33,227]),
 (178,[]),
 (180,[]),
 (181,[0]),
 (182,[0,3103]),
 (183,[]),
 (184,[]),
 (185,[3,14343]),
 (187,[0,271,271,783]),
 (188,[1801,3849,0,4873]),
 (189,[0,3843]),
 (190,[768]),
 (191,[0,769]),
 (192,[0,1551,1551,1551,1551,3599,1551,5647]),
 (193,[2048,6163,6163,6163,6163,6163]),
 (194,[12307,12307,12307,12307,8195,12307,12307,12307,12307,12307]),
 (196,[]),
 (197,[]),
 (198,[0,1053]),
 (199,[]),
 (200,[]),
 (201,[]),
 (202,[]),
 (203,[])]++[(48,[(0,[0,3,5,2000006]),(1,[0,3,5,33,34,2000006]),(2,[0,3,5,33,34,2000006]),(3,[0,3,5,6,33,34,37,38,2000006])]),(147,[(0,[3]),(1,[0,3,4,5,6,7,17,18,1000007]),(2,[0,3,4,5,6,7,17,18,1000007]),(3,[0,3,4,5,6,7,17,18,1000007]),(4,[0,3,4,5,6,7,17,18,1000007]),(5,[0,3,4,5,6,7,9,17,18,45,46,47,1000007])])]
def aqK:List (Nat×List (Nat×List Nat)):=[(24,[(1,[5000022])]),
 (25,[(1,[5000020])]),
 (26,[(1,[5000022])]),
 (48,[(3,[2000006])]),
 (116,[(1,[104000319,105000322,106000325,107000328,108000331,109000334,110000337,111000340,112000343,113000346,114000349])]),
 (141,[(1,[4]),(2,[4]),(4,[4]),(5,[4]),(6,[4]),(7,[4]),(8,[4]),(10,[4])]),
 (147,[(2,[4]),(14,[45,1000048])])]
def aqL:List (Nat×List Nat):=[(9,[0]),
 (31,[0]),
 (36,[0]),
 (49,[0,1]),
 (57,[0]),
 (74,[0]),
 (81,[0]),
 (82,[0]),
 (83,[0]),
 (102,[0]),
 (115,[0]),
 (121,[0]),
 (122,[0]),
 (123,[0]),
 (141,[0]),
 (170,[0])]
def aqM:List (Nat×List (Nat×List (Nat×Nat))):=[(3,[(1,[(1,4)]),(2,[(1,5),(4,6)]),(3,[(2,7)]),(4,[(2,8)]),(7,[(1,9)]),(8,[(1,9)]),(9,[(1,9)]),(11,[(0,10)]),(18,[(0,10)])]),
 (4,[(1,[(1,5)]),(2,[(2,12),(4,11)])]),
 (6,[(2,[(3,13)]),(5,[(3,13)])]),
 (7,[(1,[(1,14)]),(4,[(3,15)]),(6,[(4,16)]),(7,[(1,17)])]),
 (8,[(1,[(1,14)]),(4,[(3,15)]),(10,[(7,16)]),(13,[(1,17)])]),
 (9,[(1,[(1,18)])]),
 (10,[(1,[(0,21),(1,21),(3,20),(5,20),(6,19)]),(2,[(4,17),(10,21),(11,22)])]),
 (11,[(1,[(1,13)]),(3,[(3,23)]),(5,[(4,24)]),(7,[(2,25)]),(8,[(3,26)])]),
 (12,[(1,[(1,13)])]),
 (13,[(4,[(12,27)])]),
 (14,[(1,[(1,28)]),(4,[(1,17)])]),
 (16,[(1,[(1,28),(18,15)])]),
 (17,[(1,[(1,28)]),(3,[(1,29)])]),
 (18,[(1,[(1,28)]),(4,[(1,30)]),(6,[(1,31)]),(10,[(0,32)]),(13,[(3,33)])]),
 (19,[(1,[(2,34)]),(4,[(1,36),(3,35)]),(5,[(1,37)]),(6,[(1,38)]),(9,[(1,39)])]),
 (22,[(1,[(1,40),(5,15)]),(4,[(1,41)]),(5,[(1,42)]),(6,[(3,43),(8,44)])]),
 (23,[(1,[(3,26)])]),
 (24,[(2,[(2,13)]),(3,[(2,13)]),(7,[(3,13)]),(19,[(3,13)])]),
 (25,[(2,[(2,13),(4,45)]),(6,[(3,13)])]),
 (26,[(2,[(2,13)]),(3,[(2,13)]),(7,[(3,13)]),(12,[(3,13)])]),
 (29,[(1,[(1,46)]),(2,[(1,47)]),(17,[(1,46)])]),
 (31,[(1,[(1,28)]),(5,[(1,17),(2,48)]),(8,[(0,49)])]),
 (32,[(2,[(0,50)]),(5,[(2,51)])]),
 (33,[(1,[(2,52)]),(7,[(0,50),(4,51)]),(12,[(7,53)])]),
 (34,[(3,[(1,54)]),(5,[(2,55)])]),
 (35,[(3,[(2,56)])]),
 (36,[(1,[(1,40)]),(3,[(1,57)])]),
 (38,[(5,[(13,58)]),(8,[(5,59)]),(12,[(2,56)])]),
 (39,[(5,[(3,60)])]),
 (40,[(1,[(1,34)])]),
 (43,[(3,[(4,61)]),(5,[(6,62)]),(8,[(3,63)]),(10,[(6,64)]),(12,[(2,65)])]),
 (46,[(1,[(1,28)]),(3,[(6,67)])]),
 (47,[(1,[(1,28)])]),
 (49,[(1,[(4,70)]),(16,[(8,72)]),(32,[(7,73)])]),
 (51,[(5,[(1,74)])]),
 (52,[(1,[(1,75)]),(4,[(0,50)])]),
 (53,[(1,[(3,76)]),(6,[(1,77)]),(8,[(2,78)]),(10,[(1,79)])]),
 (54,[(2,[(1,80)])]),
 (55,[(22,[(2,55)])]),
 (56,[(2,[(5,59)])]),
 (57,[(7,[(3,57)]),(9,[(3,81)])]),
 (58,[(1,[(3,83),(4,82)])]),
 (59,[(1,[(1,40)]),(4,[(1,84)]),(5,[(0,85)])]),
 (60,[(6,[(2,239)]),(12,[(1,60)]),(17,[(9,60)])]),
 (61,[(1,[(5,43)]),(5,[(1,41)]),(6,[(2,235)]),(7,[(3,43)]),(8,[(5,89)]),(9,[(2,237)])]),
 (62,[(1,[(1,41)]),(2,[(2,228)]),(6,[(2,42)]),(7,[(3,43)]),(12,[(1,41)]),(13,[(2,42)]),(14,[(5,234)])]),
 (63,[(1,[(6,43)]),(5,[(3,43)]),(6,[(2,233)])]),
 (64,[(1,[(3,43)]),(3,[(2,236)])]),
 (65,[(5,[(4,96),(6,66)])]),
 (66,[(0,[(3,41)]),(2,[(5,229)]),(4,[(6,229)])]),
 (67,[(2,[(1,97)]),(12,[(5,68),(6,225)]),(17,[(4,69)])]),
 (70,[(1,[(2,98)]),(4,[(1,99)]),(5,[(1,100)])]),
 (72,[(1,[(2,101)])]),
 (74,[(4,[(0,102)]),(5,[(3,103)]),(7,[(0,102)]),(11,[(1,104)])]),
 (75,[(1,[(1,105)]),(3,[(1,106),(2,31)]),(9,[(6,107)]),(12,[(4,108),(11,107),(19,109),(27,109)])]),
 (76,[(1,[(1,110)]),(4,[(2,111)]),(6,[(1,104)]),(8,[(1,112)]),(9,[(8,113)]),(11,[(2,114),(5,114),(9,115)]),(12,[(12,116)])]),
 (77,[(1,[(4,117)])]),
 (78,[(1,[(1,79)]),(9,[(9,119),(19,119)]),(11,[(1,120)])]),
 (80,[(7,[(4,80)])]),
 (81,[(3,[(1,121)]),(5,[(1,122)]),(7,[(1,123)]),(18,[(0,124)]),(19,[(5,89)])]),
 (82,[(1,[(2,34)])]),
 (83,[(12,[(2,125)]),(14,[(5,83)]),(15,[(3,81)]),(16,[(4,81)]),(18,[(2,126)])]),
 (84,[(3,[(1,127)]),(5,[(1,127)]),(7,[(5,127)]),(9,[(3,128)]),(11,[(3,128)]),(13,[(3,128)]),(15,[(1,127)]),(16,[(3,128)]),(18,[(3,128)]),(19,[(1,127)])]),
 (86,[(1,[(2,129)])]),
 (87,[(0,[(6,88)])]),
 (89,[(1,[(14,130)])]),
 (90,[(0,[(1,41)]),(1,[(5,238)])]),
 (91,[(0,[(5,44)]),(1,[(6,88)])]),
 (93,[(0,[(2,44)]),(1,[(6,88)])]),
 (95,[(0,[(1,41)])]),
 (98,[(8,[(10,131)]),(14,[(6,133),(7,132)]),(19,[(5,134)]),(22,[(7,132)])]),
 (100,[(6,[(9,135)]),(7,[(5,134)]),(12,[(14,136),(15,132)]),(13,[(18,137)])]),
 (102,[(2,[(1,138)]),(3,[(5,140),(6,139)]),(4,[(1,138)]),(5,[(1,141)])]),
 (103,[(1,[(1,140)])]),
 (104,[(1,[(2,142)]),(4,[(2,142)])]),
 (105,[(9,[(7,143)]),(12,[(3,143)])]),
 (110,[(1,[(1,145)]),(4,[(2,147),(3,146)])]),
 (112,[(1,[(1,148)]),(3,[(1,150),(3,149)])]),
 (113,[(5,[(3,152)])]),
 (114,[(10,[(2,114)])]),
 (115,[(3,[(4,241)]),(4,[(4,241)]),(5,[(5,155)])]),
 (116,[(13,[(6,156)])]),
 (117,[(1,[(2,157)])]),
 (121,[(1,[(1,226)]),(2,[(0,158)]),(3,[(1,160),(2,232)]),(4,[(1,162),(2,163),(3,161)])]),
 (122,[(1,[(1,86)]),(2,[(0,163)]),(3,[(1,160),(2,230)]),(4,[(1,124),(2,161)])]),
 (123,[(1,[(1,86)]),(2,[(0,163)]),(3,[(1,160),(2,159)]),(4,[(1,162),(2,158),(3,161)])]),
 (125,[(6,[(2,83)]),(11,[(3,81),(7,81)])]),
 (126,[(8,[(4,165)]),(9,[(2,83)]),(19,[(3,81)]),(21,[(1,81),(3,81)])]),
 (128,[(4,[(2,167)]),(5,[(2,168)]),(6,[(2,84)]),(7,[(1,127)]),(8,[(2,84)]),(9,[(1,127)])]),
 (129,[(4,[(5,130)])]),
 (132,[(2,[(5,134)])]),
 (135,[(1,[(7,131),(12,131)])]),
 (137,[(1,[(3,136)])]),
 (138,[(0,[(1,103)])]),
 (139,[(1,[(11,169)])]),
 (141,[(1,[(1,170)]),(4,[(1,138)]),(5,[(1,103)]),(6,[(1,138)]),(7,[(1,171)])]),
 (142,[(1,[(1,172)])]),
 (147,[(10,[(2,173)]),(17,[(8,173)]),(18,[(8,173)])]),
 (148,[(1,[(1,110)])]),
 (149,[(4,[(5,151)])]),
 (155,[(5,[(3,242)])]),
 (157,[(4,[(5,118)])]),
 (158,[(1,[(0,163)])]),
 (159,[(1,[(2,227)]),(8,[(2,89)])]),
 (162,[(1,[(1,175)]),(2,[(1,177)])]),
 (165,[(3,[(1,57)])]),
 (169,[(1,[(2,180)])]),
 (170,[(1,[(1,140)]),(2,[(1,139)]),(9,[(1,102)]),(10,[(4,103)]),(11,[(1,169)])]),
 (171,[(1,[(1,103)]),(3,[(1,103),(5,103)]),(5,[(1,103)]),(6,[(1,103),(4,103)]),(7,[(1,103),(5,140),(10,140)]),(9,[(1,140)]),(11,[(2,103)])]),
 (172,[(1,[(4,181)]),(7,[(5,172)])]),
 (175,[(1,[(4,183),(6,182)])]),
 (176,[(2,[(4,184)]),(4,[(4,184)]),(5,[(4,185)])]),
 (177,[(6,[(10,178)]),(11,[(10,178)])]),
 (178,[(1,[(2,176)])]),
 (182,[(4,[(4,187)]),(6,[(4,188)]),(8,[(4,189)]),(10,[(4,190)]),(12,[(4,191)]),(16,[(4,192)]),(17,[(13,176)]),(18,[(5,193)]),(20,[(5,194)]),(26,[(5,182)]),(29,[(6,182)])]),
 (183,[(2,[(1,196)])]),
 (184,[(1,[(1,197)]),(2,[(1,197)])]),
 (185,[(7,[(3,176)])]),
 (187,[(4,[(14,176)])]),
 (188,[(6,[(5,198)]),(11,[(5,198)])]),
 (189,[(3,[(1,199)]),(7,[(0,200)])]),
 (190,[(8,[(3,201)]),(9,[(3,201)]),(10,[(3,201)]),(11,[(5,202)])]),
 (192,[(5,[(14,176)]),(16,[(10,176)]),(22,[(10,176)])]),
 (193,[(3,[(13,176)]),(5,[(13,176)])]),
 (194,[(3,[(13,176)]),(5,[(13,176)]),(13,[(13,176)]),(15,[(13,176)])]),
 (198,[(3,[(19,176)]),(5,[(13,176)])]),
 (199,[(1,[(2,183)])]),
 (201,[(1,[(8,202)])]),
 (202,[(1,[(5,203)]),(2,[(5,203)]),(3,[(5,203)])]),
 (203,[(1,[(9,176)])]),
 (226,[(1,[(2,227)])]),
 (227,[(4,[(5,89)])]),
 (228,[(5,[(4,96),(6,92)])]),
 (230,[(1,[(2,231)]),(8,[(2,164)])]),
 (231,[(4,[(5,164)])]),
 (232,[(1,[(2,129)]),(8,[(2,130)])]),
 (233,[(5,[(4,96),(6,94)])]),
 (234,[(5,[(4,96),(6,93)])]),
 (235,[(5,[(4,96),(6,87)])]),
 (236,[(5,[(4,96),(6,95)])]),
 (237,[(5,[(4,96),(6,90)])]),
 (238,[(5,[(4,96),(6,91)])]),
 (239,[(1,[(2,240)])]),
 (240,[(4,[(5,60)])]),
 (241,[(1,[(3,154)]),(5,[(3,241)])]),
 (242,[(1,[(3,174)]),(5,[(3,242)])])]
def aqN:List (Nat×List (Nat×(Shape×List (Out×Shape)))):=[(3,[(209,QM)]),
 (6,[(49,QK)]),
 (8,[(129,Qn)]),
 (15,[(65,Tx)]),
 (16,[(65,Tz)]),
 (18,[(177,PQ)]),
 (19,[(81,TA)]),
 (23,[(97,Qv),(49,Qw)]),
 (24,[(81,Qz),(209,QA),(273,QB),(145,QC)]),
 (25,[(241,QF),(209,QG),(145,QH),(65,QI)]),
 (26,[(161,Qt),(81,Qu)]),
 (28,[(225,TB),(145,TC)]),
 (29,[(161,TD),(81,TE),(321,TF)]),
 (32,[(49,PO)]),
 (33,[(129,TG)]),
 (38,[(49,TH)]),
 (39,[(49,ao4)]),
 (45,[(97,ao5),(49,ao6)]),
 (46,[(97,TI),(177,TJ)]),
 (47,[(81,TK),(273,TL),(209,TM),(161,TN)]),
 (48,[(161,TO),(113,TP)]),
 (49,[(145,TQ),(321,TR),(225,TS),(481,TT),(417,TU)]),
 (51,[(49,TV)]),
 (52,[(145,TW)]),
 (55,[(321,ao7)]),
 (57,[(81,ao8)]),
 (60,[(161,ao9)]),
 (61,[(49,apa)]),
 (62,[(65,apb),(161,apc)]),
 (63,[(49,apd)]),
 (65,[(49,ape),(17,apf)]),
 (66,[(175,apg)]),
 (67,[(161,TX),(81,TY)]),
 (70,[(65,TZ)]),
 (75,[(113,T4)]),
 (78,[(81,T6),(33,T7)]),
 (79,[(49,T8)]),
 (80,[(81,aph)]),
 (83,[(399,api)]),
 (84,[(463,apj),(367,apk),(239,apl),(175,apm),(111,apn)]),
 (88,[(17,apo)]),
 (94,[(17,apq)]),
 (95,[(33,apr)]),
 (98,[(97,T9),(1167,Ua),(1711,Ub),(257,Uc)]),
 (100,[(1263,Ud),(65,Ue)]),
 (101,[(33,Uf)]),
 (102,[(49,aps)]),
 (105,[(113,Ug)]),
 (106,[(113,Uh),(49,Ui)]),
 (107,[(65,Uj)]),
 (108,[(65,Uk)]),
 (109,[(65,Ul)]),
 (111,[(49,Um),(209,Un),(161,Uo)]),
 (113,[(49,apt)]),
 (114,[(129,apu)]),
 (115,[(161,Up),(113,Uq)]),
 (116,[(177,Ur),(97,Us),(49,Ut)]),
 (119,[(319,Uu),(65,Uv)]),
 (120,[(33,Uw)]),
 (125,[(65,apv)]),
 (126,[(81,apw),(225,apx)]),
 (128,[(303,apy),(17,apz)]),
 (129,[(33,apA)]),
 (131,[(65,Ux)]),
 (133,[(81,Uy)]),
 (134,[(49,Uz)]),
 (135,[(81,UA)]),
 (138,[(1,apB)]),
 (141,[(81,apC)]),
 (143,[(33,UB)]),
 (145,[(177,UC),(97,UD)]),
 (146,[(193,UE),(129,UF),(49,UG)]),
 (147,[(241,UH),(177,UI),(97,UJ)]),
 (149,[(33,UK)]),
 (150,[(49,UL)]),
 (151,[(33,UM)]),
 (154,[(143,apD)]),
 (155,[(49,apE)]),
 (156,[(33,UN),(113,UO),(177,UP)]),
 (157,[(33,UQ)]),
 (159,[(81,apF)]),
 (160,[(49,apG)]),
 (172,[(81,apH)]),
 (177,[(145,apI),(65,apJ)]),
 (182,[(639,apK),(911,apL),(1215,apM),(33,apO)]),
 (185,[(33,apP)]),
 (187,[(65,apQ),(17,apR)]),
 (188,[(65,apS),(129,apU)]),
 (189,[(735,apV),(81,apW)]),
 (190,[(591,apX),(559,apY)]),
 (191,[(33,apZ)]),
 (192,[(81,ap0),(225,ap1),(1055,ap2),(321,ap3),(49,ap4)]),
 (193,[(49,ap5),(81,ap6),(50,ap7)]),
 (194,[(49,ap8),(81,ap9),(209,aqa),(241,aqb),(210,aqc)]),
 (196,[(79,aqd),(143,aqe)]),
 (198,[(655,aqf),(17,aqg)]),
 (227,[(33,aqh)]),
 (228,[(49,aqi),(17,aqj)]),
 (230,[(81,aqk)]),
 (231,[(33,aql)]),
 (232,[(81,aqm)]),
 (233,[(49,aqn),(17,aqo)]),
 (234,[(49,aqp),(17,aqq)]),
 (235,[(49,aqr),(17,aqs)]),
 (236,[(49,aqt),(17,aqu)]),
 (237,[(49,aqv),(17,aqw)]),
 (238,[(49,aqx),(17,aqy)]),
 (240,[(33,aqz)]),
 (241,[(49,aqA)]),
 (242,[(49,aqB)])]
def aqO:List (Nat×List (Nat×List Nat)):=[(24,[(7,[41,42])]),
 (25,[(22,[71,72])]),
 (26,[(13,[49,50])]),
 (43,[(11,[46])]),
 (48,[(5,[26])]),
 (49,[(7,[42]),(24,[158])]),
 (62,[(8,[42])]),
 (106,[(1,[16])]),
 (115,[(5,[31])]),
 (119,[(1,[7])]),
 (159,[(12,[41])]),
 (177,[(15,[64])]),
 (230,[(12,[41])]),
 (232,[(12,[41])])]
def Nt (k:Nat):FuncId:=(fM aqC k).getD 0
def lY:dw where
 jT:=Nt
 sin:=fun k=>(fM aqD k).getD ⟨[],[]⟩
 iY:=fun k=>(fM aqE k).getD ⟨[],[]⟩
 live:=fun k r=>(fM ((fM aqH (Nt k)).getD []) r).getD []
 join:=fun k r=>(fM ((fM aqI (Nt k)).getD []) r).getD []
 blk:=fun k r=>(fM ((fM aqJ (Nt k)).getD []) r).getD []
 pur:=fun k r=>(fM ((fM aqK k).getD []) r).getD []
 yi:=fun k=>(fM aqL k).getD []
 alt:=fun k=>fM aqF k
 WO:=fun k r=>(fM ((fM aqO k).getD []) r).getD []
 ck:=fun k r i=>(fM ((fM ((fM aqM k).getD []) r).getD []) i).getD 0
 ki:=fun k x=>fM ((fM aqN k).getD []) x
 sb:=[]
 Jw:=fun _=>0
 ext:=fun f=>bif Nat.beq f 166 then some 162 else bif Nat.beq f 186 then some 999999 else none
 sc:=fun f=>bif Nat.beq f 71 then some 3 else bif Nat.beq f 144 then some 4 else none
 idle:=fun f=>false
 mv:=fun k=>(fM ([(37,[1,2]),(38,[1,2]),(39,[1,2]),(49,[2]),(56,[1,2]),(77,[2]),(78,[2]),(79,[2]),(84,[1]),(85,[1]),(87,[2]),(91,[3]),(93,[2]),(97,[1]),(99,[1,2,3,4,5,6,8,9,10]),(100,[1,2,3,4,5,6,8,9,10]),(120,[2]),(127,[1]),(128,[1]),(132,[2,3,4,5,6,8,9,10]),(136,[2,3,4,5,6,8,9,10]),(137,[2,3,4,5,6,8,9,10]),(167,[1]),(173,[2,3]),(225,[1]),(234,[2]),(235,[2]),(238,[3])]:List (Nat×List Nat)) k).getD []
 aE:=fun g=>bif Nat.beq g 0 then .pref [5,5,5,5,5,5,5,5,5,5,5,5,5,5,5,5,5,5,5,5,5,5,5,5,5,5,5,5,5,5,5,5,5,5,5,5,5,5,5,5,5,5,5,5,5,5,5,5,5,5,5,5,5,5,5,5,5,5,5,5,5,5,5,5] MY else .undef
noncomputable abbrev PG:Program:=Tryz.prog
noncomputable abbrev CC:af:=Call Tryz.prog lY
noncomputable abbrev Lp (p:List Nat) (k:Nat):pQ:= .loop (vR p (tz PG (lY.jT k)))
noncomputable abbrev Cd (t:Nat) (p q:List Nat) (k:Nat):pQ:= .cond t (vR p (tz PG (lY.jT k))) (vR q (tz PG (lY.jT k)))
abbrev bD (C:af) (L:cN) (k:Nat) (b:pQ):Prop:=uj PG lY C L k (Ez PG (lY.jT k)) (lY.sin k).c7.length b
end Go.AM
set_option maxRecDepth 100000
namespace Go.AM
open Go.IntKind (wrap)
open Go.Proofs Go.RowKit
set_option maxHeartbeats 1000000 in
theorem aqP (hP:zp Tryz.prog):L4 Tryz.prog 71 3:=by
 refine ⟨fun args w=>MuLone.run_callFunc_enter Tryz.func71 (hP _ _ Tryz.func71) (by kernel_rfl:Tryz.f71.body=some (tz Tryz.prog 71)) _ _,22,by kernel_rfl,?_⟩;intro s w Q h1 h2 h3;have hu:Tryz.prog.underlying 22=some (.slice 3):=by kernel_rfl
 go_enter Tryz.func71,Tryz.ntmps71
 rcases h3 with rfl|⟨a,n,c,rfl⟩
 ·go_wp2
  rw[run_eql_slice_nil w 22 3 none 0 0 hu];simp only[Result.andThen];rw[Oper.upon_value]
  go_wp2
  exact trivial
 ·go_wp2
  rw[run_eql_slice_nil w 22 3 (some a) n c hu];simp only[Result.andThen];rw[Oper.upon_value]
  iterate 17 go_step
  obtain ⟨v,w',hv,hQ⟩:=h2 _ _ _ rfl;unfold Oper.wp;simp[execOp,resolve,invoke,Act.eval,hv,builtin];rw[Oper.upon_value]
  go_wp2
  exact hQ
set_option maxHeartbeats 1000000 in
theorem aqQ (hP:zp Tryz.prog):L4 Tryz.prog 144 4:=by
 refine ⟨fun args w=>MuLone.run_callFunc_enter Tryz.func144 (hP _ _ Tryz.func144) (by kernel_rfl:Tryz.f144.body=some (tz Tryz.prog 144)) _ _,23,by kernel_rfl,?_⟩;intro s w Q h1 h2 h3;have hu:Tryz.prog.underlying 23=some (.slice 4):=by kernel_rfl
 go_enter Tryz.func144,Tryz.ntmps144
 rcases h3 with rfl|⟨a,n,c,rfl⟩
 ·go_wp2
  rw[run_eql_slice_nil w 23 4 none 0 0 hu];simp only[Result.andThen];rw[Oper.upon_value]
  go_wp2
  exact trivial
 ·go_wp2
  rw[run_eql_slice_nil w 23 4 (some a) n c hu];simp only[Result.andThen];rw[Oper.upon_value]
  iterate 17 go_step
  obtain ⟨v,w',hv,hQ⟩:=h2 _ _ _ rfl;unfold Oper.wp;simp[execOp,resolve,invoke,Act.eval,hv,builtin];rw[Oper.upon_value]
  go_wp2
  exact hQ
theorem aqR (hP:zp PG) (f:FuncId) (e:TypeId) (h:lY.sc f=some e):L4 PG f e:=by
 have h1:lY.sc f=bif Nat.beq f 71 then some 3 else bif Nat.beq f 144 then some 4 else none:=by kernel_rfl
 rw[h1] at h;cases Nu:Nat.beq f 71 with
 | true=>
  rw[Nu] at h;rw[aM] at Nu;cases h;subst Nu;exact aqP hP
 | false=>
 rw[Nu] at h;simp only[cond_false] at h;cases Nv:Nat.beq f 144 with
 | true=>
  rw[Nv] at h;rw[aM] at Nv;cases h;subst Nv;exact aqQ hP
 | false=>
 rw[Nv] at h;simp only[cond_false] at h;cases h
theorem aqS {w:World} {b:Nat} {C:Array Value} {T:TypeId} (h:w.heap[b]? =some (.cells C T (0,0))):w.shape? b=some (T,C.size)∧w.frozen? ⟨b,0,none⟩=false∧w.cell? ⟨b,0,none⟩=C[0]? :=by
 refine ⟨by simp[World.shape?,h],by simp[World.frozen?,h],cell?_cells h⟩
set_option maxHeartbeats 1000000 in
theorem aqT (b:Nat) (w:World) (h0:w.cell? ⟨b,0,none⟩=some (.pointer (some ⟨b,0,none⟩))):
  Calls Tryz.prog 166 #[.pointer (some ⟨b,0,none⟩)] w fun e w'=>e= .returned (.tuple #[])∧w'=w:=by
 obtain ⟨j,hj⟩:=A6.1 (show (Tryz.prog.info? 162).isSome=true by kernel_rfl);have hu:Tryz.prog.underlying 160=some (.pointer 162):=by kernel_rfl
 go_enter Tryz.func166,Tryz.ntmps166
 go_wp2
 rw[Lib.run_neq_ptr_same w _ hu hj]
 go_wp2
 go_end0
 exact ⟨rfl,rfl⟩
set_option maxHeartbeats 1000000 in
theorem aqU (b n:Nat) (w:World) (hn:0<n) (h0:w.cell? ⟨b,0,none⟩=some (.pointer none)) (LO:w.shape? b=some (162,n)) (CF:w.frozen? ⟨b,0,none⟩=false) (hl:liesAt Tryz.prog Tryz.prog.depth 162 (n/Tryz.prog.cellsOf 162) 0 162 1=true):
  Calls Tryz.prog 166 #[.pointer (some ⟨b,0,none⟩)] w fun e w'=>e= .returned (.tuple #[])∧w'=w.setCell ⟨b,0,none⟩ (.pointer (some ⟨b,0,none⟩)):=by
 obtain ⟨j,hj⟩:=A6.1 (show (Tryz.prog.info? 162).isSome=true by kernel_rfl);have hjs:j.size≠0:=by
  have h2:(Tryz.prog.info? 162).map (·.size)=some 2:=by kernel_rfl
  rw[hj] at h2;simp at h2;omega
 have hu:Tryz.prog.underlying 160=some (.pointer 162):=by kernel_rfl
 have qB:Tryz.prog.underlying 251=some .unsafePointer:=by kernel_rfl
 go_enter Tryz.func166,Tryz.ntmps166
 go_wp2
 rw[Lib.run_to_unsafe w ⟨b,0,none⟩ hu qB hj hjs LO hn];simp only[Result.andThen];rw[Oper.upon_value]
 go_wp2
 rw[run_callFunc_extern Tryz.func179 (by kernel_rfl) (by kernel_rfl) (by kernel_rfl) (e:=Extern.AbiNoEscape.same) (by kernel_rfl)];rw[Lib.run_noEscape];simp only[Result.andThen];rw[Oper.upon_value]
 go_wp2
 rw[Lib.run_from_unsafe w ⟨b,0,none⟩ qB hu hj LO hl];simp only[Result.andThen];rw[Oper.upon_value]
 go_wp2
 go_end0
 exact ⟨rfl,rfl⟩
theorem aqV (hP:zp Tryz.prog):lf Tryz.prog lY where
 count:=hP
 sc:=aqR hP
 ext:=by
  intro f T h b C w hh hs hc;have hf:f=166∧T=162:=by
   have h1:lY.ext f=bif Nat.beq f 166 then some 162 else bif Nat.beq f 186 then some 999999 else none:=by kernel_rfl
   rw[h1] at h;cases hb:Nat.beq f 166 with
   | true=>rw[hb] at h;rw[aM] at hb;exact ⟨hb,(dU h).symm⟩
   | false=>
    rw[hb] at h;simp only[cond_false] at h;cases eA:Nat.beq f 186 with
    | true=>
     rw[eA] at h;obtain rfl:999999=T:=dU h;have h0:C.size=0:=hs.trans (by kernel_rfl)
     have h2:C[0]? =none:=Array.getElem?_eq_none (by omega);rw[h2] at hc;simp at hc
    | false=>rw[eA] at h;cases h
  obtain ⟨rfl,rfl⟩:=hf;obtain ⟨h1,h2,h3⟩:=aqS hh;refine ⟨MuLone.run_callFunc_enter Tryz.func166 (hP _ _ Tryz.func166) (by kernel_rfl:Tryz.f166.body=some (tz Tryz.prog 166)) _ _,?_⟩;have gg:Tryz.prog.cellsOf 162=2:=by kernel_rfl
  rcases hc with hc|hc
  ·refine (aqU b C.size w (by omega) (h3.trans hc) h1 h2 (by rw[hs,gg];kernel_rfl)).mono ?_;rintro e w' ⟨rfl,rfl⟩;exact ⟨rfl,.inr rfl⟩
  ·refine (aqT b w (h3.trans hc)).mono ?_;rintro e w' ⟨rfl,rfl⟩;exact ⟨rfl,.inl rfl⟩
 RQ:=by
  intro f T h h0 s c w;have h1:lY.ext f=bif Nat.beq f 166 then some 162 else bif Nat.beq f 186 then some 999999 else none:=by kernel_rfl
  rw[h1] at h;have gg:Tryz.prog.cellsOf 162=2:=by kernel_rfl
  cases hb:Nat.beq f 166 with
  | true=>
   rw[hb] at h;obtain rfl:162=T:=dU h;omega
  | false=>
   rw[hb] at h;simp only[cond_false] at h;cases eA:Nat.beq f 186 with
   | true=>
    rw[aM] at eA;subst eA;rw[run_callFunc_extern Tryz.func186 (by kernel_rfl) (by kernel_rfl) (by kernel_rfl) (e:=Extern.BytealgIndexByte.indexByte) (by kernel_rfl)];simp[Lib.run_indexByteString]
   | false=>rw[eA] at h;cases h
 idle:=by
  intro f h;have h1:lY.idle f=false:=by kernel_rfl
  rw[h1] at h;cases h
end Go.AM
set_option maxRecDepth 100000
namespace Go.AM
open Go.IntKind (wrap)
open Go.Proofs Go.Proofs.YtkbdjbcjpcodcaaGreatDoor Go.Lib Go.MakeChecks
def v7:List Int:=[0,1,56,2,57,49,28,3,61,58,42,50,38,29,17,4,62,47,59,36,45,43,51,22,53,39,33,30,24,18,12,5,63,55,48,27,60,41,37,16,46,35,44,21,52,32,23,11,54,26,40,15,34,20,31,10,25,14,19,9,13,8,7,6]
theorem aqW:MY=v7.map fun z=> .int .u8 z:=by kernel_rfl
theorem aqX:Rows.laid_math_bits_deBruijn64tab (H:=Unit)=tabData .u8 v7:=by kernel_rfl
def Hy : List (String×DataW Unit) := [("math/bits.deBruijn64tab", Rows.laid_math_bits_deBruijn64tab)]
theorem ag0 {W:World} (h:laidMetH Tryz.prog Hy W):jW Tryz.prog lY.aE W (pP W):=by
 have h1 : laidMetH Tryz.prog [("math/bits.deBruijn64tab", tabData .u8 v7)] W := by
  have : Hy = [("math/bits.deBruijn64tab", tabData .u8 v7)] := by unfold Hy; rw [aqX]
  rwa [this] at h
 rw[laidMetH_plain _ _ _ (by kernel_rfl)] at h1;have hn : Tryz.prog.globalNamed "math/bits.deBruijn64tab" = some 0 := by kernel_rfl
 have ht:=tabIs_of_head (g:=0) (t:=209) (e:=5) (n:=64) hn (by kernel_rfl) (by kernel_rfl) (by kernel_rfl) (by kernel_rfl) (by kernel_rfl) h1;have hlen:v7.length=64:=by kernel_rfl
 have hc: ∀i,i<64→W.cell? ⟨0,i,none⟩=some (.int .u8 (v7.getD i 0)):=fun i hi=>ht.cell hn i (by rw[hlen];exact hi);intro g;have hg:lY.aE g=bif Nat.beq g 0 then .pref (List.replicate 64 5) MY else .undef:=by kernel_rfl
 rw[hg];cases hb:Nat.beq g 0 with
 | false=>exact .inl rfl
 | true=>
  rw[aM] at hb;subst hb;refine .inr ⟨List.replicate 64 5,MY,rfl,by kernel_rfl,fun _ _=> ?_,fun j t x hj hx=> ?_⟩
  ·have h0:=hc 0 (by omega);unfold pP;unfold World.cell? at h0;by_cases hz:0<W.heap.size
   ·exact hz
   ·have:W.heap[0]? =none:=Array.getElem?_eq_none (by omega);simp[this] at h0
  ·have Nw:j<64:=by
    have:=(cC.1 hj).1;simpa using this
   rw[List.getElem?_replicate,aA Nw] at hj;cases hj;rw[aqW,kf] at hx;have kZ:v7[j]? =some (v7.getD j 0):=by
    rw[b7 (by rw[hlen];exact Nw)];simp[List.getD,b7 (show j<v7.length by rw[hlen];exact Nw)]
   rw[kZ] at hx;cases hx;exact ⟨_,by simpa using hc j Nw,.int (by kernel_rfl)⟩
theorem own:ownKnob Tryz.prog.godebug=none:=by kernel_rfl
theorem aqY:zp Tryz.prog:=amY (by kernel_rfl)
theorem mixed:Tryz.prog.follows .mixedOrders=true:=by kernel_rfl
theorem agZ:lf Tryz.prog lY:=aqV aqY
noncomputable def WK (os:Os):World:=World.laidAll Tryz.prog os Hy
theorem agX (os:Os) (args:Array Value):laidMetH Tryz.prog Hy ((WK os).forCall (fun _ _=>0) ⟨#[],args,[]⟩).memory:=by
 rw[laidMetH_plain _ _ _ (by kernel_rfl)];exact laidMet_laidAll args (by kernel_rfl) (by kernel_rfl)
end Go.AM
set_option maxRecDepth 100000
namespace Go.AM
open Go.IntKind (wrap)
open Go.Proofs
theorem aep:maxLen≤9223372036854775807:=by unfold maxLen;omega
theorem QL:ba=35184372088832:=by unfold ba;rfl
section
variable {α β:Type} {o:Option α} {a:α} {f:α→Option β} {r:Option β} {x y z:β} {b:Bool}
theorem bs (h:o=some a) (h2:f a=r):o.bind f=r:=by rw[h];exact h2
theorem bT (hb:b=true) (h:x=z):(bif b then x else y)=z:=by rw[hb];exact h
theorem bF (hb:b=false) (h:y=z):(bif b then x else y)=z:=by rw[hb];exact h
end
section
variable {X R A α:Type} {step:X→Option (X ⊕ R)}
theorem US (good:Nat→Prop) [DecidablePred good] (n:Nat) (s:Nat→X) (bad ok:R) (h: ∀i,i<n→step (s i)=some (if good i then .inl (s (i+1)) else .inr bad)) (he:step (s n)=some (.inr ok)):
  Loop step (s 0)=some (if∀i,i<n→good i then ok else bad):=by
 have go: ∀(d k:Nat),k+d=n→((∀i,k≤i→i<n→good i)→Loop step (s k)=some ok)∧((¬∀i,k≤i→i<n→good i)→Loop step (s k)=some bad):=by
  intro d
  induction d with
  | zero=>
   intro k hk;have:k=n:=by omega
   subst this;exact ⟨fun _=>kg he,fun hx=>absurd (fun i h1 h2=>by omega) hx⟩
  | succ d ih=>
   intro k hk;have h1:=h k (by omega);by_cases hg:good k
   ·rw[aA hg] at h1;rw[iM h1];obtain ⟨i1,i2⟩:=ih (k+1) (by omega);refine ⟨fun ha=>i1 fun i h1 h2=>ha i (by omega) h2,fun ha=>i2 fun hx=>ha fun i h1 h2=> ?_⟩;by_cases hi:i=k
    ·rw[hi];exact hg
    ·exact hx i (by omega) h2
   ·rw[aw hg] at h1;rw[kg h1];exact ⟨fun ha=>absurd (ha k (az _) (by omega)) hg,fun _=>rfl⟩
 obtain ⟨g1,g2⟩:=go n 0 (by omega);by_cases ha: ∀i,i<n→good i
 ·rw[aA ha];exact g1 fun i _ h=>ha i h
 ·rw[aw ha];exact g2 fun hx=>ha fun i h=>hx i (by omega) h
end
noncomputable def aqZ (C:af) (x:Int):Option LV:=
 some [V.int .i64 3,V.int .i64 x,.list cB ([]:LV)]
theorem aq0 {x:Int} {r:Option LV} (h:aqZ CC x=r):CC CT [V.int .i64 x]=r:=bO (L:=bM) av h
noncomputable def aq1 (C:af) (op:Int) (kids:LV):Option LV:=
 some [V.int .i64 op,V.int .i64 0,.list cB kids]
theorem aeq {op:Int} {kids:LV} {r:Option LV} (h:aq1 CC op kids=r):CC Mz [V.int .i64 op,.list cB kids]=r:=bO (L:=bM) av h
noncomputable def Ab (C:af) (j7 j8:Int) (aO aQ:LV) (bZ cq:Int) (aV aS aF:LV) {β:Type} (kn:(Int×Int×LV×LV×LV)→Option β) (kr:((Int×Int×Int×LV×LV) ⊕ (Bool×Int×Int×LV×LV×LV))→Option β):Option β:=
 (C SD [V.int .i64 bZ,V.int .i64 cq,.list cB aV,.list ag aS,.list cP aF]).bind fun r4=>
 bif !((V.nth r4 0).toBool) then
  (C CU [V.int .i64 ((V.nth (r4.drop 1) 0).toInt),V.int .i64 ((V.nth ((r4.drop 1).drop 1) 0).toInt),.list cB ((V.nth (((r4.drop 1).drop 2).drop 1) 0).toList),.list ag ((V.nth ((((r4.drop 1).drop 2).drop 1).drop 1) 0).toList),.list cP ((V.nth ((r4.drop 1).drop 2) 0).toList)]).bind fun r5=>
  bif (((V.nth r5 0).toInt):Int) != 0 then
  kr (.inl ((V.nth r5 0).toInt,0,0,([]:LV),([]:LV)))
  else
  kn ((V.nth (r5.drop 1) 0).toInt,(V.nth ((r5.drop 1).drop 1) 0).toInt,(V.nth (((r5.drop 1).drop 2).drop 1) 0).toList,(V.nth ((((r5.drop 1).drop 2).drop 1).drop 1) 0).toList,(V.nth ((r5.drop 1).drop 2) 0).toList)
 else
  kr (.inr (!((V.nth r4 0).toBool),(V.nth (r4.drop 1) 0).toInt,(V.nth ((r4.drop 1).drop 1) 0).toInt,(V.nth (((r4.drop 1).drop 2).drop 1) 0).toList,(V.nth ((((r4.drop 1).drop 2).drop 1).drop 1) 0).toList,(V.nth ((r4.drop 1).drop 2) 0).toList))
noncomputable def v8 (C:af) (j7 j8:Int) (aO aQ:LV):=un fun bZ=>un fun cq=>un fun aV=>un fun aS aF=>Ab C j7 j8 aO aQ bZ cq aV aS aF (fun y=>some (Sum.inl y)) (fun r=>some (Sum.inr r))
noncomputable def aq2 (C:af):cN:=bL 81 TA [EQ,EQ,H1,H1,EQ,EQ,H1,H1,H1] [[0,0,0,0,0],[0,1,2,0,0,5,6,0,0,0]] (@Ab C) bM
theorem aq3 (C:af):bD C (aq2 C) 19 (Lp [1,1,1,0,0,0] 19):=bN TA [EQ,EQ,H1,H1,EQ,EQ,H1,H1,H1] [[0,0,0,0,0],[0,1,2,0,0,5,6,0,0,0]] (@Ab C) (bA av)
noncomputable def aer (C:af) (s9 ta:Int) (tc:LV) (aT:Int):Option LV:=
 (C SA [V.int .i64 s9,V.int .i64 ta,.list cB tc,V.int .i64 aT]).bind fun r1=>
 bif (((V.nth r1 0).toInt):Int) != 0 then
  some [V.int .i64 0,V.int .i64 0,V.int .i64 ((V.nth r1 0).toInt),.list ar ([]:LV),.list ag ([]:LV)]
 else
  (C SC [V.int .i64 s9,V.int .i64 ta,.list cB tc]).bind fun r2=>
  (C SB [V.int .i64 ((V.nth r2 0).toInt),V.int .i64 ((V.nth (r2.drop 1) 0).toInt),.list cB ((V.nth ((r2.drop 1).drop 1) 0).toList),V.int .i64 aT]).bind fun r3=>
  (Loop (v8 C 0 0 ([]:LV) ([]:LV)) ((V.nth r3 0).toInt,(V.nth (r3.drop 1) 0).toInt,(V.nth (r3.drop 2) 0).toList,(V.nth ((r3.drop 2).drop 1) 0).toList,(V.nth (((r3.drop 2).drop 1).drop 1) 0).toList)).bind (fJ (un fun jY=>un fun UT=>un fun aq4=>un fun (yY:LV) (qM:LV)=>
   some [V.int .i64 UT,V.int .i64 aq4,V.int .i64 jY,.list ar yY,.list ag qM]) (un fun (yV:Bool)=>un fun UU=>un fun UW=>un fun (pH:LV)=>un fun (vm:LV) (yW:LV)=>
   (C SF [V.int .i64 UU,V.int .i64 UW,.list cB pH,.list ag vm,.list cP yW]).bind fun Nx=>
   some [V.int .i64 ((V.nth Nx 0).toInt),V.int .i64 ((V.nth (Nx.drop 1) 0).toInt),V.int .i64 0,.list ar ((V.nth (((Nx.drop 2).drop 2).drop 1) 0).toList),.list ag ((V.nth ((((Nx.drop 2).drop 2).drop 1).drop 1) 0).toList)]))
theorem aq5 {s9 ta:Int} {tc:LV} {aT:Int} {r:Option LV} (h:aer CC s9 ta tc aT=r):CC My [V.int .i64 s9,V.int .i64 ta,.list cB tc,V.int .i64 aT]=r:=bO (bE (aq3 CC) av) h
noncomputable def aq6 (C:af) (bZ cq:Int) (bp aO aQ:LV):Option LV:=
 some [.bool (cq==(bp.length:Int)),V.int .i64 bZ,V.int .i64 cq,.list cP aQ,.list cB bp,.list ag aO]
theorem Ny {bZ cq:Int} {bp aO aQ:LV} {r:Option LV} (h:aq6 CC bZ cq bp aO aQ=r):CC SD [V.int .i64 bZ,V.int .i64 cq,.list cB bp,.list ag aO,.list cP aQ]=r:=bO (L:=bM) av h
noncomputable def v9 (C:af) (t16 t17 bZ cq:Int) (aQ rows aS aF:LV) {β:Type} (kn:(Int×Int×Int×LV×LV×LV×LV)→Option β) (kr:((Int×Int×Int×LV×LV×LV) ⊕ (Int×Bool×Int×Int×LV×LV×LV×LV))→Option β):Option β:=
 bif decide (t17<t16) then
  aP aS cq fun x1=>
  (C xG [V.int .i64 ((x1.cell 0).toInt),V.int .i64 ((x1.cell 1).toInt),.list cB ((x1.cell 2).toList),V.int .i64 t17]).bind fun r2=>
  bif (((V.nth (r2.drop 3) 0).toInt):Int) != 0 then
  kr (.inl ((V.nth (r2.drop 3) 0).toInt,bZ,cq,aQ,aS,aF))
  else
  (C xH [V.int .i64 ((V.nth r2 0).toInt),V.int .i64 ((V.nth (r2.drop 1) 0).toInt),.list cB ((V.nth ((r2.drop 1).drop 1) 0).toList)]).bind fun r3=>
  bif Nat.ble (((V.nth r3 0).toStr).length) maxLen&&true then
   bif !(gQ (.str ((V.nth r3 0).toStr)) aQ) then
   bif (aS.length:Int)==512 then
    kr (.inl (3,bZ,cq,aQ,aS,aF))
   else
    (C MD [V.int .i64 ((V.nth r2 0).toInt),V.int .i64 ((V.nth (r2.drop 1) 0).toInt),.list cB ((V.nth ((r2.drop 1).drop 1) 0).toList),V.int .i64 bZ,V.int .i64 cq,.list cB aS,.list ag aF,.list cP aQ]).bind fun r4=>
    aP rows t17 fun x5=>
    kn (wrap .i64 (t17+1),(V.nth (r4.drop 1) 0).toInt,(V.nth ((r4.drop 1).drop 1) 0).toInt,(V.nth ((r4.drop 1).drop 2) 0).toList,bj rows t17 (V.int .i64 ((V.nth r4 0).toInt)),(V.nth (((r4.drop 1).drop 2).drop 1) 0).toList,(V.nth ((((r4.drop 1).drop 2).drop 1).drop 1) 0).toList)
   else
   aP rows t17 fun x6=>
   kn (wrap .i64 (t17+1),bZ,cq,aQ,bj rows t17 (V.int .i64 ((kK (.str ((V.nth r3 0).toStr)) aQ (V.int .i64 0)).toInt)),aS,aF)
  else none
 else
  kr (.inr (t17,decide (t17<t16),bZ,cq,aQ,rows,aS,aF))
noncomputable def qO (C:af) (t16:Int):=un fun t17=>un fun bZ=>un fun cq=>un fun aQ=>un fun rows=>un fun aS aF=>v9 C t16 t17 bZ cq aQ rows aS aF (fun y=>some (Sum.inl y)) (fun r=>some (Sum.inr r))
noncomputable def aq7 (C:af):cN:=bL 49 TH [EQ,H1,H1,H1,H1,H1,H1,H1] [[0,0,0,0,0,0],[1,0,0,0,0,0,0,0,0]] (@v9 C) bM
theorem aq8 (C:af):bD C (aq7 C) 38 (Lp [1,1,0,1,0,0] 38):=bN TH [EQ,H1,H1,H1,H1,H1,H1,H1] [[0,0,0,0,0,0],[1,0,0,0,0,0,0,0,0]] (@v9 C) (bA av)
noncomputable def Nz (C:af) (bZ cq:Int) (bp aO aQ:LV):Option LV:=
 bif (decide (0≤bZ))&&((decide (bZ≤bZ))&&(Nat.ble ((bZ.toNat)*8) ba)) then
  (Loop (qO C ((List.replicate (bZ.toNat) (V.int .i64 0)).length:Int)) (0,bZ,cq,aQ,List.replicate (bZ.toNat) (V.int .i64 0),bp,aO)).bind (fJ (un fun nu=>un fun B8=>un fun yY=>un fun (qM:LV)=>un fun (Ac:LV) (UX:LV)=>
   some [V.int .i64 nu,V.int .i64 B8,V.int .i64 yY,.list cP qM,.list cB Ac,.list ag UX]) (un fun B9=>un fun (vo:Bool)=>un fun Hz=>un fun HA=>un fun (td:LV)=>un fun (aes:LV)=>un fun (qv:LV) (pI:LV)=>
   bif Nat.ble ((pI.length+([.list ab aes]:LV).length)*24) ba then
   some [V.int .i64 0,V.int .i64 Hz,V.int .i64 (wrap .i64 (HA+1)),.list cP td,.list cB qv,.list ag (pI++([.list ab aes]:LV))]
   else none))
 else none
theorem UY {bZ cq:Int} {bp aO aQ:LV} {r:Option LV} (h:Nz CC bZ cq bp aO aQ=r):CC CU [V.int .i64 bZ,V.int .i64 cq,.list cB bp,.list ag aO,.list cP aQ]=r:=bO (bE (aq8 CC) av) h
noncomputable def aet (C:af):Option LV:=
 (C CT [V.int .i64 0]).bind fun r1=>
 (C CT [V.int .i64 1]).bind fun r2=>
 (C Mz [V.int .i64 5,.list cB ([.agg [V.int .i64 ((V.nth r1 0).toInt),V.int .i64 ((V.nth (r1.drop 1) 0).toInt),.list cB ((V.nth (r1.drop 2) 0).toList)],.agg [V.int .i64 ((V.nth r2 0).toInt),V.int .i64 ((V.nth (r2.drop 1) 0).toInt),.list cB ((V.nth (r2.drop 2) 0).toList)]]:LV)]).bind fun r3=>
 (C Mz [V.int .i64 7,.list cB ([.agg [V.int .i64 ((V.nth r3 0).toInt),V.int .i64 ((V.nth (r3.drop 1) 0).toInt),.list cB ((V.nth ((r3.drop 1).drop 1) 0).toList)]]:LV)]).bind fun r4=>
 (C My [V.int .i64 ((V.nth r4 0).toInt),V.int .i64 ((V.nth (r4.drop 1) 0).toInt),.list cB ((V.nth ((r4.drop 1).drop 1) 0).toList),V.int .i64 2]).bind fun r5=>
 bif (((V.nth (r5.drop 2) 0).toInt):Int)==0 then
  (C tJ [V.int .i64 ((V.nth r5 0).toInt),V.int .i64 ((V.nth (r5.drop 1) 0).toInt),.list ar ((V.nth (r5.drop 3) 0).toList),.list ag ((V.nth ((r5.drop 3).drop 1) 0).toList)]).bind fun r6=>
  bif ((((V.nth (r6.drop 2) 0).toList).length:Int):Int)==3 then
  (C CT [V.int .i64 0]).bind fun r7=>
  (C Sz [V.int .i64 ((V.nth r7 0).toInt),V.int .i64 ((V.nth (r7.drop 1) 0).toInt),.list cB ((V.nth (r7.drop 2) 0).toList),.str [97]]).bind fun r8=>
  some [.bool ((V.nth r8 0).toBool)]
  else
  some [.bool false]
 else
  some [.bool false]
theorem aq9 {r:Option LV} (h:aet CC=r):CC y9 []=r:=bO (L:=bM) av h
def kA:V:= .list cB [.agg [.int .i64 5,.int .i64 0,.list cB [.agg [.int .i64 3,.int .i64 0,.list cB []],.agg [.int .i64 3,.int .i64 1,.list cB []]]]]
def kB:V:= .list cB [.agg [.int .i64 3,.int .i64 1,.list cB []],.agg [.int .i64 7,.int .i64 0,kA]]
def kE:LV:=[.agg [.int .i64 7,.int .i64 0,kA],.agg [.int .i64 5,.int .i64 0,kB],.agg [.int .i64 1,.int .i64 0,.list cB []]]
def kM:LV:=[.bf [.str [40,97,98,41,42],.int .i64 0],.bf [.str [98,40,97,98,41,42],.int .i64 1],.bf [.str [48],.int .i64 2]]
def kF:V:= .list ar [.bool true,.bool false,.bool false]
def kN:V:= .list ag [.list ab [.int .i64 1,.int .i64 2],.list ab [.int .i64 2,.int .i64 0],.list ab [.int .i64 2,.int .i64 2]]
theorem ara:CC SA [.int .i64 7,.int .i64 0,kA,.int .i64 2]=some [.int .i64 0]:=aH (N:=60) (n:=30) (by kernel_rfl)
theorem arb:CC SC [.int .i64 7,.int .i64 0,kA]=some [.int .i64 7,.int .i64 0,kA]:=aH (N:=60) (n:=30) (by kernel_rfl)
theorem arc:CC SB [.int .i64 7,.int .i64 0,kA,.int .i64 2]=some [.int .i64 2,.int .i64 0,.list cB [.agg [.int .i64 7,.int .i64 0,kA]],.list ag [],.list cP [.bf [.str [40,97,98,41,42],.int .i64 0]]]:=aH (N:=60) (n:=30) (by kernel_rfl)
theorem ard:CC xG [.int .i64 7,.int .i64 0,kA,.int .i64 0]=some [.int .i64 5,.int .i64 0,kB,.int .i64 0]:=aH (N:=60) (n:=30) (by kernel_rfl)
theorem are:CC xH [.int .i64 5,.int .i64 0,kB]=some [.str [98,40,97,98,41,42]]:=aH (N:=60) (n:=30) (by kernel_rfl)
theorem arf:CC MD [.int .i64 5,.int .i64 0,kB,.int .i64 2,.int .i64 0,.list cB [.agg [.int .i64 7,.int .i64 0,kA]],.list ag [],.list cP [.bf [.str [40,97,98,41,42],.int .i64 0]]]=some [.int .i64 1,.int .i64 2,.int .i64 0,.list cP [.bf [.str [40,97,98,41,42],.int .i64 0],.bf [.str [98,40,97,98,41,42],.int .i64 1]],.list cB [.agg [.int .i64 7,.int .i64 0,kA],.agg [.int .i64 5,.int .i64 0,kB]],.list ag []]:=aH (N:=60) (n:=30) (by kernel_rfl)
theorem arh:CC xG [.int .i64 7,.int .i64 0,kA,.int .i64 1]=some [.int .i64 1,.int .i64 0,.list cB [],.int .i64 0]:=aH (N:=60) (n:=30) (by kernel_rfl)
theorem ari:CC xH [.int .i64 1,.int .i64 0,.list cB []]=some [.str [48]]:=aH (N:=60) (n:=30) (by kernel_rfl)
theorem arj:CC MD [.int .i64 1,.int .i64 0,.list cB [],.int .i64 2,.int .i64 0,.list cB [.agg [.int .i64 7,.int .i64 0,kA],.agg [.int .i64 5,.int .i64 0,kB]],.list ag [],.list cP [.bf [.str [40,97,98,41,42],.int .i64 0],.bf [.str [98,40,97,98,41,42],.int .i64 1]]]=some [.int .i64 2,.int .i64 2,.int .i64 0,.list cP kM,.list cB kE,.list ag []]:=aH (N:=60) (n:=30) (by kernel_rfl)
theorem ark:CC CU [.int .i64 2,.int .i64 0,.list cB [.agg [.int .i64 7,.int .i64 0,kA]],.list ag [],.list cP [.bf [.str [40,97,98,41,42],.int .i64 0]]]=some [.int .i64 0,.int .i64 2,.int .i64 1,.list cP kM,.list cB kE,.list ag [.list ab [.int .i64 1,.int .i64 2]]]:=by
 have h1:qO CC 2 (0,2,0,[.bf [.str [40,97,98,41,42],.int .i64 0]],[.int .i64 0,.int .i64 0],[.agg [.int .i64 7,.int .i64 0,kA]],[])=some (.inl (1,2,0,[.bf [.str [40,97,98,41,42],.int .i64 0],.bf [.str [98,40,97,98,41,42],.int .i64 1]],[.int .i64 1,.int .i64 0],[.agg [.int .i64 7,.int .i64 0,kA],.agg [.int .i64 5,.int .i64 0,kB]],[])):=by simp only[qO,v9,un,aP];exact bT rfl (bT rfl (bs rfl (bs ard (bF rfl (bs are (bT rfl (bT rfl (bF rfl (bs arf (bT rfl (bs rfl rfl)))))))))))
 have h2:qO CC 2 (1,2,0,[.bf [.str [40,97,98,41,42],.int .i64 0],.bf [.str [98,40,97,98,41,42],.int .i64 1]],[.int .i64 1,.int .i64 0],[.agg [.int .i64 7,.int .i64 0,kA],.agg [.int .i64 5,.int .i64 0,kB]],[])=some (.inl (2,2,0,kM,[.int .i64 1,.int .i64 2],kE,[])):=by simp only[qO,v9,un,aP];exact bT rfl (bT rfl (bs rfl (bs arh (bF rfl (bs ari (bT rfl (bT rfl (bF rfl (bs arj (bT rfl (bs rfl rfl)))))))))))
 refine UY ?_;unfold Nz;exact bT rfl (bs ((iM h1).trans ((iM h2).trans (kg rfl))) rfl)
theorem arl:CC xG [.int .i64 5,.int .i64 0,kB,.int .i64 0]=some [.int .i64 1,.int .i64 0,.list cB [],.int .i64 0]:=aH (N:=60) (n:=30) (by kernel_rfl)
theorem arn:CC xH [.int .i64 1,.int .i64 0,.list cB []]=some [.str [48]]:=aH (N:=60) (n:=30) (by kernel_rfl)
theorem aro:CC xG [.int .i64 5,.int .i64 0,kB,.int .i64 1]=some [.int .i64 7,.int .i64 0,kA,.int .i64 0]:=aH (N:=60) (n:=30) (by kernel_rfl)
theorem arp:CC xH [.int .i64 7,.int .i64 0,kA]=some [.str [40,97,98,41,42]]:=aH (N:=60) (n:=30) (by kernel_rfl)
theorem arq:CC CU [.int .i64 2,.int .i64 1,.list cB kE,.list ag [.list ab [.int .i64 1,.int .i64 2]],.list cP kM]=some [.int .i64 0,.int .i64 2,.int .i64 2,.list cP kM,.list cB kE,.list ag [.list ab [.int .i64 1,.int .i64 2],.list ab [.int .i64 2,.int .i64 0]]]:=by
 have h1:qO CC 2 (0,2,1,kM,[.int .i64 0,.int .i64 0],kE,[.list ab [.int .i64 1,.int .i64 2]])=some (.inl (1,2,1,kM,[.int .i64 2,.int .i64 0],kE,[.list ab [.int .i64 1,.int .i64 2]])):=by simp only[qO,v9,un,aP];exact bT rfl (bT rfl (bs rfl (bs arl (bF rfl (bs arn (bT rfl (bF rfl (bT rfl (bs rfl rfl)))))))))
 have h2:qO CC 2 (1,2,1,kM,[.int .i64 2,.int .i64 0],kE,[.list ab [.int .i64 1,.int .i64 2]])=some (.inl (2,2,1,kM,[.int .i64 2,.int .i64 0],kE,[.list ab [.int .i64 1,.int .i64 2]])):=by simp only[qO,v9,un,aP];exact bT rfl (bT rfl (bs rfl (bs aro (bF rfl (bs arp (bT rfl (bF rfl (bT rfl (bs rfl rfl)))))))))
 refine UY ?_;unfold Nz;exact bT rfl (bs ((iM h1).trans ((iM h2).trans (kg rfl))) rfl)
theorem ars:CC xG [.int .i64 1,.int .i64 0,.list cB [],.int .i64 0]=some [.int .i64 1,.int .i64 0,.list cB [],.int .i64 0]:=aH (N:=60) (n:=30) (by kernel_rfl)
theorem art:CC xH [.int .i64 1,.int .i64 0,.list cB []]=some [.str [48]]:=aH (N:=60) (n:=30) (by kernel_rfl)
theorem aru:CC xG [.int .i64 1,.int .i64 0,.list cB [],.int .i64 1]=some [.int .i64 1,.int .i64 0,.list cB [],.int .i64 0]:=aH (N:=60) (n:=30) (by kernel_rfl)
theorem arv:CC xH [.int .i64 1,.int .i64 0,.list cB []]=some [.str [48]]:=aH (N:=60) (n:=30) (by kernel_rfl)
theorem arw:CC CU [.int .i64 2,.int .i64 2,.list cB kE,.list ag [.list ab [.int .i64 1,.int .i64 2],.list ab [.int .i64 2,.int .i64 0]],.list cP kM]=some [.int .i64 0,.int .i64 2,.int .i64 3,.list cP kM,.list cB kE,kN]:=by
 have h1:qO CC 2 (0,2,2,kM,[.int .i64 0,.int .i64 0],kE,[.list ab [.int .i64 1,.int .i64 2],.list ab [.int .i64 2,.int .i64 0]])=some (.inl (1,2,2,kM,[.int .i64 2,.int .i64 0],kE,[.list ab [.int .i64 1,.int .i64 2],.list ab [.int .i64 2,.int .i64 0]])):=by simp only[qO,v9,un,aP];exact bT rfl (bT rfl (bs rfl (bs ars (bF rfl (bs art (bT rfl (bF rfl (bT rfl (bs rfl rfl)))))))))
 have h2:qO CC 2 (1,2,2,kM,[.int .i64 2,.int .i64 0],kE,[.list ab [.int .i64 1,.int .i64 2],.list ab [.int .i64 2,.int .i64 0]])=some (.inl (2,2,2,kM,[.int .i64 2,.int .i64 2],kE,[.list ab [.int .i64 1,.int .i64 2],.list ab [.int .i64 2,.int .i64 0]])):=by simp only[qO,v9,un,aP];exact bT rfl (bT rfl (bs rfl (bs aru (bF rfl (bs arv (bT rfl (bF rfl (bT rfl (bs rfl rfl)))))))))
 refine UY ?_;unfold Nz;exact bT rfl (bs ((iM h1).trans ((iM h2).trans (kg rfl))) rfl)
theorem arx:CC SF [.int .i64 2,.int .i64 3,.list cB kE,kN,.list cP kM]=some [.int .i64 2,.int .i64 0,.int .i64 2,.int .i64 3,.list cP kM,kF,kN,.list cB kE]:=aH (N:=60) (n:=30) (by kernel_rfl)
theorem ary:CC My [.int .i64 7,.int .i64 0,kA,.int .i64 2]=some [.int .i64 2,.int .i64 0,.int .i64 0,kF,kN]:=by
 have b1:v8 CC 0 0 [] [] (2,0,[.agg [.int .i64 7,.int .i64 0,kA]],[],[.bf [.str [40,97,98,41,42],.int .i64 0]])=some (.inl (2,1,kE,[.list ab [.int .i64 1,.int .i64 2]],kM)):=by simp only[v8,Ab,un];exact bs (Ny rfl) (bT rfl (bs ark (bF rfl rfl)))
 have b2:v8 CC 0 0 [] [] (2,1,kE,[.list ab [.int .i64 1,.int .i64 2]],kM)=some (.inl (2,2,kE,[.list ab [.int .i64 1,.int .i64 2],.list ab [.int .i64 2,.int .i64 0]],kM)):=by simp only[v8,Ab,un];exact bs (Ny rfl) (bT rfl (bs arq (bF rfl rfl)))
 have b3:v8 CC 0 0 [] [] (2,2,kE,[.list ab [.int .i64 1,.int .i64 2],.list ab [.int .i64 2,.int .i64 0]],kM)=some (.inl (2,3,kE,[.list ab [.int .i64 1,.int .i64 2],.list ab [.int .i64 2,.int .i64 0],.list ab [.int .i64 2,.int .i64 2]],kM)):=by simp only[v8,Ab,un];exact bs (Ny rfl) (bT rfl (bs arw (bF rfl rfl)))
 have b4:v8 CC 0 0 [] [] (2,3,kE,[.list ab [.int .i64 1,.int .i64 2],.list ab [.int .i64 2,.int .i64 0],.list ab [.int .i64 2,.int .i64 2]],kM)=some (.inr (.inr (false,2,3,kE,[.list ab [.int .i64 1,.int .i64 2],.list ab [.int .i64 2,.int .i64 0],.list ab [.int .i64 2,.int .i64 2]],kM))):=by simp only[v8,Ab,un];exact bs (Ny rfl) (bF rfl rfl)
 refine aq5 ?_;unfold aer;refine bs ara (bF rfl (bs arb (bs arc (bs ((iM b1).trans ((iM b2).trans ((iM b3).trans (kg b4)))) ?_))));exact bs arx rfl
theorem arz:CC tJ [.int .i64 2,.int .i64 0,kF,kN]=some [.int .i64 2,.int .i64 0,kF,kN]:=aH (N:=60) (n:=30) (by kernel_rfl)
theorem arA:CC Sz [.int .i64 3,.int .i64 0,.list cB [],.str [97]]=some [.bool true]:=aH (N:=60) (n:=30) (by kernel_rfl)
theorem Lm:CC y9 []=some [.bool true]:=by
 have hl: ∀x,CC CT [.int .i64 x]=some [.int .i64 3,.int .i64 x,.list cB []]:=fun x=>aq0 rfl;refine aq9 ?_;unfold aet;refine bs (hl 0) (bs (hl 1) (bs (aeq rfl) (bs (aeq rfl) (bs ary (bT rfl (bs arz (bT rfl (bs (hl 0) (bs arA rfl)))))))))
end Go.AM
set_option maxRecDepth 100000
namespace Go.AM
open Go.IntKind (wrap)
theorem cE {α:Type} {l:List α} {i:Nat} {d:α} (h:i<l.length):l.getD i d=l[i]:=by simp[h]
structure Da where
 L:Nat
 st:Nat
 F:List Bool
 N:List (List Nat)
deriving DecidableEq
namespace Da
def n (d:Da):Nat:=d.F.length
def nx (d:Da) (q x:Nat):Nat:=(d.N.getD q []).getD x 0
def fin (d:Da) (q:Nat):Bool:=d.F.getD q false
def run (d:Da) (q:Nat) (w:List Nat):Nat:=w.foldl d.nx q
def acc (d:Da) (q:Nat) (w:List Nat):Bool:=d.fin (d.run q w)
structure Ok (d:Da):Prop where
 l1:1≤d.L
 l6:d.L≤6
 nN:d.N.length=d.n
 row: ∀r∈d.N,r.length=d.L∧∀q∈r,q<d.n
 s:d.st<d.n
 dy:d.n≤512
end Da
def WL (L:Nat) (w:List Nat):Prop:= ∀x∈w,x<L
theorem WL.nil {L:Nat}:WL L []:=fun _ h=>by cases h
theorem WL.cons {L x:Nat} {w:List Nat} (h:x<L) (hw:WL L w):WL L (x::w):=fun y hy=>by
 rcases fj.1 hy with rfl|hy
 ·exact h
 ·exact hw y hy
theorem WL.head {L x:Nat} {w:List Nat} (h:WL L (x::w)):x<L:=h x (by simp)
theorem WL.tail {L x:Nat} {w:List Nat} (h:WL L (x::w)):WL L w:=fun y hy=>h y (by simp[hy])
theorem WL.app {L:Nat} {v w:List Nat}:WL L (v++w)↔WL L v∧WL L w:=by
 unfold WL;simp only[fb];exact ⟨fun h=>⟨fun x hx=>h x (.inl hx),fun x hx=>h x (.inr hx)⟩,fun h x hx=>hx.elim (h.1 x) (h.2 x)⟩
namespace Da
def rQ (d:Da) (q:Nat) (d':Da) (q':Nat):Prop:= ∀w,WL d.L w→d.acc q w=d'.acc q' w
theorem Ok.my {d:Da} (h:d.Ok) {q x:Nat} (hq:q<d.n) (hx:x<d.L):d.nx q x<d.n:=by
 have dD:q<d.N.length:=by rw[h.nN];exact hq
 have hr:=h.row d.N[q] (dd dD);unfold nx;rw[cE dD,cE (by omega)];exact hr.2 _ (dd _)
theorem Ok.qt {d:Da} (h:d.Ok): ∀(w:List Nat) {q:Nat},q<d.n→WL d.L w→d.run q w<d.n
 | [],q,hq,_=>hq
 | x::w,q,hq,hw=>h.qt w (h.my hq hw.head) hw.tail
theorem aeu {d:Da} {q x:Nat} {w:List Nat}:d.run q (x::w)=d.run (d.nx q x) w:=rfl
theorem NA {d:Da} {q x:Nat} {w:List Nat}:d.acc q (x::w)=d.acc (d.nx q x) w:=rfl
theorem KN {d:Da} {q:Nat} {v w:List Nat}:d.run q (v++w)=d.run (d.run q v) w:=A8
theorem yR {d:Da} {q:Nat} {v w:List Nat}:d.acc q (v++w)=d.acc (d.run q v) w:=by unfold acc;rw[KN]
theorem uy {d:Da} {q:Nat}:d.acc q []=d.fin q:=rfl
theorem rQ.nx {d d':Da} {q q' x:Nat} (h:d.rQ q d' q') (hx:x<d.L):d.rQ (d.nx q x) d' (d'.nx q' x):=fun w hw=>h (x::w) (hw.cons hx)
def pos (d:Da) (t:Nat):Nat:=d.nx (t/d.L) (t %d.L)
def mt (d:Da):Nat→Nat
 | 0=>1
 | t+1=>if d.pos t=d.mt t then d.mt t+1 else d.mt t
structure KL (d:Da):Prop where
 le: ∀t,t<d.n*d.L→d.pos t≤d.mt t
 row: ∀q,q<d.n→q<d.mt (q*d.L)
 all:d.mt (d.n*d.L)=d.n
structure Canon (d:Da) (L:Nat) (K:List Nat→Bool):Prop where
 ok:d.Ok
 hL:d.L=L
 st:d.st=0
 num:d.KL
 red: ∀p q,p<d.n→q<d.n→d.rQ p d q→p=q
 Dw: ∀w,WL L w→d.acc 0 w=K w
theorem KM (d:Da): ∀{s t:Nat},s≤t→d.mt s≤d.mt t:=by
 intro s t h
 induction t with
 | zero=>rw[wD.1 h];exact az _
 | succ t ih=>
  rcases jR s (t+1) with h1|h1
  ·have:=ih (by omega);have e:d.mt (t+1)=if d.pos t=d.mt t then d.mt t+1 else d.mt t:=rfl
   rw[e];split<;>omega
  ·rw[show s=t+1 by omega];exact az _
theorem UZ {d d':Da} {K:List Nat→Bool} {L:Nat} (h:d.Canon L K) (h':d'.Canon L K): ∀t,t≤d.n*L→t≤d'.n*L→d.mt t=d'.mt t∧(∀s,s<t→d.pos s=d'.pos s)∧∀q,q<d.mt t→d.rQ q d' q:=by
 intro t;have e:=h.hL;have e':=h'.hL;have hl:=h.ok.l1
 induction t with
 | zero=>
  intro _ _;refine ⟨rfl,fun s hs=>by omega,fun q hq=> ?_⟩;obtain rfl:q=0:=by have:q<1:=hq;omega
  intro w hw;rw[h.Dw w (e▸hw),h'.Dw w (e▸hw)]
 | succ t ih=>
  intro h1 h2;obtain ⟨i1,i2,i3⟩:=ih (by omega) (by omega);have hm:d.mt t≤d.n:=by rw[←h.num.all];exact d.KM (by rw[e];omega)
  have J1:d'.mt t≤d'.n:=by rw[←h'.num.all];exact d'.KM (by rw[e'];omega)
  have hq:t/L<d.n:=by rw[Jl (by omega)];omega
  have dD:t/L<d'.n:=by rw[Jl (by omega)];omega
  have hx:t %L<L:=ye _ (by omega);have hqm:t/L<d.mt t:=by
   have a:=h.num.row _ hq;rw[e] at a;have b:d.mt (t/L*L)≤d.mt t:=d.KM (Nat.div_mul_le_self t L);omega
  have hE:=(i3 _ hqm).nx (by rw[e];exact hx);have p1:d.pos t=d.nx (t/L) (t %L):=by unfold pos;rw[e]
  have p2:d'.pos t=d'.nx (t/L) (t %L):=by unfold pos;rw[e']
  rw[←p1,←p2] at hE;have l1:=h.num.le t (by rw[e];omega);have l2:=h'.num.le t (by rw[e'];omega);have b1:d.pos t<d.n:=by rw[p1];exact h.ok.my hq (by rw[e];exact hx)
  have b2:d'.pos t<d'.n:=by rw[p2];exact h'.ok.my dD (by rw[e'];exact hx)
  have key:d.pos t=d'.pos t:=by
   rcases jR (d.pos t) (d.mt t) with c|c
   ·have hA:=i3 _ c;refine h'.red _ _ (by omega) b2 fun w hw=> ?_;have BN:WL d.L w:=by rw[e,←e'];exact hw
    rw[←hA w BN,hE w BN]
   ·rcases jR (d'.pos t) (d.mt t) with c'|c'
    ·have hA:=i3 _ c';refine h.red _ _ b1 (by omega) fun w hw=> ?_;rw[hE w hw,hA w hw]
    ·omega
  refine ⟨?_,?_,?_⟩
  ·unfold mt;rw[key,i1]
  ·intro s hs;rcases jR s t with c|c
   ·exact i2 s c
   ·rw[show s=t by omega];exact key
  ·intro q vA;rcases jR q (d.mt t) with c|c
   ·exact i3 q c
   ·have:d.pos t=d.mt t∧q=d.mt t:=by
     unfold mt at vA;split at vA
     ·rename_i h3;exact ⟨h3,by omega⟩
     ·omega
    rw[←key,this.1,←this.2] at hE;exact hE
theorem arB {a b:List Nat} (hl:a.length=b.length) (h: ∀x,x<a.length→a.getD x 0=b.getD x 0):a=b:=by
 refine rX hl fun x h1 h2=> ?_;have:=h x h1;rwa [cE h1,cE h2] at this
theorem U0 {d:Da} (h:d.Ok) {q:Nat} (hq:q<d.n):(d.N.getD q []).length=d.L:=by
 have dD:q<d.N.length:=by rw[h.nN];exact hq
 rw[cE dD];exact (h.row _ (dd dD)).1
theorem Canon.eq {d d':Da} {K:List Nat→Bool} {L:Nat} (h:d.Canon L K) (h':d'.Canon L K):d=d':=by
 have e:=h.hL;have e':=h'.hL;have hl:=h.ok.l1;rw[e] at hl;have hn:d.n=d'.n:=by
  rcases Nat.lt_trichotomy d.n d'.n with c|c|c
  ·obtain ⟨s1,_,_⟩:=UZ h h' (d.n*L) (az _) (eF _ (by omega));have a:=h.num.all;have b:=h'.num.row d.n c;rw[e] at a;rw[e'] at b;omega
  ·exact c
  ·obtain ⟨s1,_,_⟩:=UZ h h' (d'.n*L) (eF _ (by omega)) (az _);have a:=h'.num.all;have b:=h.num.row d'.n c;rw[e'] at a;rw[e] at b;omega
 obtain ⟨s1,s2,s3⟩:=UZ h h' (d.n*L) (az _) (by rw[hn];exact az _);have a:=h.num.all;rw[e] at a;have hE: ∀q,q<d.n→d.rQ q d' q:=fun q hq=>s3 q (by omega);have hP: ∀q x,q<d.n→x<L→d.nx q x=d'.nx q x:=fun q x hq hx=>by
  have:=s2 (q*L+x) (by
   have:(q+1)*L≤d.n*L:=eF _ (by omega);rw[jh] at this;omega)
  unfold pos at this;rw[e,e'] at this;rwa [show (q*L+x)/L=q by rw[wz,Nat.mul_add_div (by omega),Nat.div_eq_of_lt hx];rfl,show (q*L+x) %L=x by rw[wz,Nat.mul_add_mod,Nat.mod_eq_of_lt hx]] at this
 have hF:d.F=d'.F:=by
  refine rX hn fun q h1 h2=> ?_;have:=hE q h1 [] WL.nil;rw[uy,uy] at this;unfold fin at this;rwa [cE h1,cE h2] at this
 have hN:d.N=d'.N:=by
  refine rX (by rw[h.ok.nN,h'.ok.nN,hn]) fun q h1 h2=> ?_;have hq:q<d.n:=by rw[←h.ok.nN];exact h1
  have r1:=U0 h.ok hq;have r2:=U0 h'.ok (show q<d'.n by omega);have hx:=fun x hx=>hP q x hq hx;unfold nx at hx;rw[cE h1] at r1 hx;rw[cE h2] at r2 hx;exact arB (by omega) fun x h3=>hx x (by omega)
 obtain ⟨L1,s1,F1,N1⟩:=d;obtain ⟨L2,s2,F2,N2⟩:=d';have q1:=h.st;have q2:=h'.st;simp only at*
 subst hF hN e e' q1 q2;rfl
end Da
section
variable {α:Type} [DecidableEq α]
def di (S:List α) (a:α):List α:=if a∈S then S else S++[a]
def cL (next:α→Nat→α) (S:List α) (a:α):Nat→List α
 | 0=>S
 | x+1=>di (cL next S a x) (next a x)
def aI (L:Nat) (next:α→Nat→α) (a0:α):Nat→List α
 | 0=>[a0]
 | i+1=>match (aI L next a0 i)[i]? with
  | some a=>cL next (aI L next a0 i) a L
  | none=>aI L next a0 i
theorem Ad (S:List α) (a:α):S <+: di S a:=by
 unfold di;split
 ·exact sa _
 ·exact List.prefix_append _ _
theorem Dx {S:List α} {a:α}:a∈di S a:=by
 unfold di;split
 ·assumption
 ·simp
theorem U3 {S:List α} {a:α} (h:S.Nodup):(di S a).Nodup:=by
 unfold di;split
 ·exact h
 ·rename_i h2;refine Eb.2 ⟨h,by simp,fun x hx y hy e=> ?_⟩;rw[fL.1 hy] at e;exact h2 (e▸hx)
theorem Dy {S:List α} {a:α}:(di S a).length=if a∈S then S.length else S.length+1:=by
 unfold di;split<;>simp
variable {L:Nat} {next:α→Nat→α} {a0:α}
theorem NB (S:List α) (a:α): ∀x,S <+: cL next S a x
 | 0=>sa _
 | x+1=>(NB S a x).trans (Ad _ _)
theorem Dz (S:List α) (a:α) {x y:Nat} (h:x≤y):cL next S a x <+: cL next S a y:=by
 induction y with
 | zero=>rw[wD.1 h];exact sa _
 | succ y ih=>
  rcases jR x (y+1) with c|c
  ·exact (ih (by omega)).trans (Ad _ _)
  ·rw[show x=y+1 by omega];exact sa _
theorem aev {S:List α} {a:α} (h:S.Nodup): ∀x,(cL next S a x).Nodup
 | 0=>h
 | x+1=>U3 (aev h x)
theorem aew {S:List α} {a:α} {x y:Nat} (h:x<y):next a x∈cL next S a y:=
 (Dz S a (show x+1≤y by omega)).subset Dx
theorem arC {i:Nat} {a:α} (h:(aI L next a0 i)[i]? =some a):aI L next a0 (i+1)=cL next (aI L next a0 i) a L:=by
 rw[aI,h]
theorem arD {i:Nat} (h:(aI L next a0 i).length≤i):aI L next a0 (i+1)=aI L next a0 i:=by
 rw[aI,List.getElem?_eq_none h]
theorem arE (i:Nat):aI L next a0 i <+: aI L next a0 (i+1):=by
 rw[aI];split
 ·exact NB _ _ _
 ·exact sa _
theorem wa {i j:Nat} (h:i≤j):aI L next a0 i <+: aI L next a0 j:=by
 induction j with
 | zero=>rw[wD.1 h];exact sa _
 | succ j ih=>
  rcases jR i (j+1) with c|c
  ·exact (ih (by omega)).trans (arE j)
  ·rw[show i=j+1 by omega];exact sa _
theorem DA: ∀i,(aI L next a0 i).Nodup
 | 0=>by simp[aI]
 | i+1=>by
  rw[aI];split
  ·exact aev (DA i) _
  ·exact DA i
theorem aex {i j:Nat} (h:(aI L next a0 i).length≤i) (hj:i≤j):aI L next a0 j=aI L next a0 i:=by
 induction j with
 | zero=>rw[wD.1 hj]
 | succ j ih=>
  rcases jR i (j+1) with c|c
  ·rw[arD (by rw[ih (by omega)];omega),ih (by omega)]
  ·rw[show i=j+1 by omega]
theorem arF (i:Nat):(aI L next a0 i)[0]? =some a0:=by
 have h:=wa (L:=L) (next:=next) (a0:=a0) (ma i);have h0:0<(aI L next a0 0).length:=by simp[aI]
 rw[b7 (oA h0 h.length_le),←h.getElem h0];rfl
theorem U4 (i:Nat):0<(aI L next a0 i).length:=oA (by simp[aI]) (wa (L:=L) (next:=next) (a0:=a0) (ma i)).length_le
theorem NC: ∀i,∀a∈aI L next a0 i,∃w,WL L w∧a=w.foldl next a0
 | 0,a,h=>⟨[],WL.nil,by simpa[aI] using h⟩
 | i+1,a,h=>by
  rw[aI] at h;split at h
  ·rename_i b hb;have au:b∈aI L next a0 i:=mB hb
   obtain ⟨w,hw,rfl⟩:=NC i b au;have: ∀x,x≤L→∀a∈cL next (aI L next a0 i) (w.foldl next a0) x,∃w,WL L w∧a=w.foldl next a0:=by
    intro x
    induction x with
    | zero=>intro _ a h;exact NC i a h
    | succ x ih=>
     intro hx a h;rw[cL] at h;unfold di at h;split at h
     ·exact ih (by omega) a h
     ·rcases fb.1 h with h|h
      ·exact ih (by omega) a h
      ·refine ⟨w++[x],WL.app.2 ⟨hw,WL.nil.cons (by omega)⟩,?_⟩;rw[fL.1 h,A8];rfl
   exact this L (az _) a h
  ·exact NC i a h
section
variable {k:Nat} (hd:(aI L next a0 k).length≤k)
include hd
theorem U5 {i:Nat} (h:i<(aI L next a0 k).length):i<(aI L next a0 i).length:=by
 rcases jR i (aI L next a0 i).length with c|c
 ·exact c
 ·have:=aex c (show i≤k by omega);rw[this] at h;omega
theorem arG {i:Nat} (h:i<(aI L next a0 k).length):(aI L next a0 i)[i]? =some (aI L next a0 k)[i]:=by
 have h1:=U5 hd h;rw[b7 h1,(wa (show i≤k by omega)).getElem h1]
theorem HB {i:Nat} (h:i<(aI L next a0 k).length):aI L next a0 (i+1)=cL next (aI L next a0 i) (aI L next a0 k)[i] L:=arC (arG hd h)
theorem aey {a:α} (h:a∈aI L next a0 k) {x:Nat} (hx:x<L):next a x∈aI L next a0 k:=by
 obtain ⟨i,hi,rfl⟩:=List.getElem_of_mem h;have h1:next (aI L next a0 k)[i] x∈aI L next a0 (i+1):=by rw[HB hd hi];exact aew hx
 rcases jR i k with c|c
 ·exact (wa (show i+1≤k by omega)).subset h1
 ·omega
end
def iW (L:Nat) (next:α→Nat→α) (fin:α→Bool) (S:List α):Da where
 L:=L
 st:=0
 F:=S.map fin
 N:=S.map fun a=>(List.range L).map fun x=>S.idxOf (next a x)
theorem uz {fin:α→Bool} {S:List α}:(iW L next fin S).n=S.length:=by simp[iW,Da.n]
theorem ND {fin:α→Bool} {S:List α} {i x:Nat} (hi:i<S.length) (hx:x<L):(iW L next fin S).nx i x=S.idxOf (next S[i] x):=by
 unfold Da.nx iW;simp[qY,hi,hx]
theorem aez {fin:α→Bool} {S:List α} {i:Nat} (hi:i<S.length):(iW L next fin S).fin i=fin S[i]:=by
 unfold Da.fin iW;simp[qY,hi]
theorem DB {S T:List α} (hp:T <+: S) {a:α} (h:a∈T):S.idxOf a=T.idxOf a:=by
 obtain ⟨U,rfl⟩:=hp;rw[A9,aA h]
section
variable {k:Nat} (hd:(aI L next a0 k).length≤k) {fin:α→Bool}
include hd
theorem arH {i x:Nat} (hi:i<(aI L next a0 k).length) (hx:x<L): ∃h:(iW L next fin (aI L next a0 k)).nx i x<(aI L next a0 k).length,(aI L next a0 k)[(iW L next fin (aI L next a0 k)).nx i x]=next (aI L next a0 k)[i] x:=by
 have hm:=aey hd (dd hi) hx;rw[ND hi hx];exact ⟨wG hm,Js _⟩
theorem aeA: ∀(w:List Nat) {i:Nat} (hi:i<(aI L next a0 k).length),WL L w→∃h:(iW L next fin (aI L next a0 k)).run i w<(aI L next a0 k).length,(aI L next a0 k)[(iW L next fin (aI L next a0 k)).run i w]=w.foldl next (aI L next a0 k)[i]
 | [],i,hi,_=>⟨hi,rfl⟩
 | x::w,i,hi,hw=>by
  obtain ⟨h1,h2⟩:=arH (fin:=fin) hd hi hw.head;obtain ⟨h3,h4⟩:=aeA w h1 hw.tail;refine ⟨h3,?_⟩;rw[List.foldl_cons,←h2];exact h4
theorem arI {w:List Nat} {i:Nat} (hi:i<(aI L next a0 k).length) (hw:WL L w):(iW L next fin (aI L next a0 k)).acc i w=fin (w.foldl next (aI L next a0 k)[i]):=by
 obtain ⟨h1,h2⟩:=aeA (fin:=fin) hd w hi hw;unfold Da.acc;rw[aez h1,h2]
theorem arJ (h1:1≤L) (h6:L≤6) (hm:(aI L next a0 k).length≤512):(iW L next fin (aI L next a0 k)).Ok where
 l1:=h1
 l6:=h6
 nN:=by rw[uz];simp[iW]
 row r hr:=by
  rw[uz];obtain ⟨a,ha,rfl⟩:=iB.1 (show r∈(aI L next a0 k).map _ from hr);refine ⟨by simp[iW],fun q hq=> ?_⟩;obtain ⟨x,hx,rfl⟩:=iB.1 hq;exact wG (aey hd ha (fQ.1 hx))
 s:=by rw[uz];exact U4 k
 dy:=by rw[uz];exact hm
theorem U6 (h1:1≤L): ∀i,i≤(aI L next a0 k).length→(iW L next fin (aI L next a0 k)).mt (i*L)=(aI L next a0 i).length∧∀(hi:i<(aI L next a0 k).length) x,x≤L→(iW L next fin (aI L next a0 k)).mt (i*L+x)=(cL next (aI L next a0 i) (aI L next a0 k)[i] x).length:=by
 have key: ∀i,(iW L next fin (aI L next a0 k)).mt (i*L)=(aI L next a0 i).length→∀(hi:i<(aI L next a0 k).length) x,x≤L→(iW L next fin (aI L next a0 k)).mt (i*L+x)=(cL next (aI L next a0 i) (aI L next a0 k)[i] x).length:=by
  intro i h hi x
  induction x with
  | zero=>intro _;exact h
  | succ x ih=>
   intro hx;have ih:=ih (by omega);have hp:cL next (aI L next a0 i) (aI L next a0 k)[i] (x+1) <+: aI L next a0 k:=by
    refine (Dz _ _ hx).trans ?_;rw[←HB hd hi];exact wa (by omega)
   have hp0:cL next (aI L next a0 i) (aI L next a0 k)[i] x <+: aI L next a0 k:=(Dz _ _ (by omega)).trans hp
   have gK:(iW L next fin (aI L next a0 k)).pos (i*L+x)=(aI L next a0 k).idxOf (next (aI L next a0 k)[i] x):=by
    unfold Da.pos;rw[show (iW L next fin (aI L next a0 k)).L=L from rfl,show (i*L+x)/L=i by rw[wz,Nat.mul_add_div (by omega),Nat.div_eq_of_lt (by omega)];rfl,show (i*L+x) %L=x by rw[wz,Nat.mul_add_mod,Nat.mod_eq_of_lt (by omega)],ND hi (by omega)]
   show (iW L next fin (aI L next a0 k)).mt ((i*L+x)+1)=_;rw[Da.mt,gK,ih,cL];rw[cL] at hp;generalize cL next (aI L next a0 i) (aI L next a0 k)[i] x=T at*
   generalize next (aI L next a0 k)[i] x=b at*
   rw[Dy];by_cases hb:b∈T
   ·rw[aA hb,DB hp0 hb,aw (by have:=wG hb;omega)]
   ·rw[aw hb];unfold di at hp;rw[aw hb] at hp;rw[DB hp (by simp),A9,aw hb];simp
 intro i
 induction i with
 | zero=>
  intro _;have:(iW L next fin (aI L next a0 k)).mt (0*L)=(aI L next a0 0).length:=by rw[D4];rfl
  exact ⟨this,key 0 this⟩
 | succ i ih=>
  intro hi;obtain ⟨_,h3⟩:=ih (by omega);have h4:=h3 (by omega) L (az _);rw[←HB hd (by omega),←Nat.succ_mul] at h4;exact ⟨h4,key (i+1) h4⟩
theorem aeB:(aI L next a0 (aI L next a0 k).length)=aI L next a0 k:=by
 have hp:=wa (L:=L) (next:=next) (a0:=a0) hd;exact (aex hp.length_le hd).symm
theorem arK (h1:1≤L):(iW L next fin (aI L next a0 k)).KL where
 le t ht:=by
  rw[uz] at ht;have hq:t/L<(aI L next a0 k).length:=by rw[Jl (by omega)];exact ht
  have hx:t %L<L:=ye _ (by omega);have Lx:t/L*L+t %L=t:=Nat.div_add_mod' t L;have h2:=(U6 (fin:=fin) hd h1 (t/L) (by omega)).2 hq (t %L) (by omega);rw[Lx] at h2;rw[h2];unfold Da.pos;rw[show (iW L next fin (aI L next a0 k)).L=L from rfl,ND hq hx];have hp:cL next (aI L next a0 (t/L)) (aI L next a0 k)[t/L] (t %L+1) <+: aI L next a0 k:=by
   refine (Dz _ _ (show t %L+1≤L by omega)).trans ?_;rw[←HB hd hq];exact wa (by omega)
  rw[cL] at hp;generalize cL next (aI L next a0 (t/L)) (aI L next a0 k)[t/L] (t %L)=T at*
  generalize next (aI L next a0 k)[t/L] (t %L)=b at*
  rw[DB hp Dx];have:=wG (Dx (S:=T) (a:=b));rw[Dy] at this;split at this<;>omega
 row q hq:=by
  rw[uz] at hq;rw[show (iW L next fin (aI L next a0 k)).L=L from rfl,(U6 hd h1 q (by omega)).1];exact U5 hd hq
 all:=by
  rw[uz,show (iW L next fin (aI L next a0 k)).L=L from rfl,(U6 hd h1 _ (az _)).1,aeB hd]
end
theorem aeC {U:List α} (h0:a0∈U) (hU: ∀a∈U,∀x,x<L→next a x∈U) (k:Nat):aI L next a0 k ⊆ U:=by
 intro a ha;obtain ⟨w,hw,rfl⟩:=NC k a ha;have: ∀(w:List Nat) (b:α),b∈U→WL L w→w.foldl next b∈U:=by
  intro w
  induction w with
  | nil=>intro b hb _;exact hb
  | cons x w ih=>intro b hb hw;exact ih _ (hU b hb x hw.head) hw.tail
 exact this w a0 h0 hw
theorem arL {U:List α} (h0:a0∈U) (hU: ∀a∈U,∀x,x<L→next a x∈U) (k:Nat):(aI L next a0 k).length≤U.length:=
 yc (DA k) (aeC h0 hU k)
end
namespace Da
def trim (d:Da):Da:=iW d.L d.nx d.fin (aI d.L d.nx d.st d.n)
theorem Ok.wb {d:Da} (h:d.Ok) (k:Nat):(aI d.L d.nx d.st k).length≤d.n:=by
 have:=arL (L:=d.L) (next:=d.nx) (a0:=d.st) (U:=List.range d.n) (fQ.2 h.s) (fun a ha x hx=>fQ.2 (h.my (fQ.1 ha) hx)) k;simpa using this
theorem Ok.HC {d:Da} (h:d.Ok) (k:Nat): ∀q∈aI d.L d.nx d.st k,q<d.n:=fun q hq=>by
 have:=aeC (L:=d.L) (next:=d.nx) (a0:=d.st) (U:=List.range d.n) (fQ.2 h.s) (fun a ha x hx=>fQ.2 (h.my (fQ.1 ha) hx)) k hq;exact fQ.1 this
theorem Ok.aeD {d:Da} (h:d.Ok):d.trim.Ok:=arJ (h.wb _) h.l1 h.l6 (lZ (h.wb _) h.dy)
theorem Ok.U7 {d:Da} (h:d.Ok) {i:Nat} (hi:i<(aI d.L d.nx d.st d.n).length) {w:List Nat} (hw:WL d.L w):d.trim.acc i w=d.acc (aI d.L d.nx d.st d.n)[i] w:=arI (h.wb _) hi hw
theorem Ok.aeE {d:Da} (h:d.Ok) {w:List Nat} (hw:WL d.L w):d.trim.acc 0 w=d.acc d.st w:=by
 rw[h.U7 (U4 _) hw];have:=arF (L:=d.L) (next:=d.nx) (a0:=d.st) d.n;rw[b7 (U4 _)] at this;rw[dU this]
theorem Ok.arM {d:Da} (h:d.Ok) (hr: ∀p q,p<d.n→q<d.n→d.rQ p d q→p=q):d.trim.Canon d.L (d.acc d.st) where
 ok:=h.aeD
 hL:=rfl
 st:=rfl
 num:=arK (h.wb _) h.l1
 red p q hp hq he:=by
  unfold trim at hp hq;rw[uz] at hp hq;have h1:d.rQ (aI d.L d.nx d.st d.n)[p] d (aI d.L d.nx d.st d.n)[q]:=fun w hw=>by
   rw[←h.U7 hp hw,←h.U7 hq hw];exact he w hw
  have h2:=hr _ _ (h.HC _ _ (dd hp)) (h.HC _ _ (dd hq)) h1;rw[←List.Nodup.idxOf_getElem (DA _) p hp,←List.Nodup.idxOf_getElem (DA _) q hq,h2]
 Dw w hw:=h.aeE hw
end Da
end Go.AM
set_option maxRecDepth 100000
namespace Go.AM
open Go.IntKind (wrap)
open Go.Proofs
noncomputable def HD (C:af) (Ae:Int) (t38:LV) (t39 t40:Int) (t49:LV) (t50 bG bU:Int) (gM gp:LV) (t51:Int) {β:Type} (kn:Int→Option β) (kr:((Int) ⊕ (Int×Bool))→Option β):Option β:=
 bif decide (t51<t50) then
  (idx t49 t51).bind fun x2=>
  bif decide ((x2.toInt:Int)<0) then
  kr (.inl 4)
  else
  bif decide ((x2.toInt:Int)≥Ae) then
   kr (.inl 4)
  else
   kn (wrap .i64 (t51+1))
 else
  kr (.inr (t51,decide (t51<t50)))
noncomputable def NF (C:af) (Ae:Int) (t38:LV) (t39 t40:Int) (t49:LV) (t50 bG bU:Int) (gM gp:LV):=fun t51=>HD C Ae t38 t39 t40 t49 t50 bG bU gM gp t51 (fun y=>some (Sum.inl y)) (fun r=>some (Sum.inr r))
noncomputable def HE (C:af) (Ae:Int) (t38:LV) (t39 bG bU:Int) (gM gp:LV) (t40:Int) {β:Type} (kn:Int→Option β) (kr:((Int) ⊕ (Int×Bool))→Option β):Option β:=
 bif decide (t40<t39) then
  (idx t38 t40).bind fun x1=>
  bif (x1.toList.length:Int) != bG then
  kr (.inl 4)
  else
  (Loop (NF C Ae t38 t39 t40 x1.toList (x1.toList.length:Int) bG bU gM gp) 0).bind (fJ (fun jN=>
   kr (.inl jN)) (un fun (mf:Int) (lF:Bool)=>
   kn (wrap .i64 (t40+1))))
 else
  kr (.inr (t40,decide (t40<t39)))
noncomputable def NG (C:af) (Ae:Int) (t38:LV) (t39 bG bU:Int) (gM gp:LV):=fun t40=>HE C Ae t38 t39 bG bU gM gp t40 (fun y=>some (Sum.inl y)) (fun r=>some (Sum.inr r))
noncomputable def aeF (C:af):cN:=bL 225 TB [EQ,EQ,EQ,EQ,EQ,EQ,H1,EQ,EQ,EQ,EQ] [[0],[1,2,3,4,5,6,0,0,8,9,10,11]] (@HD C) (bL 145 TC [EQ,EQ,EQ,H1,EQ,EQ,EQ,EQ] [[0],[1,2,3,0,0,5,6,7,8]] (@HE C) bM)
theorem arN (C:af):bD C (aeF C) 28 (Lp [1,1,1,1,1,0,1,0,0,1,1,0,0,1,1,1,0,0] 28):=bN TB [EQ,EQ,EQ,EQ,EQ,EQ,H1,EQ,EQ,EQ,EQ] [[0],[1,2,3,4,5,6,0,0,8,9,10,11]] (@HD C) (bA av)
theorem arO (C:af):bD C (aeF C) 28 (Lp [1,1,1,1,1,0,1,0,0] 28):=bN TC [EQ,EQ,EQ,H1,EQ,EQ,EQ,EQ] [[0],[1,2,3,0,0,5,6,7,8]] (@HE C) (bA (bE (arN C) av))
noncomputable def aeG (C:af) (cw cJ:Int) (b9 cK:LV):Option LV:=
 bif decide (cw<1) then
  some [V.int .i64 1]
 else
  bif decide (cw>6) then
  some [V.int .i64 1]
  else
  bif decide ((b9.length:Int)>512) then
   some [V.int .i64 3]
  else
   bif (cK.length:Int) != (b9.length:Int) then
   some [V.int .i64 4]
   else
   bif decide (cJ<0) then
    some [V.int .i64 4]
   else
    bif decide (cJ≥(b9.length:Int)) then
    some [V.int .i64 4]
    else
    (Loop (NG C (b9.length:Int) cK (cK.length:Int) cw cJ b9 cK) 0).bind (fJ (fun jY=>
     some [V.int .i64 jY]) (un fun (nu:Int) (vr:Bool)=>
     some [V.int .i64 0]))
theorem arP {cw cJ:Int} {b9 cK:LV} {r:Option LV} (h:aeG CC cw cJ b9 cK=r):CC sC [V.int .i64 cw,V.int .i64 cJ,.list ar b9,.list ag cK]=r:=bO (bE (arO CC) av) h
abbrev iV (n:Int):V:= .int .i64 n
def tK (r:List Int):V:= .list ab (r.map iV)
@[simp] theorem arQ (r:List Int):(tK r).toList=r.map iV:=by simp[tK]
structure Df where
 L:Int
 st:Int
 F:List Bool
 N:List (List Int)
def FA (d:Df) (l:List V):List V:= .int .i64 d.L:: .int .i64 d.st:: .list ar (d.F.map V.bool):: .list ag (d.N.map tK)::l
namespace Df
structure Ok (d:Df):Prop where
 L1: -9223372036854775808≤d.L
 L2:d.L≤9223372036854775807
 s1: -9223372036854775808≤d.st
 s2:d.st≤9223372036854775807
 F:d.F.length≤maxLen
 N:d.N.length≤maxLen
 row: ∀r∈d.N,r.length≤maxLen∧∀q∈r,-9223372036854775808≤q∧q≤9223372036854775807
def rR (d:Df) (r:List Int) (i:Nat):Prop:=0≤r.getD i 0∧r.getD i 0<d.F.length
instance (d:Df) (r:List Int):DecidablePred (d.rR r):=fun i=>by unfold rR;infer_instance
def wc (d:Df) (q:Nat):Prop:=((d.N.getD q []).length:Int)=d.L∧∀i,i<(d.N.getD q []).length→d.rR (d.N.getD q []) i
instance (d:Df):DecidablePred d.wc:=fun i=>by unfold wc;infer_instance
def val (d:Df):Int:=
 if d.L<1∨6<d.L then 1
 else if 512<d.F.length then 3
 else if d.N.length≠d.F.length∨d.st<0∨(d.F.length:Int)≤d.st then 4
 else if∀q,q<d.N.length→d.wc q then 0 else 4
end Df
theorem Qr {α:Type} {f:α→V} {l:List α} {i:Nat} {z:α} (h:i<l.length):idx (l.map f) (i:Int)=some (f (l.getD i z)):=by
 rw[YJ rfl h];simp[h]
section
variable {d:Df} (hd:d.Ok)
include hd
theorem arR {q:Nat} (h:q<d.N.length):(d.N.getD q []).length≤maxLen:=by
 rw[show d.N.getD q []=d.N[q] by simp[h]];exact (hd.row _ (dd h)).1
theorem arS {q:Nat} (hq:q<d.N.length) {t38:List V} {t39:Int} {a b:Int} {l1 l2:List V}:
  Loop (NF CC (d.F.length:Int) t38 t39 (q:Int) ((d.N.getD q []).map iV) (((d.N.getD q []).map iV).length:Int) a b l1 l2) 0=
   some (if∀i,i<(d.N.getD q []).length→d.rR (d.N.getD q []) i then .inr (((d.N.getD q []).length:Int),false) else .inl 4):=by
 have hl:=arR hd hq;have hm:=aep;generalize d.N.getD q []=r at*
 refine US (d.rR r) r.length (fun i=>(i:Int)) (.inl 4:Int ⊕ (Int×Bool)) (.inr ((r.length:Int),false)) (fun i hi=> ?_) ?_
 ·simp only[NF,HD,dH,ui];rw[da,Qr (z:=0) hi];simp only[Option.bind_some,V.toInt_int];by_cases h1:r.getD i 0<0
  ·rw[aA h1,aw (show¬d.rR r i from fun h=>by unfold Df.rR at h;omega)]
  ·rw[aw h1];by_cases h2:r.getD i 0≥(d.F.length:Int)
   ·rw[aA h2,aw (show¬d.rR r i from fun h=>by unfold Df.rR at h;omega)]
   ·rw[aw h2,aA (show d.rR r i from ⟨by omega,by omega⟩),rD];rfl
 ·simp only[NF,HD,dH,ui];rw[dm,WM]
theorem arT {a b:Int} {l1 l2:List V}:
  Loop (NG CC (d.F.length:Int) (d.N.map tK) ((d.N.map tK).length:Int) d.L b l1 l2) 0=
   some (if∀q,q<d.N.length→d.wc q then .inr ((d.N.length:Int),false) else .inl 4):=by
 have hm:=aep;have hN:=hd.N;refine US d.wc d.N.length (fun i=>(i:Int)) (.inl 4:Int ⊕ (Int×Bool)) (.inr ((d.N.length:Int),false)) (fun q hq=> ?_) ?_
 ·simp only[NG,HE,dH,ui];rw[da,Qr (z:=[]) hq];simp only[Option.bind_some,arQ,dH,abE];have:=arS hd hq (t38:=d.N.map tK) (t39:=(d.N.length:Int)) (a:=d.L) (b:=b) (l1:=l1) (l2:=l2);rw[dH] at this;by_cases h1:((d.N.getD q []).length:Int)=d.L
  ·rw[aA h1];refine bs this ?_;by_cases h2: ∀i,i<(d.N.getD q []).length→d.rR (d.N.getD q []) i
   ·rw[aA h2,aA (show d.wc q from ⟨h1,h2⟩)];simp only[fJ,un];rw[rD];rfl
   ·rw[aw h2,aw (show¬d.wc q from fun h=>h2 h.2)];rfl
  ·rw[aw h1,aw (show¬d.wc q from fun h=>h1 h.1)]
 ·simp only[NG,HE,dH,ui];rw[dm,WM]
theorem arU:CC sC (FA d [])=some [.int .i64 d.val]:=by
 refine arP ?_;unfold aeG Df.val;simp only[dH,ui,abE];have h:=arT hd (a:=0) (b:=d.st) (l1:=d.F.map V.bool) (l2:=d.N.map tK);rw[dH] at h;by_cases h1:d.L<1
 ·rw[aA h1,aA (.inl h1)]
 rw[aw h1];by_cases h2:d.L>6
 ·rw[aA h2,aA (.inr h2)]
 rw[aw h2,aw (show¬(d.L<1∨6<d.L) by omega)];by_cases h3:512<d.F.length
 ·rw[aA (show (d.F.length:Int)>512 by omega),aA h3]
 rw[aw (show¬(d.F.length:Int)>512 by omega),aw h3];by_cases h4:d.N.length=d.F.length
 ·rw[aA (show (d.N.length:Int)=(d.F.length:Int) by omega)];by_cases h5:d.st<0
  ·rw[aA h5,aA (.inr (.inl h5))]
  rw[aw h5];by_cases h6:d.st≥(d.F.length:Int)
  ·rw[aA h6,aA (.inr (.inr h6))]
  rw[aw h6,aw (show¬(d.N.length≠d.F.length∨d.st<0∨(d.F.length:Int)≤d.st) by omega)];refine bs h ?_;split<;>rfl
 ·rw[aw (show¬(d.N.length:Int)=(d.F.length:Int) by omega),aA (.inl h4)]
end
def sH (r:List Nat):List Int:=r.map fun q:Nat=>(q:Int)
theorem aeH (r:List Nat) (i:Nat):(sH r).getD i 0=((r.getD i 0:Nat):Int):=by
 unfold sH;by_cases h:i<r.length
 ·rw[cE h,cE (by simpa using h)];simp
 ·simp[List.getElem?_eq_none (Nat.le_of_not_lt h)]
def Da.df (a:Da):Df:=⟨a.L,a.st,a.F,a.N.map sH⟩
theorem Da.Ok.arV {a:Da} (h:a.Ok):a.df.Ok:=by
 have h1:=h.l6;have h2:=h.s;have h3:=h.dy;have h4:=h.nN;unfold Da.n at*
 refine ⟨by simp only[Da.df];omega,by simp only[Da.df];omega,by simp only[Da.df];omega,by simp only[Da.df];omega,by simp only[Da.df];unfold maxLen;omega,by simp only[Da.df,dH];unfold maxLen;omega,fun r hr=> ?_⟩;obtain ⟨r,qC,rfl⟩:=iB.1 hr;have:=h.row r qC;refine ⟨by simp only[sH,dH];unfold maxLen;omega,fun q hq=> ?_⟩;obtain ⟨q,vA,rfl⟩:=iB.1 hq;have:=this.2 q vA;unfold Da.n at this;omega
theorem Da.Ok.val {a:Da} (h:a.Ok):a.df.val=0:=by
 have h0:=h.l1;have h1:=h.l6;have h2:=h.s;have h3:=h.dy;have h4:=h.nN;unfold Da.n at*
 unfold Df.val;rw[aw (by simp only[Da.df];omega),aw (by simp only[Da.df];omega),aw (by simp only[Da.df,dH];omega),aA];intro q hq;simp only[Da.df,dH] at hq;have e:a.df.N.getD q []=sH (a.N.getD q []):=by simp[Da.df,hq]
 have hr:=h.row (a.N.getD q []) (by rw[show a.N.getD q []=a.N[q] by simp[hq]];exact dd hq);unfold Df.wc;rw[e];refine ⟨by simp only[sH,dH,Da.df];omega,fun i hi=> ?_⟩;rw[sH,dH] at hi;have:=hr.2 ((a.N.getD q [])[i]) (dd hi);unfold Df.rR;rw[aeH,cE hi];simp only[Da.df];unfold Da.n at this;omega
def tab {α:Type} (n:Nat) (g:Nat→α):List α:=(List.range n).map g
section
variable {α β:Type} {n i:Nat} {g h:Nat→α}
@[simp] theorem eW:(tab n g).length=n:=by simp[tab]
theorem mj (hi:i<n):(tab n g)[i]? =some (g i):=by simp[tab,hi]
theorem xn (hi:i<n) {z:α}:(tab n g).getD i z=g i:=by simp[tab,hi]
theorem U8 (hi:i<(tab n g).length):(tab n g)[i]=g i:=by simp[tab]
theorem dg (e: ∀j,j<n→g j=h j):tab n g=tab n h:=oB fun j hj=>e j (fQ.1 hj)
theorem lH {v:α}:(tab n g).set i v=tab n fun j=>if j=i then v else g j:=by
 refine rX (by simp) fun j h1 h2=> ?_;rw[List.getElem_set,U8,U8];simp only[eq_comm]
theorem arW:tab n g++[g n]=tab (n+1) g:=by simp[tab,D6]
theorem NH:tab (n+1) g=tab n g++[g n]:=arW.symm
theorem oK {v:α}:List.replicate n v=tab n fun _=>v:=by simp[tab,List.map_const']
theorem arX {f:α→β}:(tab n g).map f=tab n fun i=>f (g i):=by simp[tab,Function.comp]
theorem aeI (l:List α) (z:α):l=tab l.length fun i=>l.getD i z:=by
 refine rX (by simp) fun j h1 h2=> ?_;rw[U8];simp[h1]
theorem Af (l:List α) (z:α) {f:α→β}:l.map f=tab l.length fun i=>f (l.getD i z):=by
 rw[←arX,←aeI]
theorem KR {a:α}:a∈tab n g↔∃i,i<n∧g i=a:=by simp[tab]
end
section
variable {γ:Type} {n i:Nat} {g:Nat→V}
theorem qo (hi:i<n):idx (tab n g) (i:Int)=some (g i):=by rw[Ch rfl,mj hi]
theorem mq (hi:i<n) {K:V→Option γ}:(bif (decide (0≤(i:Int)))&&(decide ((i:Int)<((tab n g).length:Int))) then ((tab n g)[((i:Int)).toNat]?).bind K else none)=K (g i):=by
 rw[Int.toNat_natCast,mj hi,kb.2 ⟨cg (by omega),cg (by rw[eW];omega)⟩];rfl
theorem ca {es:List V} {v:V} (hi:es[i]? =some v) {K:V→Option γ}:(bif (decide (0≤(i:Int)))&&(decide ((i:Int)<(es.length:Int))) then (es[((i:Int)).toNat]?).bind K else none)=K v:=by
 have hl:i<es.length:=by
  rcases jR i es.length with h|h
  ·exact h
  ·rw[List.getElem?_eq_none h] at hi;cases hi
 rw[Int.toNat_natCast,hi,kb.2 ⟨cg (by omega),cg (by omega)⟩];rfl
theorem oJ {m:Nat} (hi:i<m):((decide (0≤(i:Int)))&&(decide ((i:Int)<(m:Int))))=true:=kb.2 ⟨cg (by omega),cg (by omega)⟩
end
theorem cap {a b m:Nat} (h:a+b≤10000000) (hm:m≤1000):Nat.ble ((a+b)*m) ba=true:=by
 rw[gb,QL];have:=Nat.mul_le_mul h hm;omega
theorem gD {n m:Nat} (h:n≤10000000) (hm:m≤1000):((decide (0≤(n:Int)))&&((decide ((n:Int)≤(n:Int)))&&(Nat.ble (((n:Int).toNat)*m) ba)))=true:=by
 have h2:=Nat.mul_le_mul h hm;rw[Int.toNat_natCast];refine kb.2 ⟨cg (by omega),kb.2 ⟨cg (by omega),?_⟩⟩;rw[gb,QL];omega
theorem br {i:Nat} (h:i≤1000000000):wrap .i64 ((i:Int)+1)=((i+1:Nat):Int):=by rw[rD];omega
theorem bm {i n:Nat} (h:i<n):decide ((i:Int)<(n:Int))=true:=cg (by omega)
theorem aZ {i n:Nat} (h:n≤i):decide ((i:Int)<(n:Int))=false:=cX (by omega)
section
variable {X R:Type} {step:X→Option (X ⊕ R)}
theorem fH (n:Nat) (s:Nat→X) (r:R) (h: ∀i,i<n→step (s i)=some (.inl (s (i+1)))) (he:step (s n)=some (.inr r)):Loop step (s 0)=some r:=amX s n h he
theorem lG (P:Nat→X→Prop) (Q:R→Prop): ∀(n k:Nat) (x:X),(∀i,k≤i→i<k+n→∀x,P i x→∃y,step x=some (.inl y)∧P (i+1) y)→(∀x,P (k+n) x→∃r,step x=some (.inr r)∧Q r)→P k x→∃r,Loop step x=some r∧Q r
 | 0,k,x,_,he,hx=>by
  obtain ⟨r,h1,h2⟩:=he x hx;exact ⟨r,kg h1,h2⟩
 | n+1,k,x,h,he,hx=>by
  obtain ⟨y,h1,h2⟩:=h k (az _) (by omega) x hx;obtain ⟨r,h3,h4⟩:=lG P Q n (k+1) y (fun i hi hn=>h i (by omega) (by omega)) (by rw[show k+1+n=k+(n+1) by omega];exact he) h2;exact ⟨r,(iM h1).trans h3,h4⟩
theorem arY (bad:Nat→Bool) (n:Nat) (s:Nat→X) (r1:Nat→R) (r2:R) (h: ∀i,i<n→step (s i)=some (if bad i=true then .inr (r1 i) else .inl (s (i+1)))) (he:step (s n)=some (.inr r2)):
  (∃i,i<n∧bad i=true∧(∀j,j<i→bad j=false)∧Loop step (s 0)=some (r1 i))∨((∀i,i<n→bad i=false)∧Loop step (s 0)=some r2):=by
 have go: ∀(d k:Nat),k+d=n→(∀j,j<k→bad j=false)→Loop step (s 0)=Loop step (s k)→(∃i,i<n∧bad i=true∧(∀j,j<i→bad j=false)∧Loop step (s 0)=some (r1 i))∨((∀i,i<n→bad i=false)∧Loop step (s 0)=some r2):=by
  intro d
  induction d with
  | zero=>
   intro k hk hb e;obtain rfl:k=n:=by omega
   exact .inr ⟨hb,e.trans (kg he)⟩
  | succ d ih=>
   intro k hk hb e;have h1:=h k (by omega);cases vM:bad k with
   | true=>
    rw[aA vM] at h1;exact .inl ⟨k,by omega,vM,hb,e.trans (kg h1)⟩
   | false=>
    rw[aw (by rw[vM];simp)] at h1;refine ih (k+1) (by omega) (fun j hj=> ?_) (e.trans (iM h1));rcases jR j k with c|c
    ·exact hb j c
    ·rw[show j=k by omega];exact vM
 exact go n 0 (by omega) (fun j hj=>by omega) rfl
end
noncomputable def HF (C:af) (w:List UInt8) (aT t18 t19:Int) {β:Type} (kn:Int→Option β) (kr:((Bool) ⊕ (Int×Bool))→Option β):Option β:=
 bif decide (t19<t18) then
  (bif decide (0≤t19) then (w[t19.toNat]?).map fun b=>V.int .u8 b.toNat else none).bind fun x1=>
  bif decide ((x1.toInt:Int)<97) then
  kr (.inl false)
  else
  (bif decide (0≤t19) then (w[t19.toNat]?).map fun b=>V.int .u8 b.toNat else none).bind fun x2=>
  bif decide (((wrap .i64 (wrap .u8 (x2.toInt-97))):Int)≥aT) then
   kr (.inl false)
  else
   kn (wrap .i64 (t19+1))
 else
  kr (.inr (t19,decide (t19<t18)))
noncomputable def NI (C:af) (w:List UInt8) (aT t18:Int):=fun t19=>HF C w aT t18 t19 (fun y=>some (Sum.inl y)) (fun r=>some (Sum.inr r))
noncomputable def arZ (C:af):cN:=bL 65 Tx [EQ,EQ,EQ,H1] [[0],[1,2,3,0,0]] (@HF C) bM
theorem ar0 (C:af):bD C (arZ C) 15 (Lp [1,1,0,1,0,0] 15):=bN Tx [EQ,EQ,EQ,H1] [[0],[1,2,3,0,0]] (@HF C) (bA av)
noncomputable def aeJ (C:af) (w:List UInt8) (aT:Int):Option LV:=
 bif decide (aT<1) then
  some [.bool false]
 else
  bif decide (aT>6) then
  some [.bool false]
  else
  bif decide ((w.length:Int)>2048) then
   some [.bool false]
  else
   (Loop (NI C w aT (w.length:Int)) 0).bind (fJ (fun (jN:Bool)=>
    some [.bool jN]) (un fun (mf:Int) (lF:Bool)=>
    some [.bool true]))
theorem ar1 {w:List UInt8} {aT:Int} {r:Option LV} (h:aeJ CC w aT=r):CC B0 [.str w,V.int .i64 aT]=r:=bO (bE (ar0 CC) av) h
def kY (w:List UInt8) (i:Nat):Int:=((w.getD i 0).toNat:Int)-97
def oh (w:List UInt8) (L:Int):Prop:=1≤L∧L≤6∧w.length≤2048∧∀i,i<w.length→0≤kY w i∧kY w i<L
instance (w:List UInt8) (L:Int):Decidable (oh w L):=by unfold oh;infer_instance
theorem aeK {w:List UInt8} {i:Nat} (h:i<w.length):(bif decide (0≤(i:Int)) then (w[((i:Nat):Int).toNat]?).map (fun b=>V.int .u8 b.toNat) else none)=some (.int .u8 ((w.getD i 0).toNat:Int)):=by
 rw[ui,da,Int.toNat_natCast];simp[h]
theorem aeL (b:UInt8):b.toNat<256:=b.toNat_lt
theorem aeM {w:List UInt8} {i:Nat} (h:0≤kY w i):wrap .u8 (((w.getD i 0).toNat:Int)-97)=kY w i:=by
 have:=aeL (w.getD i 0);unfold kY at*
 exact abD h (by omega)
theorem ar2 {w:List UInt8} {i:Nat}:kY w i<256:=by
 have:=aeL (w.getD i 0);unfold kY;omega
theorem ar3 {w:List UInt8} {L:Int} (hl:w.length≤2048):Loop (NI CC w L (w.length:Int)) 0=some (if∀i,i<w.length→0≤kY w i∧kY w i<L then .inr ((w.length:Int),false) else .inl false):=by
 refine US (good:=fun i=>0≤kY w i∧kY w i<L) w.length (fun i=>(i:Int)) (Sum.inl false:Bool ⊕ (Int×Bool)) (Sum.inr ((w.length:Int),false)) (fun i hi=> ?_) ?_
 ·simp only[NI,HF,un];rw[ui,da,aeK hi];simp only[Option.bind_some,V.toInt_int,ui];by_cases h1:0≤kY w i
  ·have pn:=h1;unfold kY at pn;rw[dm,aeM h1,wrap64 (by omega) (by have:= @ar2 w i;omega)];by_cases h2:kY w i<L
   ·rw[dm,aA ⟨h1,h2⟩,rD];simp
   ·rw[da,aw (fun h=>h2 h.2)]
  ·have pn:=h1;unfold kY at pn;rw[da,aw (fun h=>h1 h.1)]
 ·simp only[NI,HF,un];rw[ui,dm];simp
theorem Qo (w:List UInt8) (L:Int):CC B0 [.str w,.int .i64 L]=some [.bool (decide (oh w L))]:=by
 refine ar1 ?_;unfold aeJ;simp only[ui];by_cases h1:L<1
 ·rw[aA h1,cX (fun h=>by have:=h.1;omega)]
 rw[aw h1];by_cases h2:L>6
 ·rw[aA h2,cX (fun h=>by have:=h.2.1;omega)]
 rw[aw h2];by_cases h3:(w.length:Int)>2048
 ·rw[aA h3,cX (fun h=>by have:=h.2.2.1;omega)]
 rw[aw h3,ar3 (by omega)];by_cases h4: ∀i,i<w.length→0≤kY w i∧kY w i<L
 ·rw[aA h4,cg (show oh w L from ⟨by omega,by omega,by omega,h4⟩)];simp[fJ,un]
 ·rw[aw h4,cX (fun h=>h4 h.2.2.2)];simp[fJ,un]
noncomputable def HG (C:af) (w:List UInt8) (t30 bG bU:Int) (gM gp:LV) (state t31:Int) {β:Type} (kn:(Int×Int)→Option β) (kr:(Int×Int×Bool)→Option β):Option β:=
 bif decide (t31<t30) then
  (idx gp state).bind fun x3=>
  (bif decide (0≤t31) then (w[t31.toNat]?).map fun b=>V.int .u8 b.toNat else none).bind fun x4=>
  (idx x3.toList (wrap .u8 (x4.toInt-97))).bind fun x5=>
  kn (x5.toInt,wrap .i64 (t31+1))
 else
  kr (state,t31,decide (t31<t30))
noncomputable def NJ (C:af) (w:List UInt8) (t30 bG bU:Int) (gM gp:LV):=un fun state t31=>HG C w t30 bG bU gM gp state t31 (fun y=>some (Sum.inl y)) (fun r=>some (Sum.inr r))
noncomputable def ar4 (C:af):cN:=bL 65 Tz [H1,EQ,EQ,H1,EQ,EQ,EQ,EQ] [[0,2,3,0,0,5,6,7,8]] (@HG C) bM
theorem ar5 (C:af):bD C (ar4 C) 16 (Lp [1,1,0,1,0,0] 16):=bN Tz [H1,EQ,EQ,H1,EQ,EQ,EQ,EQ] [[0,2,3,0,0,5,6,7,8]] (@HG C) (bA av)
noncomputable def aeN (C:af) (cw cJ:Int) (b9 cK:LV) (state:Int) (w:List UInt8):Option LV:=
 (C sC [V.int .i64 cw,V.int .i64 cJ,.list ar b9,.list ag cK]).bind fun r1=>
 bif (((V.nth r1 0).toInt):Int) != 0 then
  some [V.int .i64 (-1)]
 else
  bif decide (state<0) then
  some [V.int .i64 (-1)]
  else
  bif decide (state≥(b9.length:Int)) then
   some [V.int .i64 (-1)]
  else
   (C B0 [.str w,V.int .i64 cw]).bind fun r2=>
   bif !((V.nth r2 0).toBool) then
   some [V.int .i64 (-1)]
   else
   (Loop (NJ C w (w.length:Int) cw cJ b9 cK) (state,0)).bind (un fun ar6=>un fun (nu:Int) (vr:Bool)=>
    some [V.int .i64 ar6])
theorem ar7 {cw cJ:Int} {b9 cK:LV} {state:Int} {w:List UInt8} {r:Option LV} (h:aeN CC cw cJ b9 cK state w=r):CC FC [V.int .i64 cw,V.int .i64 cJ,.list ar b9,.list ag cK,V.int .i64 state,.str w]=r:=bO (bE (ar5 CC) av) h
def qP (L:Nat) (f:Nat→Nat):V:= .list ab (tab L fun x=>iV (f x))
def Da.ec (a:Da):List V:=tab a.n fun q=>V.bool (a.fin q)
def Da.eD (a:Da):List V:=tab a.n fun q=>qP a.L (a.nx q)
@[simp] theorem Da.B3 {a:Da}:a.ec.length=a.n:=by simp[Da.ec]
@[simp] theorem Da.ar8 {a:Da}:a.eD.length=a.n:=by simp[Da.eD]
@[simp] theorem HH {L:Nat} {f:Nat→Nat}:(qP L f).toList=tab L fun x=>iV (f x):=by simp[qP]
def rC (a:Da) (l:List V):List V:= .int .i64 a.L:: .int .i64 a.st:: .list ar a.ec:: .list ag a.eD::l
def fI (a:Da):List V:=rC a []
theorem Da.Ok.leaves {a:Da} (h:a.Ok) (l:List V):FA a.df l=rC a l:=by
 unfold FA rC;have e1:a.df.F.map V.bool=a.ec:=Af _ false;have e2:a.df.N.map tK=a.eD:=by
  unfold Da.eD;rw[Af _ [],show a.df.N.length=a.n by simp[Da.df,h.nN]];refine dg fun q hq=> ?_;have dD:q<a.N.length:=by rw[h.nN];exact hq
  unfold tK qP;rw[show a.df.N.getD q []=sH (a.N.getD q []) by simp[Da.df,dD],Af _ 0];have hl:(sH (a.N.getD q [])).length=a.L:=by simp only[sH,dH];exact Da.U0 h hq
  rw[hl];exact congrArg _ (dg fun x _=>by rw[aeH];rfl)
 rw[e1,e2];rfl
theorem Da.U9 {a:Da} {q:Nat} (hq:q<a.n):idx a.ec (q:Int)=some (.bool (a.fin q)):=qo hq
theorem Da.NK {a:Da} {q:Nat} (hq:q<a.n):idx a.eD (q:Int)=some (qP a.L (a.nx q)):=qo hq
theorem HI {L x:Nat} {f:Nat→Nat} (hx:x<L):idx (tab L fun x=>iV (f x)) (x:Int)=some (iV (f x)):=qo hx
theorem sF {a:Da} (h:a.Ok):CC sC (fI a)=some [.int .i64 0]:=by
 have:=arU h.arV;rwa [h.val,h.leaves] at this
def lets (w:List UInt8):List Nat:=w.map fun b=>b.toNat-97
theorem DC {w:List UInt8}:(lets w).length=w.length:=by simp[lets]
theorem aeO {w:List UInt8} {i:Nat} (hi:i<w.length) (h:0≤kY w i):(((lets w).getD i 0:Nat):Int)=kY w i:=by
 unfold lets kY at*
 rw[cE (by simpa using hi),cE hi] at*
 simp only[A3];omega
theorem oh.WL {w:List UInt8} {L:Nat} (h:oh w (L:Int)):WL L (lets w):=fun x hx=>by
 obtain ⟨i,hi,rfl⟩:=List.getElem_of_mem hx;rw[DC] at hi;obtain ⟨h1,h2⟩:=h.2.2.2 i hi;have:=aeO hi h1;rw[cE (by rw[DC];exact hi)] at this;omega
theorem ar9 {a:Da} {w:List UInt8} {q i:Nat} (hi:i<w.length):a.run q ((lets w).take (i+1))=a.nx (a.run q ((lets w).take i)) ((lets w).getD i 0):=by
 rw[D5 (by rw[DC];exact hi),Da.KN,cE (by rw[DC];exact hi)];rfl
theorem asa {w:List UInt8} {L i:Nat} (hw:oh w (L:Int)) (hi:i<w.length):(lets w).getD i 0<L:=hw.WL _ (by rw[cE (by rw[DC];exact hi)];exact dd _)
section
variable {a:Da} (h:a.Ok) {w:List UInt8} (hw:oh w (a.L:Int)) {q:Nat} (hq:q<a.n)
include h hw hq
theorem asb {i:Nat}:a.run q ((lets w).take i)<a.n:=h.qt _ hq fun x hx=>hw.WL x (Jm hx)
theorem asd {x1 x2:Int} {l2:List V}:Loop (NJ CC w (w.length:Int) x1 x2 l2 a.eD) ((q:Int),0)=some ((a.run q (lets w):Int),(w.length:Int),false):=by
 have hl:w.length≤2048:=hw.2.2.1;have e:lets w=(lets w).take w.length:=by rw[List.take_of_length_le (by rw[DC];omega)]
 refine (fH w.length (fun i=>((a.run q ((lets w).take i):Int),(i:Int))) ((a.run q ((lets w).take w.length):Int),(w.length:Int),false) (fun i hi=> ?_) ?_).trans (by rw[←e])
 ·simp only[NJ,HG,un];refine bT (bm hi) ?_;refine bs (Da.NK (asb h hw hq)) ?_;refine bs (aeK hi) ?_;have h1:=(hw.2.2.2 i hi).1;simp only[V.toInt_int,aeM h1,HH];rw[←aeO hi h1];refine bs (HI (asa hw hi)) ?_;rw[br (by omega),ar9 hi];rfl
 ·simp only[NJ,HG,un];exact bF (aZ (az _)) (by rw[aZ (az _)])
end
theorem YC {a:Da} (h:a.Ok) {q:Nat} (hq:q<a.n) (w:List UInt8):CC FC (rC a [.int .i64 (q:Int),.str w])=some [.int .i64 (if oh w (a.L:Int) then (a.run q (lets w):Int) else-1)]:=by
 refine ar7 ?_;unfold aeN;refine bs (sF h) ?_;refine bF rfl ?_;refine bF (cX (by omega)) ?_;refine bF (cX (by rw[Da.B3];omega)) ?_;refine bs (Qo w a.L) ?_;by_cases hw:oh w (a.L:Int)
 ·rw[aA hw];refine bF (by simp[hw]) ?_;exact bs (asd h hw hq) rfl
 ·rw[aw hw];exact bT (by simp[hw]) rfl
section
variable {α:Type} (ke:α→V)
def fX (i:Nat):List α→List V
 | []=>[]
 | a::S=> .bf [ke a,iV (i:Int)]::fX (i+1) S
where iV (n:Int):V:= .int .i64 n
end
theorem HJ {α:Type} {ke:α→V}: ∀(S:List α) (i:Nat),(fX ke i S).length=S.length
 | [],_=>rfl
 | a::S,i=>by simp[fX,HJ S (i+1)]
section
variable {α:Type} [DecidableEq α] {ke:α→V}
variable (hk: ∀a b,jy (ke a) (ke b)=decide (a=b))
include hk
theorem Va (x:α): ∀(S:List α) (i:Nat),gQ (ke x) (fX ke i S)=decide (x∈S)
 | [],_=>by simp[fX,gQ]
 | a::S,i=>by
  have c: ∀(p q:V),(V.bf [p,q]).comp 0=p:=fun p q=>rfl;rw[fX,gQ,c,hk,Va x S (i+1)];rw[yh];simp
theorem Vb (x:α) (z:V): ∀(S:List α) (i:Nat),x∈S→kK (ke x) (fX ke i S) z= .int .i64 ((i+S.idxOf x:Nat):Int)
 | [],_,h=>by cases h
 | a::S,i,h=>by
  have c: ∀(p q:V),(V.bf [p,q]).comp 0=p:=fun p q=>rfl;have c1: ∀(p q:V),(V.bf [p,q]).comp 1=q:=fun p q=>rfl;rw[fX,kK,c,c1,hk];by_cases e:x=a
  ·subst e;rw[cg rfl];simp[fX.iV]
  ·rw[cX e,cond_false,Vb x z S (i+1) ((fj.1 h).resolve_left e),show (a::S).idxOf x=S.idxOf x+1 from by rw[List.idxOf_cons,show (a==x)=false from qW.2 fun h=>e h.symm];rfl];congr 2;omega
theorem Vc (x:α): ∀(S:List α) (i:Nat),x∉S→jz (ke x) (.int .i64 ((i+S.length:Nat):Int)) (fX ke i S)=fX ke i (S++[x])
 | [],i,_=>by simp[fX,jz,fX.iV]
 | a::S,i,h=>by
  have c: ∀(p q:V),(V.bf [p,q]).comp 0=p:=fun p q=>rfl;have e:x≠a:=fun e=>h (by simp[e]);rw[fX,jz,c,hk,cX e,cond_false,List.cons_append,fX];congr 1;have:=Vc x S (i+1) fun hx=>h (by simp[hx]);rw[←this];simp only[List.length_cons];congr 3;omega
end
theorem ase (a b:Nat):jy (.int .i64 (a:Int)) (.int .i64 (b:Int))=decide (a=b):=by
 simp only[jy,V.cells,qf,wO,Bool.and_true];rw[yh];simp;omega
theorem Vd {n:Nat} (h:n≤1000000000000):gI .i64 (n:Int)=true:=by
 have e1:IntKind.min .i64= -9223372036854775808:=by decide
 have e2:IntKind.max .i64=9223372036854775807:=by decide
 unfold gI;rw[e1,e2];exact kb.2 ⟨cg (by omega),cg (by omega)⟩
theorem asf {α:Type} [DecidableEq α] {S:List α} {a:α}:(di S a).idxOf a=if a∈S then S.idxOf a else S.length:=by
 unfold di;split
 ·rfl
 ·rename_i h;rw[A9,aw h];simp
noncomputable def aeP (C:af) (q x gX gY:Int) (Ag xU:LV):Option LV:=
 (idx xU q).bind fun x1=>
 (idx x1.toList x).bind fun x2=>
 some [V.int .i64 x2.toInt,V.int .i64 gX,V.int .i64 gY,.list ar Ag,.list ag xU]
theorem asg {q x gX gY:Int} {Ag xU:LV} {r:Option LV} (h:aeP CC q x gX gY Ag xU=r):CC vV [V.int .i64 q,V.int .i64 x,V.int .i64 gX,V.int .i64 gY,.list ar Ag,.list ag xU]=r:=bO (L:=bM) av h
noncomputable def aeQ (C:af) (q NL NM:Int) (HK NN:LV):Option LV:=
 (idx HK q).bind fun x1=>
 some [.bool x1.toBool,V.int .i64 NL,V.int .i64 NM,.list ar HK,.list ag NN]
theorem ash {q NL NM:Int} {HK NN:LV} {r:Option LV} (h:aeQ CC q NL NM HK NN=r):CC vW [V.int .i64 q,V.int .i64 NL,V.int .i64 NM,.list ar HK,.list ag NN]=r:=bO (L:=bM) av h
noncomputable def aeR (C:af) (x:Int) (bp:LV):Option LV:=
 bif gI .i64 x&&true then
  bif gI .i64 x&&true then
  bif Nat.ble ((bp.length+([V.int .i64 x]:LV).length)*8) ba then
   some [V.int .i64 (bp.length:Int),.list ab (bp++([V.int .i64 x]:LV)),.list lh (jz (V.int .i64 x) (V.int .i64 (bp.length:Int)) ([]:LV))]
  else none
  else none
 else none
theorem asi {x:Int} {bp:LV} {r:Option LV} (h:aeR CC x bp=r):CC GY [V.int .i64 x,.list ab bp]=r:=bO (L:=bM) av h
noncomputable def aeS (C:af) (x:Int) (bp aO:LV):Option LV:=
 bif gI .i64 x&&true then
  bif !(gQ (V.int .i64 x) aO) then
  bif gI .i64 x&&true then
   bif Nat.ble ((bp.length+([V.int .i64 x]:LV).length)*8) ba then
   some [V.int .i64 (bp.length:Int),.list lh (jz (V.int .i64 x) (V.int .i64 (bp.length:Int)) aO),.list ab (bp++([V.int .i64 x]:LV))]
   else none
  else none
  else
  some [V.int .i64 ((kK (V.int .i64 x) aO (V.int .i64 0)).toInt),.list lh aO,.list ab bp]
 else none
theorem asj {x:Int} {bp aO:LV} {r:Option LV} (h:aeS CC x bp aO=r):CC SL [V.int .i64 x,.list ab bp,.list lh aO]=r:=bO (L:=bM) av h
noncomputable def HL (C:af) (aT i state t36 DD DE bG bU:Int) (aS aF cb cv:LV) (t37 pX pY:Int) (pZ p5 rows aU bC:LV) {β:Type} (kn:(Int×Int×Int×LV×LV×LV×LV×LV)→Option β) (kr:(Int×Bool×Int×Int×LV×LV×LV×LV×LV)→Option β):Option β:=
 bif decide (t37<t36) then
  (C vV [V.int .i64 state,V.int .i64 t37,V.int .i64 pX,V.int .i64 pY,.list ar pZ,.list ag p5]).bind fun r3=>
  (C SL [V.int .i64 ((V.nth r3 0).toInt),.list ab aU,.list lh bC]).bind fun r4=>
  aP rows t37 fun x5=>
  kn (wrap .i64 (t37+1),(V.nth (r3.drop 1) 0).toInt,(V.nth ((r3.drop 1).drop 1) 0).toInt,(V.nth (((r3.drop 1).drop 1).drop 1) 0).toList,(V.nth ((((r3.drop 1).drop 1).drop 1).drop 1) 0).toList,bj rows t37 (V.int .i64 ((V.nth r4 0).toInt)),(V.nth ((r4.drop 1).drop 1) 0).toList,(V.nth (r4.drop 1) 0).toList)
 else
  kr (t37,decide (t37<t36),pX,pY,pZ,p5,rows,aU,bC)
noncomputable def NO (C:af) (aT i state t36 DD DE bG bU:Int) (aS aF cb cv:LV):=un fun t37=>un fun pX=>un fun pY=>un fun pZ=>un fun p5=>un fun rows=>un fun aU bC=>HL C aT i state t36 DD DE bG bU aS aF cb cv t37 pX pY pZ p5 rows aU bC (fun y=>some (Sum.inl y)) (fun r=>some (Sum.inr r))
noncomputable def HM (C:af) (aT DD DE bG bU:Int) (aV aS:LV) (i pX pY:Int) (pZ p5 aF aU bC cb:LV) {β:Type} (kn:(Int×Int×Int×LV×LV×LV×LV×LV×LV)→Option β) (kr:((Int×Int×Int×LV×LV×Int×Int×LV×LV×LV) ⊕ (Int×Bool×Int×Int×LV×LV×LV×LV×LV×LV))→Option β):Option β:=
 bif decide (i<(aF.length:Int)) then
  aP aF i fun x2=>
  bif (decide (0≤aT))&&((decide (aT≤aT))&&(Nat.ble ((aT.toNat)*8) ba)) then
  (Loop (NO C aT i x2.toInt ((List.replicate (aT.toNat) (V.int .i64 0)).length:Int) DD DE bG bU aV aS bC cb) (0,pX,pY,pZ,p5,List.replicate (aT.toNat) (V.int .i64 0),aF,aU)).bind (un fun jY=>un fun (nu:Bool)=>un fun aeT=>un fun aeU=>un fun (aeV:LV)=>un fun (aeW:LV)=>un fun (aeX:LV)=>un fun (DF:LV) (pH:LV)=>
   bif decide ((DF.length:Int)>512) then
    kr (.inl (3,aeT,aeU,aeV,aeW,0,0,([]:LV),([]:LV),([]:LV)))
   else
    bif Nat.ble ((cb.length+([.list ab aeX]:LV).length)*24) ba then
    (C vW [V.int .i64 x2.toInt,V.int .i64 aeT,V.int .i64 aeU,.list ar aeV,.list ag aeW]).bind fun DG=>
    bif Nat.ble ((bC.length+([.bool ((V.nth DG 0).toBool)]:LV).length)*1) ba then
     kn (wrap .i64 (i+1),(V.nth (DG.drop 1) 0).toInt,(V.nth ((DG.drop 1).drop 1) 0).toInt,(V.nth (((DG.drop 1).drop 1).drop 1) 0).toList,(V.nth ((((DG.drop 1).drop 1).drop 1).drop 1) 0).toList,DF,pH,bC++([.bool ((V.nth DG 0).toBool)]:LV),cb++([.list ab aeX]:LV))
    else none
    else none)
  else none
 else
  kr (.inr (i,decide (i<(aF.length:Int)),pX,pY,pZ,p5,aF,aU,bC,cb))
noncomputable def NP (C:af) (aT DD DE bG bU:Int) (aV aS:LV):=un fun i=>un fun pX=>un fun pY=>un fun pZ=>un fun p5=>un fun aF=>un fun aU=>un fun bC cb=>HM C aT DD DE bG bU aV aS i pX pY pZ p5 aF aU bC cb (fun y=>some (Sum.inl y)) (fun r=>some (Sum.inr r))
noncomputable def aeY (C:af):cN:=bL 161 TX [EQ,EQ,EQ,EQ,H1,H1,H1,H1,H1,EQ,EQ,EQ,EQ,H1,EQ,EQ,H1,H1,EQ,EQ] [[1,2,3,4,0,0,0,0,0,0,10,11,12,13,0,15,16,0,0,19,20]] (@HL C) (bL 81 TY [EQ,H1,H1,H1,H1,H1,EQ,EQ,EQ,EQ,EQ,EQ,H1,H1,H1,H1] [[0,0,0,0,0,0,0,0,0,0],[1,0,0,0,0,0,0,7,8,9,10,11,12,0,0,0,0]] (@HM C) bM)
theorem asl (C:af):bD C (aeY C) 67 (Lp [1,1,1,1,0,1,0,0,1,0,0,1,1,0,1,0,0] 67):=bN TX [EQ,EQ,EQ,EQ,H1,H1,H1,H1,H1,EQ,EQ,EQ,EQ,H1,EQ,EQ,H1,H1,EQ,EQ] [[1,2,3,4,0,0,0,0,0,0,10,11,12,13,0,15,16,0,0,19,20]] (@HL C) (bA av)
theorem asm (C:af):bD C (aeY C) 67 (Lp [1,1,1,1,0,1,0,0] 67):=bN TY [EQ,H1,H1,H1,H1,H1,EQ,EQ,EQ,EQ,EQ,EQ,H1,H1,H1,H1] [[0,0,0,0,0,0,0,0,0,0],[1,0,0,0,0,0,0,7,8,9,10,11,12,0,0,0,0]] (@HM C) (bA (bE (asl C) av))
noncomputable def aeZ (C:af) (aT start pX pY:Int) (pZ p5:LV):Option LV:=
 (C GY [V.int .i64 start,.list ab ([]:LV)]).bind fun r1=>
 (Loop (NP C aT 0 0 aT 0 ([]:LV) ([]:LV)) (0,pX,pY,pZ,p5,(V.nth (r1.drop 1) 0).toList,(V.nth ((r1.drop 1).drop 1) 0).toList,([]:LV),([]:LV))).bind (fJ (un fun xp=>un fun td=>un fun we=>un fun (qv:LV)=>un fun (pI:LV)=>un fun asn=>un fun aso=>un fun (uA:LV)=>un fun (vq:LV) (asp:LV)=>
  some [V.int .i64 asn,V.int .i64 aso,V.int .i64 xp,V.int .i64 td,V.int .i64 we,.list ar qv,.list ag pI,.list ar uA,.list ag vq,.list ab asp]) (un fun azr=>un fun (azs:Bool)=>un fun asq=>un fun asr=>un fun (ass:LV)=>un fun (ast:LV)=>un fun (Ve:LV)=>un fun (ae0:LV)=>un fun (Ah:LV) (HN:LV)=>
  some [V.int .i64 aT,V.int .i64 0,V.int .i64 0,V.int .i64 asq,V.int .i64 asr,.list ar ass,.list ag ast,.list ar Ah,.list ag HN,.list ab Ve]))
theorem asu {aT start pX pY:Int} {pZ p5:LV} {r:Option LV} (h:aeZ CC aT start pX pY pZ p5=r):CC ME [V.int .i64 aT,V.int .i64 start,V.int .i64 pX,V.int .i64 pY,.list ar pZ,.list ag p5]=r:=bO (bE (asm CC) av) h
noncomputable def HO (C:af) (t31 gX gY bu bw:Int) (uB aV aS aF aU:LV) (t32:Int) (numbers:LV) {β:Type} (kn:(Int×LV)→Option β) (kr:(Int×Bool×LV)→Option β):Option β:=
 bif decide (t32<t31) then
  aP numbers t32 fun x3=>
  kn (wrap .i64 (t32+1),bj numbers t32 (V.int .i64 (-1)))
 else
  kr (t32,decide (t32<t31),numbers)
noncomputable def NQ (C:af) (t31 gX gY bu bw:Int) (uB aV aS aF aU:LV):=un fun t32 numbers=>HO C t31 gX gY bu bw uB aV aS aF aU t32 numbers (fun y=>some (Sum.inl y)) (fun r=>some (Sum.inr r))
noncomputable def HP (C:af) (t40 gX gY bu bw:Int) (Ai aV aS aF aU:LV) (t41:Int) (numbers:LV) {β:Type} (kn:(Int×LV)→Option β) (kr:(Int×Bool×LV)→Option β):Option β:=
 bif decide (t41<t40) then
  aP Ai t41 fun x7=>
  bif (decide (0≤x7.toInt))&&(decide (x7.toInt<(numbers.length:Int))) then
  (numbers[(x7.toInt:Int).toNat]?).bind fun x8=>
  kn (wrap .i64 (t41+1),bj numbers (x7.toInt) (V.int .i64 t41))
  else none
 else
  kr (t41,decide (t41<t40),numbers)
noncomputable def NR (C:af) (t40 gX gY bu bw:Int) (Ai aV aS aF aU:LV):=un fun t41 numbers=>HP C t40 gX gY bu bw Ai aV aS aF aU t41 numbers (fun y=>some (Sum.inl y)) (fun r=>some (Sum.inr r))
noncomputable def ae1 (C:af):cN:=bL 97 TI [EQ,H1,EQ,EQ,EQ,EQ,EQ,H1,EQ,EQ,EQ,EQ] [[1,0,0,3,4,5,6,7,0,9,10,11,12]] (@HO C) (bL 177 TJ [EQ,H1,EQ,EQ,EQ,EQ,H1,EQ,EQ,EQ,EQ,EQ] [[1,0,0,3,4,5,6,0,8,9,10,11,12]] (@HP C) bM)
theorem asv (C:af):bD C (ae1 C) 46 (Lp [1,1,1,1,0,1,0,0] 46):=bN TI [EQ,H1,EQ,EQ,EQ,EQ,EQ,H1,EQ,EQ,EQ,EQ] [[1,0,0,3,4,5,6,7,0,9,10,11,12]] (@HO C) (bA av)
theorem asw (C:af):bD C (ae1 C) 46 (Lp [1,1,1,1,1,0,1,0,0] 46):=bN TJ [EQ,H1,EQ,EQ,EQ,EQ,H1,EQ,EQ,EQ,EQ,EQ] [[1,0,0,3,4,5,6,0,8,9,10,11,12]] (@HP C) (bA av)
noncomputable def ae2 (C:af) (cw cJ:Int) (b9 cK:LV):Option LV:=
 (C sC [V.int .i64 cw,V.int .i64 cJ,.list ar b9,.list ag cK]).bind fun r1=>
 bif (((V.nth r1 0).toInt):Int) != 0 then
  some [V.int .i64 0,V.int .i64 0,.list ar ([]:LV),.list ag ([]:LV),.list ab ([]:LV)]
 else
  (C ME [V.int .i64 cw,V.int .i64 cJ,V.int .i64 cw,V.int .i64 cJ,.list ar b9,.list ag cK]).bind fun r2=>
  bif (decide (0≤(((V.nth (((r2.drop 3).drop 1).drop 1) 0).toList).length:Int)))&&((decide ((((V.nth (((r2.drop 3).drop 1).drop 1) 0).toList).length:Int)≤(((V.nth (((r2.drop 3).drop 1).drop 1) 0).toList).length:Int)))&&(Nat.ble ((((((V.nth (((r2.drop 3).drop 1).drop 1) 0).toList).length:Int):Int).toNat)*8) ba)) then
  (Loop (NQ C ((List.replicate (((((V.nth (((r2.drop 3).drop 1).drop 1) 0).toList).length:Int):Int).toNat) (V.int .i64 0)).length:Int) 0 0 ((V.nth r2 0).toInt) ((V.nth (r2.drop 1) 0).toInt) ((V.nth ((((r2.drop 3).drop 4).drop 1).drop 1) 0).toList) ([]:LV) ([]:LV) ((V.nth ((r2.drop 3).drop 4) 0).toList) ((V.nth (((r2.drop 3).drop 4).drop 1) 0).toList)) (0,List.replicate (((((V.nth (((r2.drop 3).drop 1).drop 1) 0).toList).length:Int):Int).toNat) (V.int .i64 0))).bind (un fun mf=>un fun (lF:Bool) (asx:LV)=>
   (Loop (NR C (((V.nth ((((r2.drop 3).drop 4).drop 1).drop 1) 0).toList).length:Int) 0 0 ((V.nth r2 0).toInt) ((V.nth (r2.drop 1) 0).toInt) ((V.nth ((((r2.drop 3).drop 4).drop 1).drop 1) 0).toList) ([]:LV) ([]:LV) ((V.nth ((r2.drop 3).drop 4) 0).toList) ((V.nth (((r2.drop 3).drop 4).drop 1) 0).toList)) (0,asx)).bind (un fun wg=>un fun (Vf:Bool) (asy:LV)=>
    some [V.int .i64 ((V.nth r2 0).toInt),V.int .i64 ((V.nth (r2.drop 1) 0).toInt),.list ar ((V.nth ((r2.drop 3).drop 4) 0).toList),.list ag ((V.nth (((r2.drop 3).drop 4).drop 1) 0).toList),.list ab asy]))
  else none
theorem asz {cw cJ:Int} {b9 cK:LV} {r:Option LV} (h:ae2 CC cw cJ b9 cK=r):CC CV [V.int .i64 cw,V.int .i64 cJ,.list ar b9,.list ag cK]=r:=bO (bE (asv CC) (bE (asw CC) av)) h
def nV (q:Nat):V:= .int .i64 (q:Int)
def nS (S:List Nat):List V:=S.map nV
def mS (S:List Nat):List V:=fX nV 0 S
theorem Vg (a b:Nat):jy (nV a) (nV b)=decide (a=b):=ase a b
theorem dE {S:List Nat}:(nS S).length=S.length:=by simp[nS]
theorem xo {S:List Nat} {i:Nat} (h:i<S.length):(nS S)[i]? =some (nV S[i]):=by simp[nS,h]
theorem asA {x:Nat} (hx:x≤1000000):CC GY [nV x,.list ab []]=some [nV 0,.list ab (nS [x]),.list lh (mS [x])]:=by
 refine asi ?_;unfold aeR;rw[Vd (by omega)];exact bT rfl (bT rfl (bT (cap (by simp) (by omega)) rfl))
theorem asB {S:List Nat} {x:Nat} (hx:x≤1000000) (hl:S.length≤1000000):CC SL [nV x,.list ab (nS S),.list lh (mS S)]=some [nV ((di S x).idxOf x),.list lh (mS (di S x)),.list ab (nS (di S x))]:=by
 refine asj ?_;unfold aeS;have e1:=Va Vg x S 0;rw[Vd (by omega)];refine bT rfl ?_;rw[asf];by_cases h:x∈S
 ·refine bF (by rw[show gQ (.int .i64 (x:Int)) (mS S)=true from e1.trans (cg h)];rfl) ?_;have e2:=Vb Vg x (.int .i64 0) S 0 h;rw[show kK (.int .i64 (x:Int)) (mS S) (.int .i64 0)=_ from e2,aA h,dL,show di S x=S by unfold di;rw[aA h]];rfl
 ·refine bT (by rw[show gQ (.int .i64 (x:Int)) (mS S)=false from e1.trans (cX h)];rfl) ?_;refine bT rfl ?_;refine bT (cap (by rw[dE];simp;omega) (by omega)) ?_;have e2:=Vc Vg x S 0 h;rw[dL] at e2;rw[dE,show jz (.int .i64 (x:Int)) (.int .i64 (S.length:Int)) (mS S)=_ from e2,aw h,show di S x=S++[x] by unfold di;rw[aw h]];simp[nS,nV,mS]
theorem asC {a:Da} {q x:Nat} (hq:q<a.n) (hx:x<a.L):CC vV (nV q::nV x::fI a)=some (nV (a.nx q x)::fI a):=by
 refine asg ?_;unfold aeP;refine bs (Da.NK hq) ?_;rw[HH];exact bs (HI hx) rfl
theorem asD {a:Da} {q:Nat} (hq:q<a.n):CC vW (nV q::fI a)=some (.bool (a.fin q)::fI a):=by
 refine ash ?_;unfold aeQ;exact bs (Da.U9 hq) rfl
section
variable {a:Da} (h:a.Ok)
include h
theorem asE {S U:List Nat} {q:Nat} (hq:q<a.n) (hS: ∀s∈S,s<a.n) (hSn:S.length≤1000) (hp:cL a.nx S q a.L <+: U) {i c1 c2:Int} {l1 l2 l3 l4:List V}:
  Loop (NO CC (a.L:Int) i (q:Int) ((List.replicate (((a.L:Nat):Int).toNat) (V.int .i64 0)).length:Int) c1 c2 (a.L:Int) 0 l1 l2 l3 l4) (0,(a.L:Int),(a.st:Int),a.ec,a.eD,List.replicate (((a.L:Nat):Int).toNat) (V.int .i64 0),nS S,mS S)=
   some ((a.L:Int),false,(a.L:Int),(a.st:Int),a.ec,a.eD,(tab a.L fun x=>nV (U.idxOf (a.nx q x))),nS (cL a.nx S q a.L),mS (cL a.nx S q a.L)):=by
 have h6:=h.l6;rw[Int.toNat_natCast,oK,eW];refine (fH a.L (fun x=>((x:Int),(a.L:Int),(a.st:Int),a.ec,a.eD,(tab a.L fun j=>if j<x then nV (U.idxOf (a.nx q j)) else nV 0),nS (cL a.nx S q x),mS (cL a.nx S q x))) _ (fun x hx=> ?_) ?_)
 ·simp only[NO,HL,un,aP,bj];refine bT (bm hx) ?_;refine bs (asC hq hx) ?_;have hT:(cL a.nx S q x).length≤1000000:=by
   have: ∀x,(cL a.nx S q x).length≤S.length+x:=by
    intro x
    induction x with
    | zero=>exact az _
    | succ x ih=>rw[cL,Dy];split<;>omega
   have:=this x;omega
  refine bs (asB (S:=cL a.nx S q x) (by have:=h.my hq hx;have:=h.dy;omega) hT) ?_;refine (mq hx).trans ?_;rw[br (by omega),Int.toNat_natCast,lH];have e:(di (cL a.nx S q x) (a.nx q x)).idxOf (a.nx q x)=U.idxOf (a.nx q x):=(DB ((Dz S q (show x+1≤a.L by omega)).trans hp) Dx).symm;show some (Sum.inl _)=some (Sum.inl _);refine congrArg (fun x=>some (Sum.inl x)) ?_;refine dc rfl (dc rfl (dc rfl (dc rfl (dc rfl (dc ?_ (dc rfl rfl))))));refine dg fun j _=> ?_;by_cases hj:j=x
  ·rw[aA hj,da,hj,←e];rfl
  ·rw[aw hj];by_cases dB:j<x
   ·rw[aA dB,da]
   ·rw[aw dB,dm]
 ·simp only[NO,HL,un,aP,bj];refine bF (aZ (az _)) ?_;rw[aZ (az _)];have:(tab a.L fun j=>if j<a.L then nV (U.idxOf (a.nx q j)) else nV 0)=tab a.L fun j=>nV (U.idxOf (a.nx q j)):=dg fun j hj=>aA hj;rw[this]
theorem asF:CC ME ([nV a.L,nV a.st]++fI a)=some ([nV a.L,nV 0,.int .i64 0]++(fI a++[.list ar a.trim.ec,.list ag a.trim.eD,.list ab (nS (aI a.L a.nx a.st a.n))])):=by
 have h6:=h.l6;have hm:=h.dy;have hd:=h.wb a.n;refine asu ?_;unfold aeZ;refine bs (asA (by have:=h.s;omega)) ?_;have key:Loop (NP CC (a.L:Int) 0 0 (a.L:Int) 0 ([]:List V) ([]:List V)) (0,(a.L:Int),(a.st:Int),a.ec,a.eD,nS [a.st],mS [a.st],([]:List V),([]:List V))=
   some (.inr (((aI a.L a.nx a.st a.n).length:Int),false,(a.L:Int),(a.st:Int),a.ec,a.eD,nS (aI a.L a.nx a.st a.n),mS (aI a.L a.nx a.st a.n),a.trim.ec,a.trim.eD)):=by
  refine (fH (aI a.L a.nx a.st a.n).length (fun i=>((i:Int),(a.L:Int),(a.st:Int),a.ec,a.eD,nS (aI a.L a.nx a.st i),mS (aI a.L a.nx a.st i),(tab i fun j=>V.bool (a.trim.fin j)),(tab i fun j=>qP a.L (a.trim.nx j)))) _ (fun i hi=> ?_) ?_)
  ·have Cv:=U5 hd hi;have hUi:(aI a.L a.nx a.st i)[i]=(aI a.L a.nx a.st a.n)[i]:=(wa (show i≤a.n by omega)).getElem Cv;have hq:(aI a.L a.nx a.st a.n)[i]<a.n:=h.HC _ _ (dd hi);have hlen:(aI a.L a.nx a.st i).length≤512:=lZ (h.wb i) hm;have azt:(aI a.L a.nx a.st (i+1)).length≤512:=lZ (h.wb (i+1)) hm;have sn:=HB hd hi;simp only[NP,HM,un,aP];refine bT (cg (by rw[dE];omega)) ?_;refine (ca (xo Cv)).trans ?_;refine bT (gD (by omega) (by omega)) ?_;rw[hUi];refine bs (asE h hq (h.HC i) (by omega) (U:=aI a.L a.nx a.st a.n) (by rw[←sn];exact wa (by omega))) ?_;rw[←sn];refine bF (cX (by rw[dE];omega)) ?_;refine bT (cap (by rw[eW];simp;omega) (by omega)) ?_;refine bs (asD hq) ?_;refine bT (cap (by rw[eW];simp;omega) (by omega)) ?_;rw[br (by omega),NH,NH];have e1:a.trim.fin i=a.fin (aI a.L a.nx a.st a.n)[i]:=aez hi;have e2:qP a.L (a.trim.nx i)= .list ab (tab a.L fun x=>nV ((aI a.L a.nx a.st a.n).idxOf (a.nx (aI a.L a.nx a.st a.n)[i] x))):=by
    unfold qP;refine congrArg _ (dg fun x hx=> ?_);rw[show a.trim.nx i x=_ from ND hi hx];rfl
   rw[e1,e2];rfl
  ·simp only[NP,HM,un,aP];rw[aeB hd,dE];refine bF (aZ (az _)) ?_;rw[aZ (az _)];have e3:a.trim.n=(aI a.L a.nx a.st a.n).length:=uz;unfold Da.ec Da.eD;rw[e3];rfl
 refine bs key ?_;rfl
end
def oT (U:List Nat) (n:Nat):List V:=tab n fun q=>if q∈U then nV (U.idxOf q) else .int .i64 (-1)
theorem asG {U:List Nat} {n i:Nat} (hU:U.Nodup) (hi:i<U.length):(tab n fun q=>if q∈U.take i then nV (U.idxOf q) else V.int .i64 (-1)).set U[i] (.int .i64 (i:Int))=tab n fun q=>if q∈U.take (i+1) then nV (U.idxOf q) else V.int .i64 (-1):=by
 rw[lH];refine dg fun q _=> ?_;have e:q∈U.take (i+1)↔q∈U.take i∨q=U[i]:=by rw[D5 hi,fb,fL]
 by_cases hq:q=U[i]
 ·rw[aA hq,aA (e.2 (.inr hq)),hq,hU.idxOf_getElem i hi];rfl
 ·rw[aw hq];by_cases h2:q∈U.take i
  ·rw[aA h2,aA (e.2 (.inl h2))]
  ·rw[aw h2,aw fun h3=>(e.1 h3).elim h2 hq]
theorem ae3 {a:Da} (h:a.Ok):CC CV (fI a)=some (fI a.trim++[.list ab (oT (aI a.L a.nx a.st a.n) a.n)]):=by
 have hm:=h.dy;have hU:=h.HC a.n;have hle:=h.wb a.n;refine asz ?_;unfold ae2;refine bs (sF h) ?_;refine bF rfl ?_;refine bs (asF h) ?_;have e0:((V.nth (((([nV a.L,nV 0,V.int .i64 0]++(fI a++[V.list ar a.trim.ec,V.list ag a.trim.eD,V.list ab (nS (aI a.L a.nx a.st a.n))])).drop 3).drop 1).drop 1) 0).toList)=a.ec:=rfl;rw[e0,Da.B3];refine bT (gD (by omega) (by omega)) ?_;rw[Int.toNat_natCast,oK,eW];generalize hUd:aI a.L a.nx a.st a.n=U at*
 have l1: ∀{c1 c2 c3 c4:Int} {s1 s2 s3 s4 s5:List V},Loop (NQ CC (a.n:Int) c1 c2 c3 c4 s1 s2 s3 s4 s5) (0,tab a.n fun _=>V.int .i64 0)=some ((a.n:Int),false,tab a.n fun q=>if q∈U.take 0 then nV (U.idxOf q) else V.int .i64 (-1)):=by
  intro c1 c2 c3 c4 s1 s2 s3 s4 s5;refine (fH a.n (fun i=>((i:Int),(tab a.n fun j=>if j<i then V.int .i64 (-1) else V.int .i64 0))) _ (fun i hi=> ?_) ?_)
  ·simp only[NQ,HO,un,aP,bj];refine bT (bm hi) ?_;refine (mq hi).trans ?_;rw[br (by omega),Int.toNat_natCast,lH];refine congrArg (fun x=>some (Sum.inl (((i+1:Nat):Int),x))) (dg fun j _=> ?_);by_cases hj:j=i
   ·rw[aA hj,da]
   ·rw[aw hj];by_cases dB:j<i
    ·rw[aA dB,da]
    ·rw[aw dB,dm]
  ·simp only[NQ,HO,un,aP,bj];refine bF (aZ (az _)) ?_;rw[aZ (az _)];refine congrArg (fun x=>some (Sum.inr ((a.n:Int),false,x))) (dg fun j hj=> ?_);rw[aA hj,List.take_zero,aw (by simp)]
 refine bs l1 ?_;simp only[un];have hUn:U.Nodup:=by rw[←hUd];exact DA _
 have l2: ∀{c1 c2 c3 c4:Int} {s2 s3 s4 s5:List V},Loop (NR CC ((nS U).length:Int) c1 c2 c3 c4 (nS U) s2 s3 s4 s5) (0,tab a.n fun q=>if q∈U.take 0 then nV (U.idxOf q) else V.int .i64 (-1))=some ((U.length:Int),false,oT U a.n):=by
  intro c1 c2 c3 c4 s2 s3 s4 s5;rw[dE];refine (fH U.length (fun i=>((i:Int),(tab a.n fun q=>if q∈U.take i then nV (U.idxOf q) else V.int .i64 (-1)))) _ (fun i hi=> ?_) ?_)
  ·have hq:=hU U[i] (dd hi);simp only[NR,HP,un,aP,bj];refine bT (bm hi) ?_;refine (ca (xo hi)).trans ?_;refine (mq (i:=U[i]) hq).trans ?_;rw[br (by omega)];refine congrArg (fun x=>some (Sum.inl (((i+1:Nat):Int),x))) ?_;exact asG hUn hi
  ·simp only[NR,HP,un,aP,bj];refine bF (aZ (az _)) ?_;rw[aZ (az _),uJ];rfl
 refine bs l2 ?_;rfl
noncomputable def HQ (C:af) (f t13:LV) (t14 t15:Int) {β:Type} (kn:Int→Option β) (kr:((Bool) ⊕ (Int×Bool))→Option β):Option β:=
 bif decide (t15<t14) then
  (idx t13 t15).bind fun x1=>
  bif decide ((x1.toInt:Int)<0) then
  kr (.inl false)
  else
  bif decide ((x1.toInt:Int)≥(f.length:Int)) then
   kr (.inl false)
  else
   kn (wrap .i64 (t15+1))
 else
  kr (.inr (t15,decide (t15<t14)))
noncomputable def Vh (C:af) (f t13:LV) (t14:Int):=fun t15=>HQ C f t13 t14 t15 (fun y=>some (Sum.inl y)) (fun r=>some (Sum.inr r))
noncomputable def asH (C:af):cN:=bL 65 Ux [EQ,EQ,EQ,H1] [[0],[1,2,3,0,0]] (@HQ C) bM
theorem asI (C:af):bD C (asH C) 131 (Lp [1,1,0,1,0,0] 131):=bN Ux [EQ,EQ,EQ,H1] [[0],[1,2,3,0,0]] (@HQ C) (bA av)
noncomputable def ae4 (C:af) (f:LV):Option LV:=
 bif decide ((f.length:Int)<1) then
  some [.bool false]
 else
  bif decide ((f.length:Int)>32) then
  some [.bool false]
  else
  (Loop (Vh C f f (f.length:Int)) 0).bind (fJ (fun (Aj:Bool)=>
   some [.bool Aj]) (un fun (jN:Int) (mf:Bool)=>
   some [.bool true]))
theorem asJ {f:LV} {r:Option LV} (h:ae4 CC f=r):CC C8 [.list ab f]=r:=bO (bE (asI CC) av) h
noncomputable def HR (C:af) (t14 t15:Int) (fs:LV) {β:Type} (kn:(Int×LV)→Option β) (kr:(Int×Bool×LV)→Option β):Option β:=
 bif decide (t15<t14) then
  aP fs t15 fun x1=>
  kn (wrap .i64 (t15+1),bj fs t15 (V.int .i64 t15))
 else
  kr (t15,decide (t15<t14),fs)
noncomputable def Vi (C:af) (t14:Int):=un fun t15 fs=>HR C t14 t15 fs (fun y=>some (Sum.inl y)) (fun r=>some (Sum.inr r))
noncomputable def asK (C:af):cN:=bL 81 Uy [EQ,H1,H1] [[1,0,0,0]] (@HR C) bM
theorem asL (C:af):bD C (asK C) 133 (Lp [1,1,1,0,1,0,0] 133):=bN Uy [EQ,H1,H1] [[1,0,0,0]] (@HR C) (bA av)
noncomputable def ae5 (C:af) (n:Int):Option LV:=
 bif decide (n<1) then
  some [.list ab ([]:LV)]
 else
  bif decide (n>32) then
  some [.list ab ([]:LV)]
  else
  bif (decide (0≤n))&&((decide (n≤n))&&(Nat.ble ((n.toNat)*8) ba)) then
   (Loop (Vi C ((List.replicate (n.toNat) (V.int .i64 0)).length:Int)) (0,List.replicate (n.toNat) (V.int .i64 0))).bind (un fun Aj=>un fun (jN:Bool) (asM:LV)=>
    some [.list ab asM])
  else none
theorem asN {n:Int} {r:Option LV} (h:ae5 CC n=r):CC MQ [V.int .i64 n]=r:=bO (bE (asL CC) av) h
noncomputable def HS (C:af) (g t26:LV) (t27 t28:Int) (HT:LV) {β:Type} (kn:(Int×LV)→Option β) (kr:(Int×Bool×LV)→Option β):Option β:=
 bif decide (t28<t27) then
  (idx t26 t28).bind fun x3=>
  (idx g x3.toInt).bind fun x4=>
  aP HT t28 fun x5=>
  kn (wrap .i64 (t28+1),bj HT t28 (V.int .i64 x4.toInt))
 else
  kr (t28,decide (t28<t27),HT)
noncomputable def Vj (C:af) (g t26:LV) (t27:Int):=un fun t28 HT=>HS C g t26 t27 t28 HT (fun y=>some (Sum.inl y)) (fun r=>some (Sum.inr r))
noncomputable def asO (C:af):cN:=bL 81 UA [EQ,EQ,EQ,H1,H1] [[1,2,3,0,0,0]] (@HS C) bM
theorem asP (C:af):bD C (asO C) 135 (Lp [1,1,1,0,1,0,0] 135):=bN UA [EQ,EQ,EQ,H1,H1] [[1,2,3,0,0,0]] (@HS C) (bA av)
noncomputable def ae6 (C:af) (f g:LV):Option LV:=
 bif (f.length:Int) != (g.length:Int) then
  some [.list ab ([]:LV)]
 else
  (C C8 [.list ab f]).bind fun r1=>
  bif !((V.nth r1 0).toBool) then
  some [.list ab ([]:LV)]
  else
  (C C8 [.list ab g]).bind fun r2=>
  bif !((V.nth r2 0).toBool) then
   some [.list ab ([]:LV)]
  else
   bif (decide (0≤(f.length:Int)))&&((decide ((f.length:Int)≤(f.length:Int)))&&(Nat.ble (((f.length:Int).toNat)*8) ba)) then
   (Loop (Vj C g f (f.length:Int)) (0,List.replicate ((f.length:Int).toNat) (V.int .i64 0))).bind (un fun jY=>un fun (nu:Bool) (asQ:LV)=>
    some [.list ab asQ])
   else none
theorem asR {f g:LV} {r:Option LV} (h:ae6 CC f g=r):CC G4 [.list ab f,.list ab g]=r:=bO (bE (asP CC) av) h
noncomputable def HU (C:af) (t9:LV) (t10 t11:Int) (sI:LV) {β:Type} (kn:(Int×LV)→Option β) (kr:(Int×Bool×LV)→Option β):Option β:=
 bif decide (t11<t10) then
  (idx t9 t11).bind fun x1=>
  aP sI t11 fun x2=>
  kn (wrap .i64 (t11+1),bj sI t11 (.int .u8 (wrap .u8 x1.toInt)))
 else
  kr (t11,decide (t11<t10),sI)
noncomputable def Vk (C:af) (t9:LV) (t10:Int):=un fun t11 sI=>HU C t9 t10 t11 sI (fun y=>some (Sum.inl y)) (fun r=>some (Sum.inr r))
noncomputable def asS (C:af):cN:=bL 49 Uz [EQ,EQ,H1,H1] [[1,2,0,0,0]] (@HU C) bM
theorem asT (C:af):bD C (asS C) 134 (Lp [1,1,0,1,0,0] 134):=bN Uz [EQ,EQ,H1,H1] [[1,2,0,0,0]] (@HU C) (bA av)
noncomputable def ae7 (C:af) (f:LV):Option LV:=
 bif (decide (0≤(f.length:Int)))&&((decide ((f.length:Int)≤(f.length:Int)))&&(Nat.ble (((f.length:Int).toNat)*1) ba)) then
  (Loop (Vk C f (f.length:Int)) (0,List.replicate ((f.length:Int).toNat) (V.int .u8 0))).bind (un fun jN=>un fun (mf:Bool) (asU:LV)=>
   some [.str (jU asU)])
 else none
theorem asV {f:LV} {r:Option LV} (h:ae7 CC f=r):CC xL [.list ab f]=r:=bO (bE (asT CC) av) h
end Go.AM
