/-
  Functions of the program, lifted to plain data.
-/
import Derived.Test.YtmdfofkbhepjaaaGreatDoorProg
import Derived.Tactics
import Derived.Tactics2
import Derived.StillTactics
import Derived.Laws.Pointers
import Derived.Lib.LazyBuf
import Derived.RegionTactic
import Derived.LoopTactic
import Derived.WalkKit
import Derived.Laws.Externs
import Derived.Lib.Builder
import Derived.Recover
import Derived.Test.YtmdfofkbhepjaaaGreatDoorRows
import Derived.Lib.LaidTab
import Derived.LaidHandle
import Derived.MakeChecks
import Derived.Lay
import Derived.Test.YtmdfofkbhepjaaaGreatDoorP4
set_option linter.unusedVariables false
set_option linter.unusedSimpArgs false
set_option linter.unusedSectionVars false
set_option maxRecDepth 100000
namespace Go.AM
open Go.IntKind (wrap)
open Go.Proofs
abbrev QA:FuncId:=3
abbrev KN:FuncId:=4
abbrev KU:FuncId:=5
abbrev xu:FuncId:=6
abbrev yY:FuncId:=7
abbrev xA:FuncId:=8
abbrev zg:FuncId:=9
abbrev Kt:FuncId:=10
abbrev Fy:FuncId:=11
abbrev KM:FuncId:=12
abbrev Md:FuncId:=13
abbrev Me:FuncId:=14
abbrev uB:FuncId:=15
abbrev B4:FuncId:=16
abbrev Qd:FuncId:=17
abbrev Mf:FuncId:=18
abbrev Mg:FuncId:=19
abbrev Mh:FuncId:=20
abbrev CR:FuncId:=21
abbrev Sl:FuncId:=22
abbrev oN:FuncId:=23
abbrev Ky:FuncId:=24
abbrev KJ:FuncId:=25
abbrev KL:FuncId:=26
abbrev Fb:FuncId:=27
abbrev qs:FuncId:=28
abbrev Mi:FuncId:=29
abbrev wc:FuncId:=30
abbrev we:FuncId:=31
abbrev Mj:FuncId:=32
abbrev Kp:FuncId:=33
abbrev qt:FuncId:=34
abbrev Ko:FuncId:=35
abbrev E4:FuncId:=36
abbrev Sm:FuncId:=37
abbrev Sn:FuncId:=38
abbrev So:FuncId:=39
abbrev Sp:FuncId:=40
abbrev CS:FuncId:=41
abbrev Sq:FuncId:=42
abbrev ami:FuncId:=43
abbrev amj:FuncId:=44
abbrev amk:FuncId:=45
abbrev abn:FuncId:=46
abbrev aml:FuncId:=47
abbrev amm:FuncId:=48
abbrev Ks:FuncId:=49
abbrev ze:FuncId:=50
abbrev Gl:FuncId:=51
abbrev CT:FuncId:=52
abbrev Mk:FuncId:=53
abbrev Ml:FuncId:=54
abbrev Gm:FuncId:=55
abbrev BZ:FuncId:=56
abbrev jy:FuncId:=57
abbrev Gn:FuncId:=58
abbrev Gp:FuncId:=59
abbrev amn:FuncId:=60
abbrev amo:FuncId:=61
abbrev Mm:FuncId:=62
abbrev amp:FuncId:=63
abbrev xR:FuncId:=64
abbrev xS:FuncId:=65
abbrev Gq:FuncId:=66
abbrev amq:FuncId:=67
abbrev amr:FuncId:=68
abbrev ams:FuncId:=69
abbrev amt:FuncId:=70
abbrev xT:FuncId:=71
abbrev CU:FuncId:=72
abbrev Mn:FuncId:=73
abbrev wg:FuncId:=74
abbrev wh:FuncId:=75
abbrev Mo:FuncId:=76
abbrev Mp:FuncId:=78
abbrev Mq:FuncId:=79
abbrev BY:FuncId:=80
abbrev CV:FuncId:=81
abbrev CW:FuncId:=82
abbrev CX:FuncId:=83
abbrev Gr:FuncId:=84
abbrev Gs:FuncId:=85
abbrev amu:FuncId:=86
abbrev amv:FuncId:=87
abbrev amw:FuncId:=88
abbrev amx:FuncId:=89
abbrev amy:FuncId:=90
abbrev amz:FuncId:=91
abbrev Sr:FuncId:=92
abbrev CY:FuncId:=93
abbrev amA:FuncId:=94
abbrev xU:FuncId:=95
abbrev CZ:FuncId:=96
abbrev C3:FuncId:=97
abbrev C4:FuncId:=98
abbrev C6:FuncId:=99
abbrev C7:FuncId:=100
abbrev C8:FuncId:=101
abbrev amB:FuncId:=102
abbrev Gt:FuncId:=103
abbrev Mr:FuncId:=104
abbrev Ms:FuncId:=105
abbrev Gu:FuncId:=106
abbrev Mt:FuncId:=107
abbrev gg:FuncId:=108
abbrev nt:FuncId:=109
abbrev lY:FuncId:=110
abbrev Mu:FuncId:=111
abbrev Mv:FuncId:=112
abbrev Gv:FuncId:=113
abbrev Mw:FuncId:=114
abbrev Gw:FuncId:=115
abbrev Gx:FuncId:=116
abbrev Gy:FuncId:=117
abbrev Mx:FuncId:=118
abbrev abo:FuncId:=119
abbrev fI:FuncId:=120
abbrev C9:FuncId:=121
abbrev Gz:FuncId:=122
abbrev My:FuncId:=123
abbrev xV:FuncId:=124
abbrev GA:FuncId:=125
abbrev GB:FuncId:=126
abbrev amC:FuncId:=127
abbrev amD:FuncId:=128
abbrev amE:FuncId:=129
abbrev amF:FuncId:=130
abbrev amG:FuncId:=131
abbrev amH:FuncId:=132
abbrev amI:FuncId:=133
abbrev amJ:FuncId:=134
abbrev Mz:FuncId:=135
abbrev xW:FuncId:=136
abbrev Db:FuncId:=137
abbrev Dc:FuncId:=138
abbrev MA:FuncId:=139
abbrev xX:FuncId:=140
abbrev GC:FuncId:=141
abbrev GD:FuncId:=142
abbrev GF:FuncId:=143
abbrev amK:FuncId:=144
abbrev amL:FuncId:=145
abbrev amM:FuncId:=146
abbrev amN:FuncId:=147
abbrev amO:FuncId:=148
abbrev GG:FuncId:=149
abbrev MB:FuncId:=151
abbrev MC:FuncId:=152
abbrev MD:FuncId:=153
abbrev ME:FuncId:=154
abbrev Ss:FuncId:=155
abbrev MF:FuncId:=156
abbrev zQ:FuncId:=157
abbrev abp:FuncId:=158
abbrev MG:FuncId:=160
abbrev nr:FuncId:=161
abbrev GH:FuncId:=162
abbrev Su:FuncId:=163
abbrev amP:FuncId:=164
abbrev Sv:FuncId:=165
abbrev amQ:FuncId:=166
abbrev amR:FuncId:=167
abbrev amS:FuncId:=168
abbrev amT:FuncId:=169
abbrev zR:FuncId:=170
abbrev amU:FuncId:=171
abbrev amV:FuncId:=173
abbrev amW:FuncId:=174
abbrev amX:FuncId:=175
abbrev amY:FuncId:=176
abbrev amZ:FuncId:=177
abbrev am0:FuncId:=178
abbrev rR:FuncId:=179
abbrev MH:FuncId:=180
abbrev am1:FuncId:=181
abbrev cC:FuncId:=182
abbrev am2:FuncId:=183
abbrev Dd:FuncId:=184
abbrev am3:FuncId:=186
abbrev am4:FuncId:=187
abbrev am5:FuncId:=188
abbrev am6:FuncId:=189
abbrev am7:FuncId:=190
abbrev am8:FuncId:=191
abbrev am9:FuncId:=193
abbrev ana:FuncId:=194
abbrev anb:FuncId:=195
abbrev anc:FuncId:=196
abbrev ane:FuncId:=197
abbrev anf:FuncId:=198
abbrev ang:FuncId:=199
abbrev anh:FuncId:=200
abbrev ani:FuncId:=202
abbrev anj:FuncId:=203
abbrev ank:FuncId:=204
abbrev anl:FuncId:=205
abbrev anm:FuncId:=206
abbrev ano:FuncId:=207
abbrev anp:FuncId:=208
abbrev anq:FuncId:=209
abbrev ab:TypeId:=3
abbrev ak:TypeId:=4
abbrev GI:TypeId:=5
abbrev cu:TypeId:=9
abbrev ag:TypeId:=22
abbrev ov:TypeId:=23
abbrev cv:TypeId:=50
abbrev jV:TypeId:=61
abbrev De:TypeId:=86
abbrev lG:TypeId:=94
abbrev E0:TypeId:=108
abbrev E2:TypeId:=111
abbrev ai:TypeId:=116
abbrev iq:TypeId:=118
abbrev cF:TypeId:=122
abbrev wi:TypeId:=133
abbrev GJ:TypeId:=139
abbrev kQ:TypeId:=144
abbrev jW:TypeId:=178
abbrev GK:TypeId:=202
abbrev eu:TypeId:=225
abbrev bG:TypeId:=238
abbrev Sw:Nat:=231
abbrev Sy:Nat:=232
abbrev gy:Nat:=246
def MI:List V:=[.int .u8 0,.int .u8 1,.int .u8 56,.int .u8 2,.int .u8 57,.int .u8 49,.int .u8 28,.int .u8 3,.int .u8 61,.int .u8 58,.int .u8 42,.int .u8 50,.int .u8 38,.int .u8 29,.int .u8 17,.int .u8 4,.int .u8 62,.int .u8 47,.int .u8 59,.int .u8 36,.int .u8 45,.int .u8 43,.int .u8 51,.int .u8 22,.int .u8 53,.int .u8 39,.int .u8 33,.int .u8 30,.int .u8 24,.int .u8 18,.int .u8 12,.int .u8 5,.int .u8 63,.int .u8 55,.int .u8 48,.int .u8 27,.int .u8 60,.int .u8 41,.int .u8 37,.int .u8 16,.int .u8 46,.int .u8 35,.int .u8 44,.int .u8 21,.int .u8 52,.int .u8 32,.int .u8 23,.int .u8 11,.int .u8 54,.int .u8 26,.int .u8 40,.int .u8 15,.int .u8 34,.int .u8 20,.int .u8 31,.int .u8 10,.int .u8 25,.int .u8 14,.int .u8 19,.int .u8 9,.int .u8 13,.int .u8 8,.int .u8 7,.int .u8 6]
abbrev aa:VS:= .one (.int .i64)
abbrev an:VS:= .one (.bool)
abbrev s9:VS:= .one (.nl ab)
abbrev aR:VS:= .one (.ax 0 0 0)
abbrev cX:VS:= .one (.list ag)
abbrev dt:VS:= .one (.list ab)
abbrev ch:VS:= .one (.ax 1 0 0)
abbrev ta:VS:= .one (.list ak)
abbrev dD:VS:= .one (.list cv)
abbrev iP:VS:= .one (.str)
abbrev cg:VS:= .one (.whole cv 0)
abbrev dg:VS:= .one (.ax 2 0 0)
abbrev mj:VS:= .one (.whole ab 4)
abbrev dP:VS:= .one (.list wi)
abbrev lH:VS:= .one (.whole ab 3)
abbrev anr:VS:= .one (.whole De 3)
abbrev rS:VS:= .one (.list bG)
abbrev Dg:VS:= .one (.whole ag 5)
abbrev pT:VS:= .one (.whole ag 1)
abbrev jl:VS:= .one (.int .u64)
abbrev zS:VS:= .one (.whole ag 6)
abbrev xY:VS:= .one (.whole ag 2)
abbrev kb:VS:= .one (.ax 3 0 0)
abbrev ans:VS:= .one (.whole De 4)
abbrev zT:VS:= .one (.u6)
abbrev zU:VS:= .one (.whole ag 7)
abbrev nF:VS:= .one (.whole ab 0)
abbrev GL:VS:= .one (.cG cF 7)
abbrev tc:VS:= .one (.list ai)
abbrev pU:VS:= .one (.whole ab 1)
abbrev Sz:VS:= .one (.whole ab 10)
abbrev GM:VS:= .one (.list cu)
abbrev SA:VS:= .one (.whole ak 6)
abbrev ant:VS:= .one (.whole ak 5)
abbrev rT:VS:= .one (.ax 5 0 0)
abbrev abq:VS:= .one (.whole ak 4)
abbrev abr:VS:= .one (.whole ak 3)
abbrev wj:VS:= .one (.whole cu 3)
abbrev td:VS:= .one (.ax 4 0 0)
abbrev SB:VS:= .one (.whole ag 8)
abbrev MJ:VS:= .one (.whole ag 9)
abbrev SC:VS:= .one (.whole cu 8)
abbrev SD:VS:= .one (.whole ab 9)
abbrev xZ:VS:= .one (.whole ag 13)
abbrev ya:VS:= .one (.whole ag 12)
abbrev abt:VS:= .one (.whole eu 6)
abbrev GN:VS:= .one (.whole cv 4)
abbrev zV:VS:= .one (.cG cF 3)
abbrev zW:VS:= .one (.whole ab 2)
abbrev abu:VS:= .one (.whole wi 4)
abbrev MK:VS:= .one (.whole cv 1)
abbrev anu:VS:= .one (.whole ag 4)
abbrev GO:VS:= .one (.whole ab 15)
abbrev Dh:VS:= .one (.whole ak 0)
abbrev GP:VS:= .one (.whole ab 16)
abbrev anv:VS:= .one (.whole GI 2)
abbrev anw:VS:= .one (.whole ak 8)
abbrev SF:VS:= .one (.whole ag 11)
abbrev GQ:VS:= .one (.whole ak 11)
abbrev Di:VS:= .one (.whole cv 5)
abbrev SG:VS:= .one (.whole ab 20)
abbrev ML:VS:= .one (.whole ag 14)
abbrev SH:VS:= .one (.whole eu 17)
abbrev Dj:VS:= .one (.whole cv 3)
abbrev anx:VS:= .one (.whole ak 7)
abbrev SJ:VS:= .one (.whole ak 12)
abbrev GR:VS:= .one (.whole ak 10)
abbrev zX:VS:= .one (.whole cv 6)
abbrev SK:VS:= .one (.whole ab 14)
abbrev abv:VS:= .one (.whole ag 18)
abbrev abw:VS:= .one (.whole ak 22)
abbrev abx:VS:= .one (.whole kQ 7)
abbrev anz:VS:= .one (.whole De 5)
abbrev MM:VS:= .one (.whole ag 3)
abbrev aby:VS:= .one (.whole cu 19)
abbrev SL:VS:= .one (.whole ab 17)
abbrev anA:VS:= .one (.whole GI 3)
abbrev MN:VS:= .one (.list GK)
abbrev abz:VS:= .one (.whole ag 10)
abbrev anB:VS:= .one (.whole ak 21)
abbrev anC:VS:= .one (.whole cu 9)
abbrev SM:VS:= .one (.whole ab 12)
abbrev SN:VS:= .one (.whole cv 2)
abbrev abA:VS:= .one (.whole wi 2)
abbrev MO:VS:= .one (.whole ab 11)
abbrev abB:VS:= .one (.whole ab 19)
abbrev abC:VS:= .one (.whole ab 13)
abbrev abD:VS:= .one (.whole ab 18)
abbrev anD:VS:= .one (.whole wi 5)
abbrev Dk:VS:= .one (.int .u8)
abbrev SO:VS:= .one (.whole ab 5)
abbrev SP:VS:= .one (.whole cu 0)
abbrev abE:VS:= .one (.nilS kQ)
abbrev abF:VS:= .one (.whole ag 16)
abbrev abG:VS:= .one (.whole ag 15)
abbrev MP:VS:= .one (.whole wi 0)
abbrev anE:VS:= .one (.whole GI 1)
abbrev anF:VS:= .one (.whole De 0)
abbrev abH:VS:= .one (.whole ak 2)
abbrev MQ:VS:= .one (.whole ab 7)
abbrev SQ:VS:= .one (.whole ab 6)
abbrev anG:VS:= .one (.whole ak 9)
abbrev SR:VS:= .one (.whole iq 2)
abbrev abI:VS:= .one (.cG GJ 2)
abbrev abJ:VS:= .one (.whole ov 6)
abbrev SS:VS:= .one (.whole kQ 8)
abbrev abK:VS:= .one (.whole ak 23)
abbrev SU:VS:= .one (.whole De 2)
abbrev SV:VS:= .one (.whole ai 2)
abbrev anH:VS:= .one (.whole ai 3)
abbrev abL:VS:= .one (.whole E2 0)
abbrev abM:VS:= .one (.whole ag 17)
abbrev abN:VS:= .one (.whole eu 18)
abbrev abO:VS:= .one (.whole ab 21)
abbrev abP:VS:= .one (.whole E0 0)
abbrev anI:VS:= .one (.whole cu 18)
abbrev anJ:VS:= .one (.whole eu 16)
abbrev anK:VS:= .one (.whole cu 17)
abbrev anL:VS:= .one (.whole eu 15)
abbrev anM:VS:= .one (.whole cu 16)
abbrev qK:VS:= .agg [.int .i64,.int .i64,.list cv]
abbrev wk:VS:= .agg [.int .i64,.int .i64,.list ak,.list ag]
abbrev qL:VS:= .agg [.int .i64,.int .i64,.list ai]
abbrev zY:VS:= .agg [.int .i64,.int .i64,.whole ak 0,.whole ag 1]
abbrev zZ:VS:= .agg [.int .i64,.list ag,.list cu,.list ab,.list ak,.list ak]
abbrev Dl:VS:= .agg [.int .i64,.int .i64]
abbrev SW:VS:= .agg [.str]
abbrev abQ:VS:= .agg [.int .i64,.int .i64,.whole ak 1,.whole ag 2]
abbrev GS:VS:= .agg [.int .i64,.int .i64,.list ai,.int .i64,.int .i64,.list ai]
abbrev anN:VS:= .agg [.int .i64,.int .i64,.list cv,.int .i64,.int .i64,.list cv,.bool]
abbrev anO:VS:= .agg [.int .i64,.bool]
abbrev anP:VS:= .agg [.int .i64,.int .i64,.whole cv 0]
abbrev e7:BS:= .var 26 [aa,aa,ta,cX]
abbrev mP:BS:= .var 3 [aa]
abbrev wm:BS:= .var 89 [anr]
abbrev yb:BS:= .var 55 [dt,aa]
abbrev qM:BS:= .var 50 [aa,aa,dD]
abbrev qO:BS:= .var 84 [iP]
abbrev pW:BS:= .var 244 [cX,aa,s9,s9,s9,s9,s9,s9,s9,s9,s9,s9,s9]
abbrev z0:BS:= .var 89 [ans]
abbrev uC:BS:= .var 239 [an,an,an,an,an,an]
abbrev z7:BS:= .var 188 [iP,aa]
abbrev GU:BS:= .var 26 [aa,aa,ant,zS]
abbrev Dm:BS:= .var 26 [aa,aa,SA,zU]
abbrev Dn:BS:= .var 4 [an]
abbrev yc:BS:= .var 26 [aa,aa,abq,Dg]
abbrev te:BS:= .var 68 [aa,cX,GM,dt,ta,ta]
abbrev anQ:BS:= .var 185 [aa,an,pT,xY,lH,mj,Dg,abt,aa,GL,SC,SD,Sz]
abbrev abR:BS:= .var 26 [aa,aa,abr,anu]
abbrev anR:BS:= .var 86 [abu]
abbrev anS:BS:= .var 172 [zT,anv]
abbrev yd:BS:= .var 26 [aa,aa,anw,MJ]
abbrev uD:BS:= .var 116 [aa,aa,tc]
abbrev anT:BS:= .var 24 [cX]
abbrev SX:BS:= .var 26 [aa,aa,anx,SB]
abbrev anU:BS:= .var 89 [anz]
abbrev anV:BS:= .var 207 [ch,rS,rS,cX,mj]
abbrev anW:BS:= .var 207 [ch,rS,rS,cX,lH]
abbrev anX:BS:= .var 172 [zT,anA]
abbrev SY:BS:= .var 68 [aa,abv,aby,SG,anB,abw]
abbrev abS:BS:= .var 101 [pT,abx,aa]
abbrev abT:BS:= .var 68 [aa,SB,anC,Sz,GQ,SJ]
abbrev anY:BS:= .var 22 [mj]
abbrev anZ:BS:= .var 23 [abr]
abbrev SZ:BS:= .var 276 [jl]
abbrev an0:BS:= .var 86 [anD]
abbrev GV:BS:= .var 166 [aa,aa,GN,aa,aa,Di,an]
abbrev an1:BS:= .var 126 [aa,MK,xY,aa,zV]
abbrev an2:BS:= .var 207 [ch,rS,rS,cX,zW]
abbrev an3:BS:= .var 172 [zT,anE]
abbrev MR:BS:= .var 61 [aa,aa]
abbrev abU:BS:= .var 26 [aa,aa,GR,SF]
abbrev MS:BS:= .var 26 [aa,aa,anG,abz]
abbrev an4:BS:= .var 126 [aa,GN,Dg,aa,zV]
abbrev an5:BS:= .var 101 [xY,abE,aa]
abbrev an6:BS:= .var 147 [aa,an,xZ,ML,GO,GP,zS,SH,aa]
abbrev MT:BS:= .var 116 [aa,aa,anH]
abbrev MU:BS:= .var 168 [aa,an]
abbrev an7:BS:= .var 86 [abA]
abbrev abV:BS:= .var 26 [aa,aa,abH,MM]
abbrev an8:BS:= .var 185 [aa,an,ya,xZ,SK,GO,abF,SH,aa,GL,anI,abB,SG]
abbrev an9:BS:= .var 185 [aa,an,SF,ya,abC,SK,abG,anJ,aa,GL,anK,abD,abB]
abbrev S0:BS:= .var 238 [aa,aa]
abbrev aoa:BS:= .var 185 [aa,an,pT,SF,SM,abC,ML,anL,aa,GL,anM,SL,abD]
abbrev aob:BS:= .var 126 [aa,GN,Dg,aa,.one (.cG cF 6)]
abbrev abW:BS:= .var 96 [.one (.whole jV 10),.one (.cG lG 11)]
abbrev aoc:BS:= .var 96 [.one (.whole jV 8),.one (.cG lG 9)]
abbrev abX:BS:= .var 147 [aa,an,ya,xZ,SK,GO,abF,SH,aa]
abbrev abY:BS:= .var 68 [aa,abz,.one (.whole cu 11),SM,.one (.whole ak 13),.one (.whole ak 14)]
abbrev abZ:BS:= .var 147 [aa,an,abG,MJ,GP,SL,abv,.one (.whole eu 19),aa]
abbrev ab0:BS:= .var 68 [aa,.one (.whole ag 20),.one (.whole cu 21),.one (.whole ab 22),abK,.one (.whole ak 24)]
abbrev aod:BS:= .var 147 [aa,an,xZ,ML,GO,GP,abM,abN,aa]
abbrev aoe:BS:= .var 68 [aa,.one (.whole ag 19),.one (.whole cu 20),abO,abw,abK]
abbrev ab1:BS:= .var 111 [iP,an,.one (.whole iq 3),aa,aa]
abbrev aof:BS:= .var 147 [aa,an,xY,MM,mj,SO,zS,.one (.whole eu 7),aa]
abbrev aog:BS:= .var 185 [aa,an,SB,MJ,Sz,MO,ya,.one (.whole eu 13),aa,.one (.cG cF 14),.one (.whole cu 15),GP,SL]
abbrev aY:BS:= .arr ab false
abbrev bh:BS:= .arr ag false
abbrev bQ:BS:= .arr ak false
abbrev dI:BS:= .arr cv false
abbrev jm:BS:= .arr cu false
abbrev oV:BS:= .arr eu false
abbrev ow:BS:= .arr wi false
abbrev GW:BS:= .arr GI false
abbrev wo:BS:= .arr kQ false
abbrev z8:BS:= .arr ag true
abbrev wu:BS:= .arr jV false
abbrev ye:BS:= .arr ai false
abbrev S3:BS:= .arr ab true
abbrev z9:BS:= .arr iq false
abbrev GX:BS:= .arr E0 false
abbrev S4:BS:= .arr E2 false
abbrev S5:BS:= .arr bG false
abbrev iv:BS:= .nest De
abbrev lI:BS:= .nest ag
abbrev S6:BS:= .nest ov
abbrev bw:List BS:=[dI]
abbrev g0:List BS:=[mP]
abbrev ml:List BS:=[aY]
abbrev ox:List BS:=[z7]
abbrev pX:List BS:=[anQ,bh,bh,aY,aY,bh,oV,.map cF,jm,aY,aY]
abbrev qP:List BS:=[e7]
abbrev rU:List BS:=[bQ]
abbrev rV:List BS:=[anR,wm,.dead,iv,ow]
abbrev tf:List BS:=[anS,.dead,GW]
abbrev uE:List BS:=[qO,wm,qM,iv]
abbrev uF:List BS:=[wm,qM,z0,iv,iv]
abbrev uG:List BS:=[anT]
abbrev uH:List BS:=[yb]
abbrev yf:List BS:=[yb,abR,GU,bQ,bh,bQ,lI]
abbrev yg:List BS:=[qO,mP,wm,iv]
abbrev yh:List BS:=[qO,z0,Dn,anU,iv,iv]
abbrev Aa:List BS:=[anV,pW,.dead,aY,aY]
abbrev Ab:List BS:=[anW,pW,.dead,aY]
abbrev Ac:List BS:=[anX,.dead,qM,GW]
abbrev Dp:List BS:=[yb,yc,Dm,aY,bQ,bh,bQ,lI]
abbrev Dq:List BS:=[yb,GU,SX,jm,aY,bQ,bh,bQ,lI]
abbrev Dr:List BS:=[aY,anY,anZ,bQ,S3]
abbrev Ds:List BS:=[.dead,dI]
abbrev Dt:List BS:=[Dn,an0,z0,.dead,iv,ow]
abbrev GY:List BS:=[uC,uC]
abbrev GZ:List BS:=[an1,dI,bh,.map cF]
abbrev G0:List BS:=[an2,pW,aY]
abbrev G1:List BS:=[an3,GW]
abbrev G2:List BS:=[yb,bQ,lI]
abbrev MV:List BS:=[an4,.dead,.dead,.map cF,dI,bh]
abbrev MW:List BS:=[yc,Dm,aY,aY,bQ,bh,bQ,bh]
abbrev MX:List BS:=[an5,e7,lI]
abbrev MY:List BS:=[abS,z8,.dead,abT,an6,SY,bh,wo,bh,jm,aY,bQ,bQ,bh,bh,aY,aY,oV,lI,jm,aY,bQ,bQ]
abbrev MZ:List BS:=[te,abR,GU,bQ,bh,bQ,lI]
abbrev M1:List BS:=[uC,uC,lI]
abbrev M3:List BS:=[dI,SZ]
abbrev M4:List BS:=[an7,wm,ow,iv]
abbrev M5:List BS:=[bQ,bh]
abbrev S7:List BS:=[an8,.dead,.dead,.dead,.dead,.dead,.dead,.map cF,.dead,.dead,.dead,aY,bh,bh,aY,aY,bh,oV,jm,aY,aY]
abbrev S8:List BS:=[an9,.dead,.dead,.dead,.dead,.dead,.dead,.map cF,.dead,.dead,.dead,bh,bh,aY,aY,bh,oV,jm,aY,aY]
abbrev S9:List BS:=[pW,aY,aY]
abbrev Ta:List BS:=[e7,e7,mP]
abbrev Td:List BS:=[aoa,bh,.dead,.dead,.dead,.dead,.dead,.map cF,.dead,.dead,.dead,bh,aY,aY,bh,oV,jm,aY,aY]
abbrev ab2:List BS:=[abV,aob,bQ,bh,dI,bh,.map cF]
abbrev ab3:List BS:=[yb,yc,Dm,jm,bQ,bh,bQ,lI]
abbrev ab4:List BS:=[e7,e7,mP,Dm,aoc,abU,bQ,bh,wu,.map lG,bQ,bh]
abbrev ab5:List BS:=[e7,Dm,yd,aY,aY,abU,bQ,bh,bQ,bh,bQ,bh]
abbrev ab6:List BS:=[Dm,aY,yd,aY,aY,aY,bQ,bh,bQ,bh]
abbrev ab7:List BS:=[abS,z8,.dead,abT,aod,aoe,S6,wo,bh,jm,aY,bQ,bQ,bh,bh,aY,aY,bh,oV,lI,jm,aY,bQ,bQ]
abbrev ab8:List BS:=[aof,aog,bh,bh,aY,aY,bh,oV,bh,bh,aY,aY,bh,oV,.map cF,jm,aY,aY]
abbrev dv:List (Nat×VS):=[(0,aa)]
abbrev dJ:List (Nat×VS):=[(0,an)]
abbrev kf:List (Nat×VS):=[(0,aR)]
abbrev mQ:List (Nat×VS):=[(0,qK)]
abbrev qQ:List (Nat×VS):=[(4,an)]
abbrev wv:List (Nat×VS):=[(2,aa)]
abbrev yi:List (Nat×VS):=[(0,wk)]
abbrev Ad:List (Nat×VS):=[(4,aa)]
abbrev Ae:List (Nat×VS):=[(0,qK),(1,aa)]
abbrev Af:List (Nat×VS):=[(0,cX)]
abbrev Ag:List (Nat×VS):=[(0,cg)]
abbrev Du:List (Nat×VS):=[(0,aR),(1,aa),(2,aa)]
abbrev G3:List (Nat×VS):=[(0,dt)]
abbrev G4:List (Nat×VS):=[(0,aR),(1,aa)]
abbrev G5:List (Nat×VS):=[(0,aa),(1,aa)]
abbrev G6:List (Nat×VS):=[(0,jl)]
abbrev G7:List (Nat×VS):=[(0,abQ)]
abbrev G8:List (Nat×VS):=[(0,anF)]
abbrev G9:List (Nat×VS):=[(0,nF)]
abbrev Ha:List (Nat×VS):=[(0,MK)]
abbrev M6:List (Nat×VS):=[(0,dt),(1,aa)]
abbrev M7:List (Nat×VS):=[(0,dt),(1,dt)]
abbrev M8:List (Nat×VS):=[(0,SW),(1,qK),(2,dP)]
abbrev M9:List (Nat×VS):=[(0,aa),(1,aR),(2,ch),(3,dg)]
abbrev Na:List (Nat×VS):=[(0,anN)]
abbrev Nb:List (Nat×VS):=[(0,anO),(1,qK)]
abbrev Nc:List (Nat×VS):=[(0,anP)]
abbrev Te:List (Nat×VS):=[(0,aa),(1,dD)]
abbrev Tf:List (Nat×VS):=[(0,aa),(1,aR)]
abbrev Tg:List (Nat×VS):=[(0,aa),(1,aR),(2,ch)]
abbrev Th:List (Nat×VS):=[(0,zY),(1,aa)]
abbrev Ti:List (Nat×VS):=[(0,qL),(1,an)]
abbrev ab9:List (Nat×VS):=[(1,aR),(3,aa),(38,cX),(39,aa),(40,aa),(49,dt),(50,aa),(51,aa)]
abbrev aca:List (Nat×VS):=[(1,aR),(3,aa),(38,cX),(39,aa),(40,aa),(49,dt),(50,aa),(51,aa),(52,an)]
abbrev acb:List (Nat×VS):=[(1,aR),(3,aa),(38,cX),(39,aa),(40,aa),(41,an)]
abbrev acd:List (Nat×VS):=[(0,aR),(1,aa),(6,ch),(7,dg),(8,aa),(9,aa)]
abbrev ace:List (Nat×VS):=[(0,aR),(2,pU),(7,dg),(8,aa),(11,rS),(12,aa),(13,aa)]
def Tj:Shape×List (Out×Shape):=(⟨ab9,qP⟩,[(.ret,⟨wv,[]⟩),(.exit 2,⟨aca,qP⟩)])
def Tk:Shape×List (Out×Shape):=(⟨[(1,aR),(3,aa),(38,cX),(39,aa),(40,aa)],qP⟩,[(.ret,⟨wv,[]⟩),(.exit 0,⟨acb,qP⟩)])
abbrev acf:List (Nat×VS):=[(1,aa),(7,aR),(9,pU),(33,aa),(34,aa)]
def Qc:Shape×List (Out×Shape):=(⟨acf,[te,aY]⟩,[(.exit 0,⟨acf++[(35,an)],[te,aY]⟩)])
abbrev acg:List (Nat×VS):=[(0,dt),(1,dt),(12,aa),(13,aa)]
def Tl:Shape×List (Out×Shape):=(⟨acg,[]⟩,[(.ret,⟨qQ,[]⟩),(.exit 0,⟨acg++[(14,an)],[]⟩)])
def Tm:Shape×List (Out×Shape):=(⟨[(4,aR),(7,ch)],ab2⟩,[(.ret,⟨[(4,aR),(5,aa)],[.var 26 [aa,aa,.one (.whole ak 1),xY],bQ,bh]⟩),(.exit 0,⟨[(4,aR),(7,ch),(22,an)],ab2⟩)])
def Qk:Shape×List (Out×Shape):=(⟨[(6,ch),(7,dg),(8,aa),(17,aa),(18,aa),(25,.one (.row ab 3 [0])),(26,aa),(27,aa)],[yb,yc,.var 26 [aa,aa,SA,MM],lI,bQ,bh,bQ]⟩,[(.exit 2,⟨[(6,ch),(7,dg),(8,aa),(17,aa),(18,aa),(25,.one (.row ab 3 [0])),(26,aa),(27,aa),(28,an)],[yb,yc,.var 26 [aa,aa,SA,MM],lI,bQ,bh,bQ]⟩)])
abbrev ach:List (Nat×VS):=[(6,ch),(7,dg),(17,aa),(18,aa)]
def Ql:Shape×List (Out×Shape):=(⟨ach,yf⟩,[(.exit 0,⟨ach++[(19,an)],yf⟩)])
def Qp:Shape×List (Out×Shape):=(⟨acd,yf⟩,[(.exit 0,⟨[(0,aR),(1,aa),(6,ch),(7,dg),(8,aa),(9,aa),(27,an)],yf⟩)])
abbrev aci:List (Nat×VS):=[(0,aR),(1,aa),(6,ch),(7,dg),(8,aa),(10,aa),(11,lH),(12,aa)]
def Qq:Shape×List (Out×Shape):=(⟨aci,Dp⟩,[(.exit 4,⟨aci++[(52,an)],Dp⟩)])
abbrev acj:List (Nat×VS):=[(0,aR),(1,aa),(6,ch),(7,dg),(8,aa),(10,aa),(11,lH),(13,aa)]
def Qr:Shape×List (Out×Shape):=(⟨acj,Dp⟩,[(.exit 6,⟨acj++[(61,an)],Dp⟩)])
abbrev ack:List (Nat×VS):=[(0,aR),(1,aa),(6,ch),(7,dg),(8,aa),(10,aa)]
def Qs:Shape×List (Out×Shape):=(⟨ack,yf⟩,[(.exit 2,⟨ack++[(47,an)],yf⟩)])
abbrev acm:List (Nat×VS):=[(0,aR),(1,aa),(4,ch),(5,dg),(6,wj),(8,iP),(9,mj),(10,aa),(11,iP),(12,aa),(22,wj),(23,aa),(24,aa),(50,wj),(51,aa),(52,aa)]
def Qt:Shape×List (Out×Shape):=(⟨acm,Dq⟩,[(.exit 6,⟨acm++[(53,an)],Dq⟩)])
abbrev acn:List (Nat×VS):=[(0,aR),(1,aa),(4,ch),(5,dg),(6,wj),(8,iP),(9,mj),(10,aa),(11,iP),(12,aa),(22,wj),(23,aa),(24,aa)]
def Qu:Shape×List (Out×Shape):=(⟨acn,Dq⟩,[(.exit 4,⟨acn++[(49,an)],Dq⟩)])
abbrev aco:List (Nat×VS):=[(0,aR),(1,aa),(4,ch),(5,dg),(6,wj),(8,iP),(9,mj),(10,aa),(22,wj),(23,aa),(24,aa)]
def Qv:Shape×List (Out×Shape):=(⟨aco,Dq⟩,[(.exit 2,⟨aco++[(38,an)],Dq⟩)])
abbrev acp:List (Nat×VS):=[(0,aR),(1,aa),(4,ch),(5,dg),(6,wj),(22,wj),(23,aa),(24,aa)]
def Qw:Shape×List (Out×Shape):=(⟨acp,ab3⟩,[(.exit 0,⟨acp++[(25,an)],ab3⟩)])
abbrev acq:List (Nat×VS):=[(0,aR),(1,aa),(6,ch),(7,dg),(8,aa),(9,aa),(10,lH),(11,aa)]
def Qi:Shape×List (Out×Shape):=(⟨acq,Dp⟩,[(.exit 2,⟨acq++[(37,an)],Dp⟩)])
def Qj:Shape×List (Out×Shape):=(⟨acd,yf⟩,[(.exit 0,⟨[(0,aR),(1,aa),(6,ch),(7,dg),(8,aa),(9,aa),(24,an)],yf⟩)])
def Tn:Shape×List (Out×Shape):=(⟨ab9,qP⟩,[(.ret,⟨wv,[]⟩),(.exit 2,⟨aca,qP⟩)])
def To:Shape×List (Out×Shape):=(⟨[(1,aR),(3,aa),(38,cX),(39,aa),(40,aa)],qP⟩,[(.ret,⟨wv,[]⟩),(.exit 0,⟨acb,qP⟩)])
def Ts:Shape×List (Out×Shape):=(⟨[(0,aa),(2,.fn wc [] [.ax 0 0 0,.ax 1 0 0]),(3,.fn we [] [.ax 0 0 0,.ax 1 0 0,.ax 2 0 0]),(8,kb),(11,td),(12,rT),(13,aa),(14,.one (.ax 6 0 0)),(15,MQ),(36,aa),(37,aa)],[e7,e7,mP,yd,abW,.var 26 [aa,aa,SJ,xZ],MR,aY,bQ,bh,wu,.map lG,bQ,bh]⟩,[(.exit 2,⟨[(0,aa),(2,.fn wc [] [.ax 0 0 0,.ax 1 0 0]),(3,.fn we [] [.ax 0 0 0,.ax 1 0 0,.ax 2 0 0]),(8,kb),(11,td),(12,rT),(13,aa),(14,.one (.ax 6 0 0)),(15,MQ),(36,aa),(37,aa),(38,an)],[e7,e7,mP,yd,abW,.var 26 [aa,aa,SJ,xZ],MR,aY,bQ,bh,wu,.map lG,bQ,bh]⟩)])
def Tt:Shape×List (Out×Shape):=(⟨[(0,aa),(2,.fn wc [] [.ax 0 0 0,.ax 1 0 0]),(3,.fn we [] [.ax 0 0 0,.ax 1 0 0,.ax 2 0 0]),(8,kb),(11,td),(12,rT),(13,aa)],ab4⟩,[(.ret,⟨[(8,kb),(9,.one (.whole jV 6)),(10,aa)],[e7,e7,mP,yc,bQ,bh,wu]⟩),(.exit 0,⟨[(0,aa),(2,.fn wc [] [.ax 0 0 0,.ax 1 0 0]),(3,.fn we [] [.ax 0 0 0,.ax 1 0 0,.ax 2 0 0]),(8,kb),(11,td),(12,rT),(13,aa),(25,an)],ab4⟩)])
def Tu:Shape×List (Out×Shape):=(⟨[(2,ch),(3,dg),(4,kb),(6,aa),(12,an)],[e7,e7,mP,MR]⟩,[(.norm,⟨[(2,ch),(3,dg),(4,kb),(6,aa)],[e7,e7,mP,MR]⟩)])
abbrev acr:List (Nat×VS):=[(1,aR),(2,ch),(4,dg),(5,lH),(6,mj),(7,rT),(8,aa),(10,SQ),(28,mj),(29,aa),(30,aa),(47,dt),(48,aa),(49,aa)]
def Tv:Shape×List (Out×Shape):=(⟨acr,[e7,SX,MS,aY,aY,.var 26 [aa,aa,GQ,ya],aY,bQ,bh,bQ,bh,bQ,bh]⟩,[(.exit 2,⟨acr++[(50,an)],[e7,SX,MS,aY,aY,.var 26 [aa,aa,GQ,ya],aY,bQ,bh,bQ,bh,bQ,bh]⟩)])
abbrev acs:List (Nat×VS):=[(1,aR),(2,ch),(4,dg),(5,lH),(6,mj),(7,rT),(28,mj),(29,aa),(30,aa)]
def Tw:Shape×List (Out×Shape):=(⟨acs,ab5⟩,[(.exit 0,⟨acs++[(31,an)],ab5⟩)])
abbrev acu:List (Nat×VS):=[(2,aR),(6,pU),(13,dg),(14,lH),(15,mj),(87,SO),(88,aa),(89,aa)]
def Tx:Shape×List (Out×Shape):=(⟨acu,ab6⟩,[(.exit 4,⟨acu++[(90,an)],ab6⟩)])
abbrev acv:List (Nat×VS):=[(1,abL),(4,.one (.whole E0 1)),(5,aa),(6,aa)]
def Qb:Shape×List (Out×Shape):=(⟨acv,[S4,GX]⟩,[(.exit 0,⟨acv++[(7,an)],[S4,GX]⟩)])
abbrev acw:List (Nat×VS):=[(2,aa),(3,aR),(11,pU),(13,aa),(39,SR),(40,aa),(41,aa)]
def Tz:Shape×List (Out×Shape):=(⟨acw,[te,aY,z9]⟩,[(.ret,⟨[(6,an),(7,aa),(8,nF),(9,aa),(10,aa)],ml⟩),(.exit 0,⟨acw++[(42,an)],[te,aY,z9]⟩)])
abbrev acx:List (Nat×VS):=[(0,aR),(3,mj),(16,aa),(17,aa)]
def TA:Shape×List (Out×Shape):=(⟨acx,[.var 126 [aa,Di,zS,aa,zV],.dead,.dead,.map cF,aY,dI,bh]⟩,[(.ret,⟨wv,MV⟩),(.exit 0,⟨acx++[(18,an)],[.var 126 [aa,Di,zS,aa,zV],.dead,.dead,.map cF,aY,dI,bh]⟩)])
abbrev acy:List (Nat×VS):=[(2,td),(3,rT),(21,zX),(22,aa),(23,aa)]
def aoh:Shape×List (Out×Shape):=(⟨acy,[.var 126 [aa,zX,zU,aa,zV],.dead,.dead,.map cF,yd,.var 26 [aa,aa,GR,zU],dI,bh,bQ,bh,bQ]⟩,[(.exit 0,⟨acy++[(24,an)],[.var 126 [aa,zX,zU,aa,zV],.dead,.dead,.map cF,yd,.var 26 [aa,aa,GR,zU],dI,bh,bQ,bh,bQ]⟩)])
abbrev acz:List (Nat×VS):=[(0,iP),(1,aa),(18,aa),(19,aa)]
def aoi:Shape×List (Out×Shape):=(⟨acz,[]⟩,[(.ret,⟨qQ,[]⟩),(.exit 0,⟨acz++[(20,an)],[]⟩)])
abbrev acA:List (Nat×VS):=[(0,aa),(1,aa),(5,SP),(6,aa),(7,aa)]
def aoj:Shape×List (Out×Shape):=(⟨acA,[jm]⟩,[(.exit 2,⟨acA++[(26,an)],[jm]⟩)])
abbrev acB:List (Nat×VS):=[(0,aa),(1,aa),(5,SP),(6,aa)]
def aok:Shape×List (Out×Shape):=(⟨acB,[jm]⟩,[(.exit 0,⟨acB++[(12,an)],[jm]⟩)])
abbrev acC:List (Nat×VS):=[(2,aR),(4,ch),(5,zW),(7,lH),(31,aa),(32,aa)]
def TB:Shape×List (Out×Shape):=(⟨acC,MW⟩,[(.exit 0,⟨acC++[(33,an)],MW⟩)])
abbrev acD:List (Nat×VS):=[(2,aR),(4,ch),(7,zW),(39,lH),(40,aa),(41,aa)]
def TC:Shape×List (Out×Shape):=(⟨acD,MW⟩,[(.exit 2,⟨acD++[(42,an)],MW⟩)])
abbrev acE:List (Nat×VS):=[(1,aR),(3,pU),(4,aa),(24,ta),(25,aa),(26,aa)]
def TD:Shape×List (Out×Shape):=(⟨acE,[e7,aY]⟩,[(.exit 0,⟨acE++[(27,an)],[e7,aY]⟩)])
abbrev acF:List (Nat×VS):=[(1,aR),(3,pU),(4,aa),(7,abI),(8,lH),(9,aa),(11,td),(46,cX),(47,aa),(48,aa),(58,dt),(59,aa),(60,aa)]
def TE:Shape×List (Out×Shape):=(⟨acF,[e7,aY,.map GJ,aY,.var 141 [aa,aa,aa,aa,aa,aa,aa]]⟩,[(.exit 6,⟨acF++[(61,an)],[e7,aY,.map GJ,aY,.var 141 [aa,aa,aa,aa,aa,aa,aa]]⟩)])
abbrev acG:List (Nat×VS):=[(1,aR),(3,pU),(4,aa),(7,abI),(8,lH),(46,cX),(47,aa),(48,aa)]
def TF:Shape×List (Out×Shape):=(⟨acG,[e7,aY,.map GJ,aY]⟩,[(.exit 4,⟨acG++[(49,an)],[e7,aY,.map GJ,aY]⟩)])
def TG:Shape×List (Out×Shape):=(⟨[(1,aR),(3,pU),(4,aa)],[e7,aY]⟩,[(.ret,⟨[(2,nF)],ml⟩)])
abbrev acH:List (Nat×VS):=[(0,aR),(3,ch),(5,aa),(6,aa),(33,aa),(34,aa),(37,aa),(38,aa)]
def TH:Shape×List (Out×Shape):=(⟨acH,MX⟩,[(.exit 2,⟨acH++[(39,an)],MX⟩)])
abbrev acI:List (Nat×VS):=[(0,aR),(3,ch),(5,aa),(33,aa),(34,aa)]
def TI:Shape×List (Out×Shape):=(⟨acI,MX⟩,[(.exit 0,⟨acI++[(35,an)],MX⟩)])
abbrev acJ:List (Nat×VS):=[(0,aR),(2,kb),(5,td),(7,aa),(8,rT),(9,aa)]
def TJ:Shape×List (Out×Shape):=(⟨acJ,[.var 101 [pT,.one (.whole kQ 6),aa],z8,.dead,.var 68 [aa,zU,SC,SD,GR,GQ],abX,SY,wo,bh,jm,aY,bQ,bQ,bh,bh,aY,aY,bh,oV,lI,jm,aY,bQ,bQ]⟩,[(.exit 0,⟨acJ++[(55,an)],[.var 101 [pT,.one (.whole kQ 6),aa],z8,.dead,.var 68 [aa,zU,SC,SD,GR,GQ],abX,SY,wo,bh,jm,aY,bQ,bQ,bh,bh,aY,aY,bh,oV,lI,jm,aY,bQ,bQ]⟩)])
abbrev acK:List (Nat×VS):=[(0,aR),(2,kb),(5,td),(7,aa),(8,rT),(10,aa),(12,aa),(86,zS),(87,aa),(88,aa)]
def TK:Shape×List (Out×Shape):=(⟨acK,MY⟩,[(.exit 4,⟨acK++[(119,an)],MY⟩)])
abbrev acL:List (Nat×VS):=[(0,aR),(2,kb),(5,td),(7,aa),(8,rT),(86,zS),(87,aa),(88,aa)]
def TL:Shape×List (Out×Shape):=(⟨acL,MY⟩,[(.exit 2,⟨acL++[(89,an)],MY⟩)])
abbrev acM:List (Nat×VS):=[(2,kb),(5,td),(7,aa),(8,rT),(13,abJ),(14,aa),(15,.one (.ax 7 0 0)),(162,SS),(163,aa),(164,aa),(175,MJ),(176,aa),(177,aa)]
def TM:Shape×List (Out×Shape):=(⟨acM,[.var 101 [pT,SS,aa],z8,.dead,abY,abZ,ab0,S6,.var 144 [aa,ta,aa],wo,bh,bh,jm,aY,bQ,bQ,bh,aY,aY,bh,oV,lI,jm,aY,bQ,bQ]⟩,[(.exit 8,⟨acM++[(178,an)],[.var 101 [pT,SS,aa],z8,.dead,abY,abZ,ab0,S6,.var 144 [aa,ta,aa],wo,bh,bh,jm,aY,bQ,bQ,bh,aY,aY,bh,oV,lI,jm,aY,bQ,bQ]⟩)])
abbrev acN:List (Nat×VS):=[(2,kb),(5,td),(7,aa),(8,rT),(13,abJ),(162,abx),(163,aa),(164,aa)]
def TN:Shape×List (Out×Shape):=(⟨acN,ab7⟩,[(.exit 6,⟨acN++[(165,an)],ab7⟩)])
def TO:Shape×List (Out×Shape):=(⟨[(2,aR),(3,ch),(22,.agg [.str,.str]),(23,aa)],[.var 111 [iP,an,SR,aa,aa],ab1,z9,z9]⟩,[(.exit 0,⟨[(2,aR),(3,ch),(22,.agg [.str,.str]),(23,aa),(24,an)],[.var 111 [iP,an,SR,aa,aa],ab1,z9,z9]⟩)])
abbrev acO:List (Nat×VS):=[(1,aa),(7,abP),(8,pU),(26,ta),(27,aa),(28,aa)]
def TP:Shape×List (Out×Shape):=(⟨acO,[GX,aY]⟩,[(.exit 0,⟨acO++[(29,an)],[GX,aY]⟩)])
abbrev acP:List (Nat×VS):=[(1,aa),(53,dD),(54,aa),(55,aa)]
def aol:Shape×List (Out×Shape):=(⟨acP,[]⟩,[(.ret,⟨qQ,[]⟩),(.exit 1,⟨acP++[(56,an)],[]⟩)])
abbrev acQ:List (Nat×VS):=[(1,aR),(2,ch),(3,SN),(20,dD),(21,aa),(22,aa)]
def aom:Shape×List (Out×Shape):=(⟨acQ,[qM,.var 50 [aa,aa,Dj],dI,dI]⟩,[(.exit 0,⟨acQ++[(23,an)],[qM,.var 50 [aa,aa,Dj],dI,dI]⟩)])
abbrev acR:List (Nat×VS):=[(19,dD),(20,aa),(21,aa)]
def aon:Shape×List (Out×Shape):=(⟨acR,[]⟩,[(.ret,⟨[(2,an)],[]⟩),(.exit 1,⟨acR++[(22,an)],[]⟩)])
abbrev acS:List (Nat×VS):=[(2,dP),(3,aR),(7,ch),(20,dD),(21,aa),(22,aa)]
def aoo:Shape×List (Out×Shape):=(⟨acS,[qO,.var 89 [SU],iv]⟩,[(.exit 0,⟨acS++[(23,an)],[qO,.var 89 [SU],iv]⟩)])
abbrev acT:List (Nat×VS):=[(3,aR),(4,ch),(7,abA),(8,kb),(9,aa)]
def aop:Shape×List (Out×Shape):=(⟨acT,[qO,qM,ow,mP]⟩,[(.exit 0,⟨acT++[(28,an)],[qO,qM,ow,mP]⟩)])
abbrev acU:List (Nat×VS):=[(3,aR),(8,ch),(10,SU),(11,kb),(12,aa)]
def aoq:Shape×List (Out×Shape):=(⟨acU,[qO,mP,iv,z0,iv]⟩,[(.exit 2,⟨acU++[(48,an)],[qO,mP,iv,z0,iv]⟩)])
abbrev acW:List (Nat×VS):=[(2,dP),(3,aR),(4,ch),(7,dg),(20,dD),(21,aa),(22,aa)]
def aor:Shape×List (Out×Shape):=(⟨acW,[qO,qM,wm,iv]⟩,[(.exit 0,⟨acW++[(23,an)],[qO,qM,wm,iv]⟩)])
def aos:Shape×List (Out×Shape):=(⟨[(1,.fn CU [] [.ax 0 0 0,.ax 1 0 0,.ax 2 0 0]),(4,aa),(5,jl),(6,dP),(7,aa),(8,aa)],uE⟩,[(.exit 2,⟨[(1,.fn CU [] [.ax 0 0 0,.ax 1 0 0,.ax 2 0 0]),(4,aa),(5,jl),(6,dP),(7,aa),(8,aa),(14,an)],uE⟩)])
def aot:Shape×List (Out×Shape):=(⟨[(1,.fn CU [] [.ax 0 0 0,.ax 1 0 0,.ax 2 0 0]),(6,dP),(7,aa),(8,aa)],uE⟩,[(.exit 0,⟨[(1,.fn CU [] [.ax 0 0 0,.ax 1 0 0,.ax 2 0 0]),(6,dP),(7,aa),(8,aa),(9,an)],uE⟩)])
def aou:Shape×List (Out×Shape):=(⟨[(0,aa),(1,aR),(2,ch),(3,dg),(10,an)],uE⟩,[(.norm,⟨[],uE⟩)])
def TQ:Shape×List (Out×Shape):=(⟨[(0,aa),(2,.fn wg [] [.ax 0 0 0]),(3,.fn wh [] [.ax 0 0 0]),(8,ch),(11,dg),(12,kb),(13,aa),(14,aa),(15,mj),(36,aa),(37,aa)],[e7,GU,.var 180 [MQ,.one (.cG jW 8)],MS,aY,bQ,bh,aY,.map jW,bQ,bh]⟩,[(.exit 2,⟨[(0,aa),(2,.fn wg [] [.ax 0 0 0]),(3,.fn wh [] [.ax 0 0 0]),(8,ch),(11,dg),(12,kb),(13,aa),(14,aa),(15,mj),(36,aa),(37,aa),(38,an)],[e7,GU,.var 180 [MQ,.one (.cG jW 8)],MS,aY,bQ,bh,aY,.map jW,bQ,bh]⟩)])
def TR:Shape×List (Out×Shape):=(⟨[(0,aa),(2,.fn wg [] [.ax 0 0 0]),(3,.fn wh [] [.ax 0 0 0]),(8,ch),(11,dg),(12,kb),(13,aa)],[e7,yc,.var 180 [SQ,.one (.cG jW 7)],yd,bQ,bh,aY,.map jW,bQ,bh]⟩,[(.ret,⟨[(8,ch),(9,mj),(10,aa)],[e7,abV,bQ,bh,aY]⟩),(.exit 0,⟨[(0,aa),(2,.fn wg [] [.ax 0 0 0]),(3,.fn wh [] [.ax 0 0 0]),(8,ch),(11,dg),(12,kb),(13,aa),(25,an)],[e7,yc,.var 180 [SQ,.one (.cG jW 7)],yd,bQ,bh,aY,.map jW,bQ,bh]⟩)])
def TS:Shape×List (Out×Shape):=(⟨[(4,aR),(6,ch)],ab8⟩,[(.ret,⟨[(4,aR),(5,aa)],[.var 147 [aa,an,pT,xY,lH,mj,Dg,abt,aa],bh,bh,aY,aY,bh,oV]⟩),(.exit 0,⟨[(4,aR),(6,ch),(21,an)],ab8⟩)])
abbrev acX:List (Nat×VS):=[(1,aR),(3,ch),(28,cX),(29,aa),(30,aa)]
def TT:Shape×List (Out×Shape):=(⟨acX,[te,te]⟩,[(.ret,⟨wv,[]⟩),(.exit 0,⟨acX++[(31,an)],[te,te]⟩)])
abbrev acY:List (Nat×VS):=[(0,aR),(1,aa),(4,aa),(7,lH),(20,mj),(21,aa),(22,aa)]
def TU:Shape×List (Out×Shape):=(⟨acY,Aa⟩,[(.exit 2,⟨acY++[(23,an)],Aa⟩)])
abbrev acZ:List (Nat×VS):=[(0,aR),(1,aa),(4,aa),(7,lH)]
def TV:Shape×List (Out×Shape):=(⟨acZ,Aa⟩,[(.ret,⟨[(4,aa),(5,an),(6,an)],Ab⟩),(.exit 0,⟨acZ++[(14,an)],Aa⟩)])
abbrev ac0:List (Nat×VS):=[(0,aR),(3,lH),(15,mj),(16,aa),(17,aa)]
def TW:Shape×List (Out×Shape):=(⟨ac0,Aa⟩,[(.exit 0,⟨ac0++[(18,an)],Aa⟩)])
abbrev ac1:List (Nat×VS):=[(1,aa),(2,aR),(23,dD),(24,aa),(25,aa)]
def aov:Shape×List (Out×Shape):=(⟨ac1,g0⟩,[(.ret,⟨[(6,an)],g0⟩),(.exit 0,⟨ac1++[(26,an)],g0⟩)])
def aow:Shape×List (Out×Shape):=(⟨[(3,aR),(4,ch),(5,dg),(6,kb),(24,an)],[qM,GV,.var 50 [aa,aa,zX],.var 50 [aa,aa,.one (.whole cv 7)],dI,dI,dI,dI]⟩,[(.norm,⟨[(3,aR),(4,ch),(5,dg)],[qM,.var 166 [aa,aa,Dj,aa,aa,GN,an],.var 50 [aa,aa,Di],dI,dI,dI]⟩)])
def aox:Shape×List (Out×Shape):=(⟨[(0,aR),(3,dg),(5,aa),(28,an)],Ac⟩,[(.norm,⟨[],tf⟩)])
def aoy:Shape×List (Out×Shape):=(⟨[(0,aR),(3,dg),(5,aa),(22,an)],Ac⟩,[(.norm,⟨[],tf⟩)])
def aoz:Shape×List (Out×Shape):=(⟨[(0,aR),(3,dg),(5,aa),(14,an)],Ac⟩,[(.norm,⟨[],tf⟩)])
def aoA:Shape×List (Out×Shape):=(⟨[(0,aR),(3,dg),(5,aa),(10,an)],Ac⟩,[(.norm,⟨[],tf⟩)])
def aoB:Shape×List (Out×Shape):=(⟨[(0,aR),(3,dg),(5,aa),(6,an)],Ac⟩,[(.norm,⟨[],tf⟩)])
abbrev ac2:List (Nat×VS):=[(0,MP),(1,dP),(6,aa)]
def aoC:Shape×List (Out×Shape):=(⟨ac2,[ow]⟩,[(.exit 0,⟨ac2++[(12,an)],[ow]⟩)])
abbrev ac3:List (Nat×VS):=[(0,aa),(1,aR),(2,ch),(3,dg),(10,aa),(11,aa)]
def aoD:Shape×List (Out×Shape):=(⟨ac3,uF⟩,[(.exit 0,⟨ac3++[(12,an)],uF⟩)])
abbrev ac4:List (Nat×VS):=[(0,aa),(1,aR),(2,ch),(3,dg),(5,abu),(6,aa)]
def aoE:Shape×List (Out×Shape):=(⟨ac4,[qO,mP,wm,iv,ow]⟩,[(.exit 0,⟨ac4++[(13,an)],[qO,mP,wm,iv,ow]⟩)])
abbrev ac5:List (Nat×VS):=[(1,an),(6,aR),(39,cX),(40,aa),(41,aa)]
def TX:Shape×List (Out×Shape):=(⟨ac5,pX⟩,[(.ret,⟨[(4,.one (.eA)),(5,aa)],[]⟩),(.exit 0,⟨ac5++[(42,an)],pX⟩)])
def TY:Shape×List (Out×Shape):=(⟨[(6,aR),(9,aa),(72,an)],pX⟩,[(.norm,⟨[(6,aR),(9,aa)],pX⟩)])
def TZ:Shape×List (Out×Shape):=(⟨[(6,aR),(9,aa),(10,aa),(11,dt),(12,iP),(13,aa),(85,pT),(86,aa),(87,aa),(106,an)],pX⟩,[(.norm,⟨[(6,aR),(9,aa),(13,aa),(85,pT),(86,aa),(87,aa)],pX⟩)])
abbrev ac6:List (Nat×VS):=[(6,aR),(9,aa),(85,pT),(86,aa),(87,aa)]
def T4:Shape×List (Out×Shape):=(⟨ac6,pX⟩,[(.exit 2,⟨ac6++[(88,an)],pX⟩)])
def T6:Shape×List (Out×Shape):=(⟨[(0,aR),(3,aa),(4,MO),(5,aa),(7,SM),(8,aa),(10,iP),(27,xZ),(28,aa),(29,aa),(78,an)],[.var 185 [aa,an,xZ,ML,GO,GP,abM,abN,aa,GL,aby,SG,abO],.dead,.dead,.dead,.dead,.dead,.dead,.map cF,.dead,.dead,.dead,aY,aY,bh,bh,aY,aY,bh,oV,jm,aY,aY]⟩,[(.norm,⟨[(0,aR),(3,aa),(4,MO),(5,aa),(8,aa),(27,ya),(28,aa),(29,aa)],S7⟩)])
abbrev ac7:List (Nat×VS):=[(0,aR),(3,aa),(4,MO),(27,ya),(28,aa),(29,aa)]
def T7:Shape×List (Out×Shape):=(⟨ac7,S7⟩,[(.ret,⟨wv,S8⟩),(.exit 0,⟨ac7++[(30,an)],S7⟩)])
abbrev ac8:List (Nat×VS):=[(0,dt),(1,aa),(7,aa),(8,aa)]
def T8:Shape×List (Out×Shape):=(⟨ac8,[]⟩,[(.ret,⟨Ad,[]⟩),(.exit 0,⟨ac8++[(9,an)],[]⟩)])
abbrev ac9:List (Nat×VS):=[(0,aR),(2,ch),(4,SV)]
def aoF:Shape×List (Out×Shape):=(⟨ac9,[z7,MT,ye,ye]⟩,[(.ret,⟨[(2,ch),(3,an)],[z7,.var 116 [aa,aa,SV],ye]⟩),(.exit 0,⟨ac9++[(16,an)],[z7,MT,ye,ye]⟩)])
abbrev ada:List (Nat×VS):=[(1,aR),(3,aa),(53,cX),(54,aa),(55,aa)]
def T9:Shape×List (Out×Shape):=(⟨ada,[te]⟩,[(.ret,⟨[(2,an)],[]⟩),(.exit 0,⟨ada++[(56,an)],[te]⟩)])
abbrev adb:List (Nat×VS):=[(1,aR),(2,ch),(3,dg),(4,aa),(5,dt),(19,cX),(20,aa),(21,aa),(34,dt),(35,aa),(36,aa)]
def Ua:Shape×List (Out×Shape):=(⟨adb,MZ⟩,[(.exit 2,⟨adb++[(37,an)],MZ⟩)])
abbrev ade:List (Nat×VS):=[(1,aR),(2,ch),(3,dg),(19,cX),(20,aa),(21,aa)]
def Ub:Shape×List (Out×Shape):=(⟨ade,MZ⟩,[(.exit 0,⟨ade++[(22,an)],MZ⟩)])
abbrev adf:List (Nat×VS):=[(0,dt),(1,dt),(12,aa),(13,aa)]
def Uc:Shape×List (Out×Shape):=(⟨adf,[]⟩,[(.ret,⟨qQ,[]⟩),(.exit 0,⟨adf++[(14,an)],[]⟩)])
abbrev adg:List (Nat×VS):=[(0,GM),(1,GM),(12,aa),(13,aa)]
def Ud:Shape×List (Out×Shape):=(⟨adg,[]⟩,[(.ret,⟨qQ,[]⟩),(.exit 0,⟨adg++[(14,an)],[]⟩)])
abbrev adh:List (Nat×VS):=[(0,ta),(1,ta),(12,aa),(13,aa)]
def Ue:Shape×List (Out×Shape):=(⟨adh,[]⟩,[(.ret,⟨qQ,[]⟩),(.exit 0,⟨adh++[(14,an)],[]⟩)])
abbrev adi:List (Nat×VS):=[(0,cX),(1,dt),(5,Dh),(15,dt),(16,aa),(17,aa)]
def Uf:Shape×List (Out×Shape):=(⟨adi,rU⟩,[(.ret,⟨qQ,[]⟩),(.exit 0,⟨adi++[(18,an)],rU⟩)])
abbrev adj:List (Nat×VS):=[(0,cX),(1,dt),(5,Dh),(9,aa),(47,dt),(48,aa),(49,aa),(53,dt),(54,aa),(55,aa)]
def Ug:Shape×List (Out×Shape):=(⟨adj,rU⟩,[(.ret,⟨qQ,[]⟩),(.exit 4,⟨adj++[(56,an)],rU⟩)])
abbrev adk:List (Nat×VS):=[(0,cX),(1,dt),(5,Dh),(47,dt),(48,aa),(49,aa)]
def Uh:Shape×List (Out×Shape):=(⟨adk,rU⟩,[(.ret,⟨qQ,[]⟩),(.exit 2,⟨adk++[(50,an)],rU⟩)])
abbrev adl:List (Nat×VS):=[(3,aR),(6,tc),(7,aa),(8,aa)]
def aoG:Shape×List (Out×Shape):=(⟨adl,[Dn]⟩,[(.exit 0,⟨adl++[(9,an)],[Dn]⟩)])
abbrev adm:List (Nat×VS):=[(1,aR),(3,.one (.whole bG 1)),(19,tc),(20,aa),(21,aa)]
def aoH:Shape×List (Out×Shape):=(⟨adm,[uD,S5]⟩,[(.exit 1,⟨adm++[(22,an)],[uD,S5]⟩)])
abbrev adn:List (Nat×VS):=[(0,cX),(1,dt),(7,aR),(8,ch),(10,xY),(11,aa),(33,aa),(34,aa),(37,dt),(38,aa),(39,aa)]
def Ui:Shape×List (Out×Shape):=(⟨adn,M1⟩,[(.exit 2,⟨adn++[(40,an)],M1⟩)])
abbrev ado:List (Nat×VS):=[(0,cX),(1,dt),(7,aR),(8,ch),(10,xY),(33,aa),(34,aa)]
def Uj:Shape×List (Out×Shape):=(⟨ado,M1⟩,[(.exit 0,⟨ado++[(35,an)],M1⟩)])
abbrev adp:List (Nat×VS):=[(0,cX),(7,aR),(11,ch),(12,zW),(18,MN),(19,aa),(20,aa),(24,rS),(25,aa),(26,aa),(48,aa),(49,aa)]
def Uk:Shape×List (Out×Shape):=(⟨adp,[pW,S0,aY]⟩,[(.exit 4,⟨adp++[(50,an)],[pW,S0,aY]⟩)])
abbrev adq:List (Nat×VS):=[(0,cX),(7,aR),(18,MN),(19,aa),(20,aa),(24,rS),(25,aa),(26,aa)]
def Ul:Shape×List (Out×Shape):=(⟨adq,[pW]⟩,[(.exit 2,⟨adq++[(27,an)],[pW]⟩)])
abbrev adr:List (Nat×VS):=[(0,cX),(7,aR),(18,MN),(19,aa),(20,aa)]
def Um:Shape×List (Out×Shape):=(⟨adr,[pW]⟩,[(.exit 0,⟨adr++[(21,an)],[pW]⟩)])
def Un:Shape×List (Out×Shape):=(⟨[(0,aR),(2,pU),(7,dg),(8,aa),(10,kb),(11,rS),(12,aa),(13,aa),(18,aa),(19,an)],[pW,aY,aY,S0]⟩,[(.norm,⟨ace,S9⟩)])
def Uo:Shape×List (Out×Shape):=(⟨ace,S9⟩,[(.exit 0,⟨[(0,aR),(2,pU),(7,dg),(8,aa),(11,rS),(12,aa),(13,aa),(14,an)],S9⟩)])
def Up:Shape×List (Out×Shape):=(⟨[(0,aR),(3,aa)],Ab⟩,[(.ret,⟨[(2,an)],Ab⟩),(.exit 0,⟨[(0,aR),(3,aa),(11,an)],Ab⟩)])
abbrev ads:List (Nat×VS):=[(2,aR),(3,ch),(4,dg),(5,Dj),(6,GN),(7,aa),(21,dD),(22,aa),(23,aa)]
def aoI:Shape×List (Out×Shape):=(⟨ads,[MU,qM,.var 166 [aa,aa,Di,aa,aa,zX,an],dI,dI,dI,dI]⟩,[(.exit 0,⟨ads++[(24,an)],[MU,qM,.var 166 [aa,aa,Di,aa,aa,zX,an],dI,dI,dI,dI]⟩)])
abbrev adt:List (Nat×VS):=[(2,aR),(4,ch),(5,SN),(6,Dj),(7,an),(20,dD),(21,aa),(22,aa)]
def aoJ:Shape×List (Out×Shape):=(⟨adt,[MU,GV,dI,dI,dI,dI]⟩,[(.exit 0,⟨adt++[(23,an)],[MU,GV,dI,dI,dI,dI]⟩)])
abbrev adu:List (Nat×VS):=[(4,aR),(6,MK),(7,an),(11,SN),(54,Dj),(55,aa),(56,aa)]
def aoK:Shape×List (Out×Shape):=(⟨adu,[GV,dI,dI,dI,dI,dI]⟩,[(.exit 2,⟨adu++[(57,an)],[GV,dI,dI,dI,dI,dI]⟩)])
def aoL:Shape×List (Out×Shape):=(⟨[(0,aR),(2,iP),(3,aa),(9,dg),(10,dD),(11,aa),(12,aa),(18,an)],Ac⟩,[(.norm,⟨[(0,aR),(2,iP),(3,aa),(9,dg),(10,dD),(11,aa),(12,aa)],Ac⟩)])
abbrev adv:List (Nat×VS):=[(0,aR),(2,iP),(3,aa),(10,dD),(11,aa),(12,aa)]
def aoM:Shape×List (Out×Shape):=(⟨adv,tf⟩,[(.exit 0,⟨adv++[(13,an)],tf⟩)])
def aoN:Shape×List (Out×Shape):=(⟨[(0,dD),(1,.fn xU [] []),(7,aa),(8,aa)],[]⟩,[(.ret,⟨Ad,[]⟩),(.exit 0,⟨[(0,dD),(1,.fn xU [] []),(7,aa),(8,aa),(9,an)],[]⟩)])
abbrev adw:List (Nat×VS):=[(0,dt),(13,dt),(14,aa),(15,aa)]
def Uq:Shape×List (Out×Shape):=(⟨adw,[]⟩,[(.ret,⟨[(2,an)],[]⟩),(.exit 0,⟨adw++[(16,an)],[]⟩)])
abbrev adx:List (Nat×VS):=[(3,nF),(14,aa),(15,aa)]
def Ur:Shape×List (Out×Shape):=(⟨adx,ml⟩,[(.exit 0,⟨adx++[(16,an)],ml⟩)])
abbrev ady:List (Nat×VS):=[(3,.one (.whole GI 0)),(9,dt),(10,aa),(11,aa)]
def Us:Shape×List (Out×Shape):=(⟨ady,[GW]⟩,[(.exit 0,⟨ady++[(12,an)],[GW]⟩)])
abbrev adz:List (Nat×VS):=[(1,dt),(5,nF),(26,dt),(27,aa),(28,aa)]
def Ut:Shape×List (Out×Shape):=(⟨adz,ml⟩,[(.exit 0,⟨adz++[(29,an)],ml⟩)])
def aoO:Shape×List (Out×Shape):=(⟨kf,ox⟩,[(.exit 0,⟨[(0,aR),(3,an)],ox⟩)])
abbrev adA:List (Nat×VS):=[(0,aR),(2,ch),(4,dg)]
def aoP:Shape×List (Out×Shape):=(⟨adA,[z7,MT,uD,ye]⟩,[(.ret,⟨[(2,ch),(3,an)],[z7,.var 116 [aa,aa,SV],ye]⟩),(.exit 0,⟨adA++[(19,an)],[z7,MT,uD,ye]⟩)])
abbrev adB:List (Nat×VS):=[(1,aa),(7,dt),(8,aa),(9,aa)]
def Uu:Shape×List (Out×Shape):=(⟨adB,[]⟩,[(.ret,⟨qQ,[]⟩),(.exit 0,⟨adB++[(10,an)],[]⟩)])
abbrev adC:List (Nat×VS):=[(0,cX),(13,cX),(14,aa),(15,aa),(24,dt),(25,aa),(26,aa)]
def Uv:Shape×List (Out×Shape):=(⟨adC,[]⟩,[(.ret,⟨wv,[]⟩),(.exit 2,⟨adC++[(27,an)],[]⟩)])
abbrev adD:List (Nat×VS):=[(0,cX),(13,cX),(14,aa),(15,aa)]
def Uw:Shape×List (Out×Shape):=(⟨adD,[]⟩,[(.ret,⟨wv,[]⟩),(.exit 0,⟨adD++[(16,an)],[]⟩)])
abbrev adE:List (Nat×VS):=[(0,cX),(5,Dh),(7,aa),(9,dt),(10,dt),(16,dt),(17,aa),(18,aa),(29,cX),(30,aa),(31,aa),(45,dt),(46,aa),(47,aa)]
def Ux:Shape×List (Out×Shape):=(⟨adE,rU⟩,[(.ret,⟨qQ,[]⟩),(.exit 4,⟨adE++[(48,an)],rU⟩)])
abbrev adF:List (Nat×VS):=[(0,cX),(5,Dh),(7,aa),(16,dt),(17,aa),(18,aa),(29,cX),(30,aa),(31,aa)]
def Uy:Shape×List (Out×Shape):=(⟨adF,rU⟩,[(.ret,⟨qQ,[]⟩),(.exit 2,⟨adF++[(32,an)],rU⟩)])
abbrev adG:List (Nat×VS):=[(0,cX),(5,Dh),(16,dt),(17,aa),(18,aa)]
def Uz:Shape×List (Out×Shape):=(⟨adG,rU⟩,[(.ret,⟨qQ,[]⟩),(.exit 0,⟨adG++[(19,an)],rU⟩)])
def UA:Shape×List (Out×Shape):=(⟨[(0,cX),(3,nF),(4,ch),(5,dg),(6,.fn rR [] [.ax 2 0 0,.ax 1 0 0]),(7,aa),(9,aa),(17,aa),(18,aa),(45,dt),(46,aa),(47,aa)],Dr⟩,[(.exit 4,⟨[(0,cX),(3,nF),(4,ch),(5,dg),(6,.fn rR [] [.ax 2 0 0,.ax 1 0 0]),(7,aa),(9,aa),(17,aa),(18,aa),(45,dt),(46,aa),(47,aa),(48,an)],Dr⟩)])
def UB:Shape×List (Out×Shape):=(⟨[(0,cX),(3,nF),(4,ch),(5,dg),(6,.fn rR [] [.ax 2 0 0,.ax 1 0 0]),(7,aa),(17,aa),(18,aa)],Dr⟩,[(.exit 2,⟨[(0,cX),(3,nF),(4,ch),(5,dg),(6,.fn rR [] [.ax 2 0 0,.ax 1 0 0]),(7,aa),(17,aa),(18,aa),(35,an)],Dr⟩)])
def UC:Shape×List (Out×Shape):=(⟨[(0,cX),(3,nF),(4,ch),(5,dg),(6,.fn rR [] [.ax 2 0 0,.ax 1 0 0]),(7,aa),(17,aa),(18,aa)],Dr⟩,[(.exit 0,⟨[(0,cX),(3,nF),(4,ch),(5,dg),(6,.fn rR [] [.ax 2 0 0,.ax 1 0 0]),(7,aa),(17,aa),(18,aa),(19,an)],Dr⟩)])
def UD:Shape×List (Out×Shape):=(⟨[(0,dt),(1,.fn zQ [] [.ax 0 0 0]),(7,aa),(8,aa)],uG⟩,[(.ret,⟨Ad,uG⟩),(.exit 0,⟨[(0,dt),(1,.fn zQ [] [.ax 0 0 0]),(7,aa),(8,aa),(9,an)],uG⟩)])
abbrev adH:List (Nat×VS):=[(3,nF),(9,aa),(10,aa)]
def UE:Shape×List (Out×Shape):=(⟨adH,ml⟩,[(.exit 0,⟨adH++[(11,an)],ml⟩)])
abbrev adI:List (Nat×VS):=[(0,aa),(1,aR),(6,aa),(7,aa)]
def UF:Shape×List (Out×Shape):=(⟨adI,uG⟩,[(.ret,⟨[(3,an)],uG⟩),(.exit 0,⟨adI++[(8,an)],uG⟩)])
def aoQ:Shape×List (Out×Shape):=(⟨[(2,aR),(3,ch),(4,dg),(5,kb),(8,an)],[uC,uC,uD,uD]⟩,[(.norm,⟨[],GY⟩)])
abbrev adJ:List (Nat×VS):=[(3,aR),(6,tc),(7,aa),(8,aa)]
def aoR:Shape×List (Out×Shape):=(⟨adJ,g0⟩,[(.exit 0,⟨adJ++[(9,an)],g0⟩)])
abbrev adK:List (Nat×VS):=[(0,cX),(1,aa),(2,aa),(7,aa)]
def UG:Shape×List (Out×Shape):=(⟨adK,[]⟩,[(.exit 0,⟨adK++[(19,an)],[]⟩)])
abbrev adL:List (Nat×VS):=[(0,cX),(7,aa),(8,aa),(9,aa)]
def UH:Shape×List (Out×Shape):=(⟨adL,[]⟩,[(.exit 2,⟨adL++[(45,an)],[]⟩)])
abbrev adM:List (Nat×VS):=[(0,cX),(1,aa),(8,aa),(54,aa),(55,aa)]
def UI:Shape×List (Out×Shape):=(⟨adM,[]⟩,[(.exit 4,⟨adM++[(56,an)],[]⟩)])
def UJ:Shape×List (Out×Shape):=(⟨[(0,cX),(1,.fn xV [] []),(7,aa),(8,aa)],[]⟩,[(.ret,⟨Ad,[]⟩),(.exit 0,⟨[(0,cX),(1,.fn xV [] []),(7,aa),(8,aa),(9,an)],[]⟩)])
def aoS:Shape×List (Out×Shape):=(⟨[(0,cg),(1,.fn xW [] []),(5,aa),(6,aa)],bw⟩,[(.exit 0,⟨[(0,cg),(1,.fn xW [] []),(5,aa),(6,aa),(19,an)],bw⟩)])
abbrev adN:List (Nat×VS):=[(0,aa),(5,cg),(8,dD),(9,aa),(10,aa)]
def aoT:Shape×List (Out×Shape):=(⟨adN,bw⟩,[(.exit 0,⟨adN++[(11,an)],bw⟩)])
abbrev adO:List (Nat×VS):=[(1,aa),(5,aa),(18,tc),(19,aa),(20,aa)]
def aoU:Shape×List (Out×Shape):=(⟨adO,[]⟩,[(.exit 0,⟨adO,[]⟩)])
def aoV:Shape×List (Out×Shape):=(⟨[(0,cg),(1,.fn Dd [] []),(5,aa),(6,.one (.sub cv 0)),(7,aa)],bw⟩,[(.exit 2,⟨[(0,cg),(1,.fn Dd [] []),(5,aa),(6,.one (.sub cv 0)),(7,aa),(35,an)],bw⟩)])
def aoW:Shape×List (Out×Shape):=(⟨[(0,cg),(1,.fn Dd [] []),(5,aa)],bw⟩,[(.ret,⟨[(4,MK)],Ds⟩),(.exit 0,⟨[(0,cg),(1,.fn Dd [] []),(5,aa),(15,an)],bw⟩)])
def aoX:Shape×List (Out×Shape):=(⟨[(0,cg),(1,aa),(2,aa),(3,aa),(4,.fn cC [] []),(10,an),(11,an),(12,aa),(39,an)],bw⟩,[(.norm,⟨[(0,cg),(1,aa),(2,aa),(3,aa),(4,.fn cC [] []),(10,an),(11,an),(12,aa)],bw⟩)])
def aoY:Shape×List (Out×Shape):=(⟨[(0,cg),(1,aa),(2,aa),(3,aa),(4,.fn cC [] []),(10,an),(11,an),(12,aa),(13,aa),(14,aa),(56,an)],bw⟩,[(.norm,⟨[(0,cg),(1,aa),(2,aa),(3,aa),(4,.fn cC [] []),(10,an),(11,an),(12,aa),(13,aa),(14,aa)],bw⟩)])
def aoZ:Shape×List (Out×Shape):=(⟨[(0,cg),(1,aa),(2,aa),(3,aa),(4,.fn cC [] []),(10,an),(11,an),(12,aa),(13,aa),(75,an)],bw⟩,[(.ret,⟨[(0,cg),(1,aa),(2,aa),(3,aa),(4,.fn cC [] []),(10,an),(11,an),(12,aa),(13,aa),(80,an)],bw⟩),(.norm,⟨[(0,cg),(1,aa),(2,aa),(3,aa),(4,.fn cC [] []),(10,an),(11,an),(12,aa),(13,aa)],bw⟩)])
def ao0:Shape×List (Out×Shape):=(⟨[(0,cg),(1,aa),(2,aa),(3,aa),(4,.fn cC [] []),(10,an),(11,an)],bw⟩,[(.ret,⟨[],bw⟩)])
def ao1:Shape×List (Out×Shape):=(⟨[(0,dD),(1,dD),(2,.fn cC [] []),(11,dD),(12,aa),(13,aa)],[]⟩,[(.ret,⟨[(6,aa)],[]⟩),(.exit 0,⟨[(0,dD),(1,dD),(2,.fn cC [] []),(11,dD),(12,aa),(13,aa),(14,an)],[]⟩)])
def ao2:Shape×List (Out×Shape):=(⟨[(0,cg),(1,aa),(2,aa),(3,.fn cC [] []),(8,aa),(9,aa)],bw⟩,[(.exit 2,⟨[(0,cg),(1,aa),(2,aa),(3,.fn cC [] []),(8,aa),(9,aa),(34,an)],bw⟩)])
def ao3:Shape×List (Out×Shape):=(⟨[(0,cg),(1,aa),(2,aa),(3,.fn cC [] []),(8,aa)],bw⟩,[(.exit 0,⟨[(0,cg),(1,aa),(2,aa),(3,.fn cC [] []),(8,aa),(14,an)],bw⟩)])
def ao4:Shape×List (Out×Shape):=(⟨[(0,cg),(3,.fn cC [] []),(8,aa),(9,aa),(10,aa),(11,aa)],bw⟩,[(.exit 0,⟨[(0,cg),(3,.fn cC [] []),(8,aa),(9,aa),(10,aa),(11,aa),(21,an)],bw⟩)])
def ao5:Shape×List (Out×Shape):=(⟨[(0,cg),(3,.fn cC [] []),(8,aa),(9,aa),(12,aa)],bw⟩,[(.exit 2,⟨[(0,cg),(3,.fn cC [] []),(8,aa),(9,aa),(12,aa),(33,an)],bw⟩)])
def ao6:Shape×List (Out×Shape):=(⟨[(0,cg),(1,aa),(8,aa),(9,ch),(10,jl),(11,aa),(12,aa),(45,an)],M3⟩,[(.norm,⟨[(0,cg),(1,aa),(8,aa),(9,ch),(10,jl),(11,aa),(12,aa)],M3⟩)])
abbrev adP:List (Nat×VS):=[(0,cg),(1,aa),(8,aa),(9,ch),(10,jl),(11,aa)]
def ao7:Shape×List (Out×Shape):=(⟨adP,M3⟩,[(.exit 0,⟨adP++[(35,an)],M3⟩)])
def ao8:Shape×List (Out×Shape):=(⟨[(0,dD),(3,.fn cC [] []),(11,aR),(12,aa),(13,aa),(14,aa),(36,an)],g0⟩,[(.norm,⟨[(0,dD),(3,.fn cC [] []),(11,aR),(12,aa),(13,aa),(14,aa)],g0⟩)])
def ao9:Shape×List (Out×Shape):=(⟨[(0,dD),(3,.fn cC [] []),(10,aa),(11,aR),(12,aa),(13,aa),(14,aa),(34,an)],g0⟩,[(.norm,⟨[(11,aR),(13,aa)],g0⟩)])
abbrev adQ:List (Nat×VS):=[(0,cg),(8,aa),(9,aa)]
def apa:Shape×List (Out×Shape):=(⟨adQ,bw⟩,[(.exit 0,⟨adQ++[(15,an)],bw⟩)])
def apb:Shape×List (Out×Shape):=(⟨[(0,cg),(1,aa),(2,aa),(3,.fn cC [] []),(9,aa),(10,aa)],bw⟩,[(.exit 2,⟨[(0,cg),(1,aa),(2,aa),(3,.fn cC [] []),(9,aa),(10,aa),(36,an)],bw⟩)])
def apc:Shape×List (Out×Shape):=(⟨[(0,cg),(1,aa),(2,aa),(3,.fn cC [] []),(9,aa),(10,aa),(11,aa)],bw⟩,[(.exit 4,⟨[(0,cg),(1,aa),(2,aa),(3,.fn cC [] []),(9,aa),(10,aa),(11,aa)],bw⟩)])
def apd:Shape×List (Out×Shape):=(⟨[(0,cg),(1,aa),(2,aa),(3,.fn cC [] []),(9,aa),(10,aa),(65,an)],bw⟩,[(.norm,⟨[(0,cg),(1,aa),(2,aa),(3,.fn cC [] []),(9,aa),(10,aa)],bw⟩)])
def ape:Shape×List (Out×Shape):=(⟨[(0,cg),(1,aa),(2,aa),(3,.fn cC [] []),(9,aa),(10,aa),(12,aa)],bw⟩,[(.exit 6,⟨[(0,cg),(1,aa),(2,aa),(3,.fn cC [] []),(9,aa),(10,aa),(12,aa)],bw⟩)])
def apf:Shape×List (Out×Shape):=(⟨[(0,cg),(1,aa),(2,aa),(3,.fn cC [] []),(9,aa),(10,aa)],bw⟩,[(.ret,⟨[(8,an)],bw⟩),(.exit 0,⟨[(0,cg),(1,aa),(2,aa),(3,.fn cC [] []),(9,aa),(10,aa),(16,an)],bw⟩)])
def apg:Shape×List (Out×Shape):=(⟨[(0,cg),(1,aa),(4,.fn cC [] []),(11,aa),(12,aa)],bw⟩,[(.exit 2,⟨[(0,cg),(1,aa),(4,.fn cC [] []),(11,aa),(12,aa),(47,an)],bw⟩)])
def aph:Shape×List (Out×Shape):=(⟨[(0,cg),(1,aa),(4,.fn cC [] []),(11,aa),(12,aa)],bw⟩,[(.exit 4,⟨[(0,cg),(1,aa),(4,.fn cC [] []),(11,aa),(12,aa),(65,an)],bw⟩)])
def api:Shape×List (Out×Shape):=(⟨[(0,cg),(1,aa),(4,.fn cC [] []),(11,aa),(12,aa)],bw⟩,[(.exit 0,⟨[(0,cg),(1,aa),(4,.fn cC [] []),(11,aa),(12,aa),(70,an)],bw⟩)])
def apj:Shape×List (Out×Shape):=(⟨[(0,cg),(1,aa),(4,.fn cC [] []),(12,aa),(13,aa)],bw⟩,[(.exit 0,⟨[(0,cg),(1,aa),(4,.fn cC [] []),(12,aa),(13,aa),(47,an)],bw⟩)])
def apk:Shape×List (Out×Shape):=(⟨[(0,cg),(1,aa),(4,.fn cC [] []),(12,aa),(13,aa)],bw⟩,[(.exit 2,⟨[(0,cg),(1,aa),(4,.fn cC [] []),(12,aa),(13,aa),(66,an)],bw⟩)])
def apl:Shape×List (Out×Shape):=(⟨[(0,cg),(1,aa),(4,.fn cC [] []),(12,aa),(13,aa)],bw⟩,[(.exit 6,⟨[(0,cg),(1,aa),(4,.fn cC [] []),(12,aa),(13,aa),(120,an)],bw⟩)])
def apm:Shape×List (Out×Shape):=(⟨[(0,cg),(1,aa),(4,.fn cC [] []),(12,aa),(13,aa)],bw⟩,[(.exit 8,⟨[(0,cg),(1,aa),(4,.fn cC [] []),(12,aa),(13,aa),(139,an)],bw⟩)])
def apn:Shape×List (Out×Shape):=(⟨[(0,cg),(1,aa),(4,.fn cC [] []),(12,aa),(13,aa)],bw⟩,[(.exit 4,⟨[(0,cg),(1,aa),(4,.fn cC [] []),(12,aa),(13,aa),(144,an)],bw⟩)])
def apo:Shape×List (Out×Shape):=(⟨[(0,jl),(2,aa),(4,an)],[]⟩,[(.norm,⟨[(0,jl),(2,aa)],[]⟩)])
def apq:Shape×List (Out×Shape):=(⟨[(0,jl),(2,aa),(8,an)],[]⟩,[(.norm,⟨[(0,jl),(2,aa)],[]⟩)])
def apr:Shape×List (Out×Shape):=(⟨[(0,cg),(2,aa),(3,aa),(4,.fn cC [] []),(10,aa),(11,aa),(40,an)],bw⟩,[(.norm,⟨[(0,cg),(2,aa),(3,aa),(4,.fn cC [] []),(10,aa),(11,aa)],bw⟩)])
def aps:Shape×List (Out×Shape):=(⟨[(0,cg),(2,aa),(3,aa),(4,.fn cC [] []),(10,aa)],bw⟩,[(.exit 0,⟨[(0,cg),(2,aa),(3,aa),(4,.fn cC [] []),(10,aa),(11,aa),(18,an)],bw⟩),(.ret,⟨[(0,cg),(2,aa),(3,aa),(4,.fn cC [] []),(10,aa),(11,aa),(58,an)],bw⟩)])
def apt:Shape×List (Out×Shape):=(⟨[(0,dD),(1,.fn xW [] []),(7,aa),(8,aa)],[]⟩,[(.ret,⟨Ad,[]⟩),(.exit 0,⟨[(0,dD),(1,.fn xW [] []),(7,aa),(8,aa),(9,an)],[]⟩)])
def apu:Shape×List (Out×Shape):=(⟨[(0,cg),(1,.fn xU [] []),(5,aa),(6,aa)],bw⟩,[(.exit 0,⟨[(0,cg),(1,.fn xU [] []),(5,aa),(6,aa),(19,an)],bw⟩)])
def apv:Shape×List (Out×Shape):=(⟨[(0,cg),(1,.fn zR [] []),(5,aa),(6,aa)],bw⟩,[(.exit 0,⟨[(0,cg),(1,.fn zR [] []),(5,aa),(6,aa),(19,an)],bw⟩)])
def apw:Shape×List (Out×Shape):=(⟨[(0,dD),(1,.fn zR [] []),(7,aa),(8,aa)],[]⟩,[(.ret,⟨Ad,[]⟩),(.exit 0,⟨[(0,dD),(1,.fn zR [] []),(7,aa),(8,aa),(9,an)],[]⟩)])
def apx:Shape×List (Out×Shape):=(⟨[(1,.fn C4 [] [.ax 0 0 0]),(4,aa),(5,jl),(6,dP),(7,aa),(8,aa)],g0⟩,[(.exit 2,⟨[(1,.fn C4 [] [.ax 0 0 0]),(4,aa),(5,jl),(6,dP),(7,aa),(8,aa),(14,an)],g0⟩)])
def apy:Shape×List (Out×Shape):=(⟨[(1,.fn C4 [] [.ax 0 0 0]),(6,dP),(7,aa),(8,aa)],g0⟩,[(.exit 0,⟨[(1,.fn C4 [] [.ax 0 0 0]),(6,dP),(7,aa),(8,aa),(9,an)],g0⟩)])
def apz:Shape×List (Out×Shape):=(⟨[(1,.fn C8 [] [.ax 0 0 0,.ax 1 0 0,.ax 2 0 0]),(4,aa),(5,jl),(6,dP),(7,aa),(8,aa)],yg⟩,[(.exit 2,⟨[(1,.fn C8 [] [.ax 0 0 0,.ax 1 0 0,.ax 2 0 0]),(4,aa),(5,jl),(6,dP),(7,aa),(8,aa),(14,an)],yg⟩)])
def apA:Shape×List (Out×Shape):=(⟨[(1,.fn C8 [] [.ax 0 0 0,.ax 1 0 0,.ax 2 0 0]),(6,dP),(7,aa),(8,aa)],yg⟩,[(.exit 0,⟨[(1,.fn C8 [] [.ax 0 0 0,.ax 1 0 0,.ax 2 0 0]),(6,dP),(7,aa),(8,aa),(9,an)],yg⟩)])
def apB:Shape×List (Out×Shape):=(⟨[(1,.fn C7 [] [.ax 0 0 0,.ax 1 0 0,.ax 2 0 0]),(4,aa),(5,jl),(6,dP),(7,aa),(8,aa)],uF⟩,[(.exit 2,⟨[(1,.fn C7 [] [.ax 0 0 0,.ax 1 0 0,.ax 2 0 0]),(4,aa),(5,jl),(6,dP),(7,aa),(8,aa),(14,an)],uF⟩)])
def apC:Shape×List (Out×Shape):=(⟨[(1,.fn C7 [] [.ax 0 0 0,.ax 1 0 0,.ax 2 0 0]),(6,dP),(7,aa),(8,aa)],uF⟩,[(.exit 0,⟨[(1,.fn C7 [] [.ax 0 0 0,.ax 1 0 0,.ax 2 0 0]),(6,dP),(7,aa),(8,aa),(9,an)],uF⟩)])
def apD:Shape×List (Out×Shape):=(⟨[(1,.fn C6 [] [.ax 0 0 0,.ax 1 0 0]),(4,aa),(5,jl),(6,dP),(7,aa),(8,aa)],rV⟩,[(.exit 2,⟨[(1,.fn C6 [] [.ax 0 0 0,.ax 1 0 0]),(4,aa),(5,jl),(6,dP),(7,aa),(8,aa),(14,an)],rV⟩)])
def apE:Shape×List (Out×Shape):=(⟨[(1,.fn C6 [] [.ax 0 0 0,.ax 1 0 0]),(6,dP),(7,aa),(8,aa)],rV⟩,[(.exit 0,⟨[(1,.fn C6 [] [.ax 0 0 0,.ax 1 0 0]),(6,dP),(7,aa),(8,aa),(9,an)],rV⟩)])
def apF:Shape×List (Out×Shape):=(⟨[(1,.fn CY [] [.ax 0 0 0,.ax 1 0 0]),(4,aa),(5,jl),(6,dP),(7,aa),(8,aa)],rV⟩,[(.exit 2,⟨[(1,.fn CY [] [.ax 0 0 0,.ax 1 0 0]),(4,aa),(5,jl),(6,dP),(7,aa),(8,aa),(14,an)],rV⟩)])
def apG:Shape×List (Out×Shape):=(⟨[(1,.fn CY [] [.ax 0 0 0,.ax 1 0 0]),(6,dP),(7,aa),(8,aa)],rV⟩,[(.exit 0,⟨[(1,.fn CY [] [.ax 0 0 0,.ax 1 0 0]),(6,dP),(7,aa),(8,aa),(9,an)],rV⟩)])
def apH:Shape×List (Out×Shape):=(⟨[(1,.fn CZ [] [.ax 0 0 0,.ax 1 0 0,.ax 2 0 0,.ax 3 0 0]),(4,aa),(5,jl),(6,dP),(7,aa),(8,aa)],yh⟩,[(.exit 2,⟨[(1,.fn CZ [] [.ax 0 0 0,.ax 1 0 0,.ax 2 0 0,.ax 3 0 0]),(4,aa),(5,jl),(6,dP),(7,aa),(8,aa),(14,an)],yh⟩)])
def apI:Shape×List (Out×Shape):=(⟨[(1,.fn CZ [] [.ax 0 0 0,.ax 1 0 0,.ax 2 0 0,.ax 3 0 0]),(6,dP),(7,aa),(8,aa)],yh⟩,[(.exit 0,⟨[(1,.fn CZ [] [.ax 0 0 0,.ax 1 0 0,.ax 2 0 0,.ax 3 0 0]),(6,dP),(7,aa),(8,aa),(9,an)],yh⟩)])
def apJ:Shape×List (Out×Shape):=(⟨[(1,.fn C3 [] [.ax 0 0 0,.ax 1 0 0,.ax 2 0 0]),(4,aa),(5,jl),(6,dP),(7,aa),(8,aa)],Dt⟩,[(.exit 2,⟨[(1,.fn C3 [] [.ax 0 0 0,.ax 1 0 0,.ax 2 0 0]),(4,aa),(5,jl),(6,dP),(7,aa),(8,aa),(14,an)],Dt⟩)])
def apK:Shape×List (Out×Shape):=(⟨[(1,.fn C3 [] [.ax 0 0 0,.ax 1 0 0,.ax 2 0 0]),(6,dP),(7,aa),(8,aa)],Dt⟩,[(.exit 0,⟨[(1,.fn C3 [] [.ax 0 0 0,.ax 1 0 0,.ax 2 0 0]),(6,dP),(7,aa),(8,aa),(9,an)],Dt⟩)])
def apL:Shape×List (Out×Shape):=(⟨[(2,.fn MG [] [.ax 0 0 0,.ax 1 0 0]),(3,dg),(13,tc),(14,aa),(15,aa)],[uC,uC,uD]⟩,[(.exit 0,⟨[(2,.fn MG [] [.ax 0 0 0,.ax 1 0 0]),(3,dg),(13,tc),(14,aa),(15,aa),(16,an)],[uC,uC,uD]⟩)])
def apM:Shape×List (Out×Shape):=(⟨[(0,dD),(1,.fn Gq [] []),(7,aa),(8,aa)],[]⟩,[(.ret,⟨Ad,[]⟩),(.exit 0,⟨[(0,dD),(1,.fn Gq [] []),(7,aa),(8,aa),(9,an)],[]⟩)])
def apO:Shape×List (Out×Shape):=(⟨[(2,.fn MH [] [.ax 0 0 0]),(3,ch),(13,tc),(14,aa),(15,aa)],[mP,uD]⟩,[(.exit 0,⟨[(2,.fn MH [] [.ax 0 0 0]),(3,ch),(13,tc),(14,aa),(15,aa),(16,an)],[mP,uD]⟩)])
def apP:List (Nat×FuncId):=[(3,QA),
 (4,KN),
 (5,KU),
 (6,xu),
 (7,yY),
 (8,xA),
 (9,zg),
 (10,Kt),
 (11,Fy),
 (12,KM),
 (13,Md),
 (14,Me),
 (15,uB),
 (16,B4),
 (17,Qd),
 (18,Mf),
 (19,Mg),
 (20,Mh),
 (21,CR),
 (22,Sl),
 (23,oN),
 (24,Ky),
 (25,KJ),
 (26,KL),
 (27,Fb),
 (28,qs),
 (29,Mi),
 (30,wc),
 (31,we),
 (32,Mj),
 (33,Kp),
 (34,qt),
 (35,Ko),
 (36,E4),
 (37,Sm),
 (38,Sn),
 (39,So),
 (40,Sp),
 (41,CS),
 (42,Sq),
 (43,ami),
 (44,amj),
 (45,amk),
 (46,abn),
 (47,aml),
 (48,amm),
 (49,Ks),
 (50,ze),
 (51,Gl),
 (52,CT),
 (53,Mk),
 (54,Ml),
 (55,Gm),
 (56,BZ),
 (57,jy),
 (58,Gn),
 (59,Gp),
 (60,amn),
 (61,amo),
 (62,Mm),
 (63,amp),
 (64,xR),
 (65,xS),
 (66,Gq),
 (67,amq),
 (68,amr),
 (69,ams),
 (70,amt),
 (71,xT),
 (72,CU),
 (73,Mn),
 (74,wg),
 (75,wh),
 (76,Mo),
 (78,Mp),
 (79,Mq),
 (80,BY),
 (81,CV),
 (82,CW),
 (83,CX),
 (84,Gr),
 (85,Gs),
 (86,amu),
 (87,amv),
 (88,amw),
 (89,amx),
 (90,amy),
 (91,amz),
 (92,Sr),
 (93,CY),
 (94,amA),
 (95,xU),
 (96,CZ),
 (97,C3),
 (98,C4),
 (99,C6),
 (100,C7),
 (101,C8),
 (102,amB),
 (103,Gt),
 (104,Mr),
 (105,Ms),
 (106,Gu),
 (107,Mt),
 (108,gg),
 (109,nt),
 (110,lY),
 (111,Mu),
 (112,Mv),
 (113,Gv),
 (114,Mw),
 (115,Gw),
 (116,Gx),
 (117,Gy),
 (118,Mx),
 (119,abo),
 (120,fI),
 (121,C9),
 (122,Gz),
 (123,My),
 (124,xV),
 (125,GA),
 (126,GB),
 (127,amC),
 (128,amD),
 (129,amE),
 (130,amF),
 (131,amG),
 (132,amH),
 (133,amI),
 (134,amJ),
 (135,Mz),
 (136,xW),
 (137,Db),
 (138,Dc),
 (139,MA),
 (140,xX),
 (141,GC),
 (142,GD),
 (143,GF),
 (144,amK),
 (145,amL),
 (146,amM),
 (147,amN),
 (148,amO),
 (149,GG),
 (151,MB),
 (152,MC),
 (153,MD),
 (154,ME),
 (155,Ss),
 (156,MF),
 (157,zQ),
 (160,MG),
 (161,nr),
 (162,GH),
 (163,Su),
 (164,amP),
 (165,Sv),
 (166,amQ),
 (167,amR),
 (168,amS),
 (169,amT),
 (170,zR),
 (171,amU),
 (173,amV),
 (174,amW),
 (175,amX),
 (176,amY),
 (177,amZ),
 (178,am0),
 (179,rR),
 (180,MH),
 (181,am1),
 (182,cC),
 (183,am2),
 (184,Dd),
 (186,am3),
 (187,am4),
 (188,am5),
 (189,am6),
 (190,am7),
 (191,am8),
 (193,am9),
 (194,ana),
 (195,anb),
 (196,anc),
 (197,ane),
 (198,anf),
 (199,ang),
 (200,anh),
 (202,ani),
 (203,anj),
 (204,ank),
 (205,anl),
 (206,anm),
 (207,ano),
 (208,anp),
 (209,anq),
 (231,Gt),
 (232,Gl),
 (233,Sr),
 (234,Mz),
 (235,Sv),
 (236,Sv),
 (237,Mz),
 (238,xT),
 (239,abn),
 (240,xT),
 (241,xT),
 (242,xT),
 (243,xT),
 (244,xT),
 (245,xT),
 (246,abp),
 (247,Sr),
 (248,Mz),
 (249,abp)]
def apQ:List (Nat×Shape):=[(3,⟨G3,[]⟩),
 (4,⟨M6,[]⟩),
 (5,⟨[(0,wk),(1,wk),(2,aa)],[]⟩),
 (6,⟨yi,[]⟩),
 (7,⟨M7,[]⟩),
 (8,⟨yi,[]⟩),
 (9,⟨[],[]⟩),
 (10,⟨G3,[]⟩),
 (11,⟨Du,uH⟩),
 (12,⟨kf,uH⟩),
 (13,⟨[(0,wk),(1,wk)],[]⟩),
 (14,⟨[(0,wk),(1,wk),(2,aa)],[]⟩),
 (15,⟨yi,[]⟩),
 (16,⟨[(0,wk),(1,aa)],[]⟩),
 (17,⟨M7,[]⟩),
 (18,⟨dv,[]⟩),
 (19,⟨Ae,[]⟩),
 (20,⟨Te,[]⟩),
 (21,⟨dv,[]⟩),
 (22,⟨[(0,qK),(1,iP)],[]⟩),
 (23,⟨G4,uH⟩),
 (24,⟨Du,uH⟩),
 (25,⟨Du,uH⟩),
 (26,⟨G4,uH⟩),
 (27,⟨Du,uH⟩),
 (28,⟨yi,[]⟩),
 (29,⟨[(0,aa),(1,Dl),(2,.fn wc [] [.ax 0 0 0,.ax 1 0 0]),(3,.fn we [] [.ax 0 0 0,.ax 1 0 0,.ax 2 0 0])],Ta⟩),
 (30,⟨[(0,Dl),(1,aa),(2,aR),(3,ch)],[e7,e7]⟩),
 (31,⟨[(0,Dl),(1,aR),(2,ch),(3,dg)],Ta⟩),
 (32,⟨yi,[]⟩),
 (33,⟨dv,[]⟩),
 (34,⟨yi,[]⟩),
 (35,⟨[],[]⟩),
 (36,⟨[(0,zZ),(1,aa),(2,aa)],[]⟩),
 (37,⟨Ae,[]⟩),
 (38,⟨Ae,[]⟩),
 (39,⟨mQ,[]⟩),
 (40,⟨kf,GZ⟩),
 (41,⟨kf,GZ⟩),
 (42,⟨kf,GZ⟩),
 (43,⟨mQ,[]⟩),
 (44,⟨[(0,iP),(1,aa)],[]⟩),
 (45,⟨[(0,SW)],[]⟩),
 (46,⟨[(0,MP),(1,aa)],[ow]⟩),
 (47,⟨M8,[]⟩),
 (48,⟨[(0,dP),(1,aa)],[]⟩),
 (49,⟨G5,[]⟩),
 (50,⟨G5,[]⟩),
 (51,⟨[(0,aR),(1,Dl)],[.var 96 [.one (.whole jV 1),.one (.eU lG)],wu]⟩),
 (52,⟨yi,[]⟩),
 (53,⟨yi,[]⟩),
 (54,⟨[(0,aR),(1,wk)],[.var 101 [.one (.nilS ag),abE,aa]]⟩),
 (55,⟨kf,[.var 101 [pT,.one (.whole kQ 2),aa],lI,wo]⟩),
 (56,⟨[],[]⟩),
 (57,⟨[(0,.agg [.str,.bool,.int .i64,.int .i64,.str,.str])],[]⟩),
 (58,⟨[(0,zZ),(1,aa)],[]⟩),
 (59,⟨[(0,cX),(1,dt),(2,GS),(3,aa)],[]⟩),
 (60,⟨mQ,[]⟩),
 (61,⟨Ae,[]⟩),
 (62,⟨[(0,aR),(1,qK)],GZ⟩),
 (63,⟨mQ,[]⟩),
 (64,⟨Ae,[]⟩),
 (65,⟨mQ,[]⟩),
 (66,⟨mQ,[]⟩),
 (67,⟨[(0,SW),(1,dD),(2,dP)],[]⟩),
 (68,⟨M8,[]⟩),
 (69,⟨M8,[]⟩),
 (70,⟨M8,[]⟩),
 (71,⟨[(0,dP),(1,.fn CU [] [.ax 0 0 0,.ax 1 0 0,.ax 2 0 0])],uE⟩),
 (72,⟨M9,uE⟩),
 (73,⟨[(0,aa),(1,aa),(2,.fn wg [] [.ax 0 0 0]),(3,.fn wh [] [.ax 0 0 0])],qP⟩),
 (74,⟨[(0,aa),(1,aa),(2,aR)],qP⟩),
 (75,⟨Tf,qP⟩),
 (76,⟨[(0,cX),(1,an)],[]⟩),
 (78,⟨M6,[]⟩),
 (79,⟨[(0,.agg [.int .i64,.list ak,.int .i64]),(1,dt)],[]⟩),
 (80,⟨[(0,iP)],[]⟩),
 (81,⟨[(0,zZ)],[]⟩),
 (82,⟨[(0,cX),(1,dt),(2,GS)],[]⟩),
 (83,⟨kf,G0⟩),
 (84,⟨G4,G0⟩),
 (85,⟨kf,G0⟩),
 (86,⟨[(0,qK),(1,aa),(2,aR)],g0⟩),
 (87,⟨Te,[]⟩),
 (88,⟨Na,[]⟩),
 (89,⟨Nb,[]⟩),
 (90,⟨[(0,aR),(1,qK)],G1⟩),
 (91,⟨kf,G1⟩),
 (92,⟨[(0,dD),(1,.fn xU [] [])],[]⟩),
 (93,⟨Tg,M4⟩),
 (94,⟨[(0,MP),(1,dP),(2,aa)],[ow]⟩),
 (95,⟨mQ,[]⟩),
 (96,⟨[(0,aa),(1,aR),(2,ch),(3,dg),(4,kb)],yh⟩),
 (97,⟨M9,[Dn,.var 86 [.one (.whole wi 3)],z0,ow,iv]⟩),
 (98,⟨Tf,g0⟩),
 (99,⟨Tg,M4⟩),
 (100,⟨M9,uF⟩),
 (101,⟨M9,yg⟩),
 (102,⟨G6,[]⟩),
 (103,⟨G4,[.var 180 [pU,.one (.eU jW)],aY]⟩),
 (104,⟨[(0,cX),(1,an)],[]⟩),
 (105,⟨kf,pX⟩),
 (106,⟨kf,pX⟩),
 (107,⟨M6,[]⟩),
 (108,⟨kf,ox⟩),
 (109,⟨[(0,aR),(1,Dk)],ox⟩),
 (110,⟨[(0,GS)],[]⟩),
 (111,⟨[(0,zZ)],[]⟩),
 (112,⟨[(0,zZ)],[]⟩),
 (113,⟨M7,[]⟩),
 (114,⟨[(0,GM),(1,GM)],[]⟩),
 (115,⟨[(0,ta),(1,ta)],[]⟩),
 (116,⟨Af,[]⟩),
 (117,⟨[(0,cX),(1,dt)],[]⟩),
 (118,⟨Af,[]⟩),
 (119,⟨[(0,tc)],[]⟩),
 (120,⟨[(0,qL)],[]⟩),
 (121,⟨[(0,cX),(1,dt),(2,GS)],[]⟩),
 (122,⟨[(0,cX),(1,aa),(2,MN)],[]⟩),
 (123,⟨[(0,cX),(1,.fn xV [] [])],[]⟩),
 (124,⟨G3,[]⟩),
 (125,⟨[(0,aR),(1,rS),(2,pU)],[pW,aY]⟩),
 (126,⟨kf,G0⟩),
 (127,⟨[(0,dD)],[]⟩),
 (128,⟨[(0,dD)],[]⟩),
 (129,⟨[(0,dD)],[]⟩),
 (130,⟨[],[]⟩),
 (131,⟨Nb,[]⟩),
 (132,⟨Nb,[]⟩),
 (133,⟨[(0,aR),(1,Dk)],G1⟩),
 (134,⟨[(0,aR),(1,dD),(2,iP),(3,aa)],G1⟩),
 (135,⟨[(0,dD),(1,.fn xU [] [])],[]⟩),
 (136,⟨mQ,[]⟩),
 (137,⟨G3,[]⟩),
 (138,⟨[(0,aR),(1,dt),(2,aa),(3,aa),(4,iP),(5,aa)],pX⟩),
 (139,⟨dv,[]⟩),
 (140,⟨G3,[]⟩),
 (141,⟨M7,[]⟩),
 (142,⟨Du,pX⟩),
 (143,⟨Du,pX⟩),
 (144,⟨kf,ox⟩),
 (145,⟨[(0,Dk)],[]⟩),
 (146,⟨kf,ox⟩),
 (147,⟨kf,ox⟩),
 (148,⟨[(0,qL)],[]⟩),
 (149,⟨M6,[]⟩),
 (151,⟨Af,[]⟩),
 (152,⟨[(0,cX),(1,dt)],[]⟩),
 (153,⟨Af,[]⟩),
 (154,⟨Af,[]⟩),
 (155,⟨[(0,dt),(1,.fn zQ [] [.ax 0 0 0])],uG⟩),
 (156,⟨Af,[]⟩),
 (157,⟨Tf,uG⟩),
 (160,⟨[(0,qL),(1,qL),(2,aR),(3,ch)],GY⟩),
 (161,⟨[(0,tc)],[]⟩),
 (162,⟨[(0,cX),(1,aa),(2,aa)],[]⟩),
 (163,⟨[(0,cX),(1,.fn xV [] [])],[]⟩),
 (164,⟨[],[]⟩),
 (165,⟨[(0,cg),(1,.fn xW [] [])],bw⟩),
 (166,⟨Te,[]⟩),
 (167,⟨[(0,aa),(1,dD),(2,qK)],[]⟩),
 (168,⟨Ag,bw⟩),
 (169,⟨[],[]⟩),
 (170,⟨mQ,[]⟩),
 (171,⟨Nb,[]⟩),
 (173,⟨[(0,aR),(1,iP)],G1⟩),
 (174,⟨dv,[]⟩),
 (175,⟨[(0,iP),(1,Dk)],[]⟩),
 (176,⟨kf,ox⟩),
 (177,⟨kf,ox⟩),
 (178,⟨[(0,qL),(1,aa)],[]⟩),
 (179,⟨Tg,[.var 23 [abH],.var 22 [lH],bQ,S3]⟩),
 (180,⟨[(0,qL),(1,qL),(2,aR)],g0⟩),
 (181,⟨[(0,cg),(1,.fn cC [] [])],bw⟩),
 (182,⟨[(0,qK),(1,qK)],[]⟩),
 (183,⟨[(0,cg),(1,.fn Dd [] [])],bw⟩),
 (184,⟨[(0,qK),(1,qK)],[]⟩),
 (186,⟨[(0,iP),(1,Dk)],[]⟩),
 (187,⟨[(0,qL)],[]⟩),
 (188,⟨[(0,cg),(1,aa),(2,aa),(3,aa),(4,.fn cC [] [])],bw⟩),
 (189,⟨G6,[]⟩),
 (190,⟨G5,[]⟩),
 (191,⟨[(0,dD),(1,dD),(2,.fn cC [] [])],[]⟩),
 (193,⟨[(0,cg),(1,aa),(2,aa),(3,.fn cC [] [])],bw⟩),
 (194,⟨[(0,cg),(1,aa),(2,aa),(3,.fn cC [] [])],bw⟩),
 (195,⟨[(0,cg),(1,aa),(2,aa),(3,.fn cC [] [])],bw⟩),
 (196,⟨[(0,dD),(1,aa),(2,aa),(3,.fn cC [] [])],[]⟩),
 (197,⟨[(0,cg),(1,aa),(2,aa),(3,.fn cC [] [])],bw⟩),
 (198,⟨[(0,cg),(1,aa),(2,aa),(3,.fn cC [] [])],bw⟩),
 (199,⟨[(0,cg),(1,aa),(2,aa),(3,aa),(4,.fn cC [] [])],bw⟩),
 (200,⟨[(0,cg),(1,aa),(2,aa),(3,aa),(4,.fn cC [] [])],bw⟩),
 (202,⟨G6,[]⟩),
 (203,⟨dv,[]⟩),
 (204,⟨[(0,cg),(1,aa),(2,aa),(3,aa),(4,.fn cC [] [])],bw⟩),
 (205,⟨dv,[]⟩),
 (206,⟨kf,[SZ]⟩),
 (207,⟨[(0,dD),(1,aa),(2,aR),(3,.fn cC [] [])],g0⟩),
 (208,⟨[(0,dD),(1,aa),(2,aa),(3,aa),(4,aR),(5,.fn cC [] [])],g0⟩),
 (209,⟨[(0,dD),(1,aa),(2,aa),(3,aR),(4,.fn cC [] [])],g0⟩),
 (231,⟨G4,[.var 180 [pU,.one (.cG jW 2)],aY,.map jW]⟩),
 (232,⟨[(0,aR),(1,Dl)],[.var 96 [.one (.whole jV 1),.one (.cG lG 2)],wu,.map lG]⟩),
 (233,⟨[(0,dD),(1,.fn xW [] [])],[]⟩),
 (234,⟨[(0,dD),(1,.fn xW [] [])],[]⟩),
 (235,⟨[(0,cg),(1,.fn xU [] [])],bw⟩),
 (236,⟨[(0,cg),(1,.fn zR [] [])],bw⟩),
 (237,⟨[(0,dD),(1,.fn zR [] [])],[]⟩),
 (238,⟨[(0,dP),(1,.fn C4 [] [.ax 0 0 0])],g0⟩),
 (239,⟨[(0,.one (.row wi 0 [0])),(1,aa)],[iv]⟩),
 (240,⟨[(0,dP),(1,.fn C8 [] [.ax 0 0 0,.ax 1 0 0,.ax 2 0 0])],yg⟩),
 (241,⟨[(0,dP),(1,.fn C7 [] [.ax 0 0 0,.ax 1 0 0,.ax 2 0 0])],uF⟩),
 (242,⟨[(0,dP),(1,.fn C6 [] [.ax 0 0 0,.ax 1 0 0])],M4⟩),
 (243,⟨[(0,dP),(1,.fn CY [] [.ax 0 0 0,.ax 1 0 0])],M4⟩),
 (244,⟨[(0,dP),(1,.fn CZ [] [.ax 0 0 0,.ax 1 0 0,.ax 2 0 0,.ax 3 0 0])],yh⟩),
 (245,⟨[(0,dP),(1,.fn C3 [] [.ax 0 0 0,.ax 1 0 0,.ax 2 0 0])],[Dn,.var 86 [.one (.whole wi 3)],z0,ow,iv]⟩),
 (246,⟨[(0,qL),(1,qL),(2,.fn MG [] [.ax 0 0 0,.ax 1 0 0])],GY⟩),
 (247,⟨[(0,dD),(1,.fn Gq [] [])],[]⟩),
 (248,⟨[(0,dD),(1,.fn Gq [] [])],[]⟩),
 (249,⟨[(0,qL),(1,qL),(2,.fn MH [] [.ax 0 0 0])],g0⟩)]
def apR:List (Nat×Shape):=[(3,⟨dJ,[]⟩),
 (4,⟨[(0,zY)],[bQ,lI]⟩),
 (5,⟨Th,M5⟩),
 (6,⟨[(0,nF),(1,an)],ml⟩),
 (7,⟨dJ,[]⟩),
 (8,⟨dv,[]⟩),
 (9,⟨dJ,[]⟩),
 (10,⟨kf,uH⟩),
 (11,⟨G7,G2⟩),
 (12,⟨dv,uH⟩),
 (13,⟨[(0,zY),(1,.agg [.int .i64,.int .i64,.whole ak 2,.whole ag 3]),(2,aa)],[bQ,bh,bQ,bh]⟩),
 (14,⟨Th,M5⟩),
 (15,⟨[(0,zY)],M5⟩),
 (16,⟨[(0,nF),(1,aa)],ml⟩),
 (17,⟨dJ,[]⟩),
 (18,⟨dJ,[]⟩),
 (19,⟨Th,M5⟩),
 (20,⟨mQ,[]⟩),
 (21,⟨Nc,bw⟩),
 (22,⟨dJ,[]⟩),
 (23,⟨dv,uH⟩),
 (24,⟨G7,G2⟩),
 (25,⟨G7,G2⟩),
 (26,⟨G7,G2⟩),
 (27,⟨G7,G2⟩),
 (28,⟨dv,[]⟩),
 (29,⟨[(0,.agg [.int .i64,.int .i64,.whole ak 3,.whole ag 4]),(1,.one (.whole jV 5)),(2,aa)],[e7,e7,mP,bQ,bh,wu]⟩),
 (30,⟨[(0,Dl)],[e7,e7]⟩),
 (31,⟨dJ,Ta⟩),
 (32,⟨[(0,zY),(1,zW)],[bQ,bh,aY]⟩),
 (33,⟨dJ,[]⟩),
 (34,⟨[(0,zZ),(1,aa)],[]⟩),
 (35,⟨[(0,abL)],[S4]⟩),
 (36,⟨[(0,an),(1,aa),(2,nF),(3,aa),(4,aa)],ml⟩),
 (37,⟨dv,[]⟩),
 (38,⟨kf,GZ⟩),
 (39,⟨mQ,[]⟩),
 (40,⟨dJ,MV⟩),
 (41,⟨dv,MV⟩),
 (42,⟨[(0,.agg [.int .i64,.int .i64,.whole ak 4,.whole ag 5])],[.var 126 [aa,zX,Dg,aa,zV],.dead,.dead,.map cF,bQ,bh,dI]⟩),
 (43,⟨dJ,[]⟩),
 (44,⟨dJ,[]⟩),
 (45,⟨[(0,MP)],[ow]⟩),
 (46,⟨[],[ow]⟩),
 (47,⟨G8,[iv]⟩),
 (48,⟨dJ,[]⟩),
 (49,⟨dv,[]⟩),
 (50,⟨[(0,SP)],[jm]⟩),
 (51,⟨dv,[.var 96 [.one (.whole jV 2),.one (.cG lG 3)],.dead,wu,.map lG]⟩),
 (52,⟨[(0,zY),(1,zW)],[bQ,bh,aY]⟩),
 (53,⟨G9,ml⟩),
 (54,⟨dv,[.var 101 [pT,.one (.whole kQ 2),aa],lI,wo]⟩),
 (55,⟨[(0,zZ),(1,.one (.list ov)),(2,aa)],[.var 101 [pT,.one (.whole kQ 3),aa],z8,.dead,wo]⟩),
 (56,⟨[(0,abP)],[GX]⟩),
 (57,⟨[(0,.agg [.str,.bool,.whole iq 0,.int .i64,.int .i64])],[z9]⟩),
 (58,⟨[(0,nF),(1,aa)],ml⟩),
 (59,⟨[(0,nF),(1,aa),(2,aa)],ml⟩),
 (60,⟨dJ,[]⟩),
 (61,⟨dJ,[]⟩),
 (62,⟨dv,MV⟩),
 (63,⟨mQ,[]⟩),
 (64,⟨Ae,[]⟩),
 (65,⟨[(0,iP)],[]⟩),
 (66,⟨dJ,[]⟩),
 (67,⟨G8,[iv]⟩),
 (68,⟨G8,[iv]⟩),
 (69,⟨G8,[iv]⟩),
 (70,⟨G8,[iv]⟩),
 (71,⟨[],uE⟩),
 (72,⟨[],uE⟩),
 (73,⟨[(0,abQ),(1,lH),(2,aa)],[e7,bQ,bh,aY]⟩),
 (74,⟨dv,qP⟩),
 (75,⟨dJ,qP⟩),
 (76,⟨[(0,.agg [.int .i64,.bool,.whole ag 0,.whole ag 1,.whole ab 2,.whole ab 3,.whole ag 4,.whole eu 5,.int .i64]),(1,aa)],[bh,bh,aY,aY,bh,oV]⟩),
 (78,⟨dJ,[]⟩),
 (79,⟨dJ,[]⟩),
 (80,⟨[(0,GS),(1,aa),(2,aa)],[]⟩),
 (81,⟨dv,[]⟩),
 (82,⟨[(0,aR),(1,.one (.Bu .i64 0))],G0⟩),
 (83,⟨dJ,Ab⟩),
 (84,⟨[(0,aa),(1,an),(2,an)],Ab⟩),
 (85,⟨[(0,lH)],Aa⟩),
 (86,⟨dJ,g0⟩),
 (87,⟨mQ,[]⟩),
 (88,⟨Ae,[]⟩),
 (89,⟨Na,[]⟩),
 (90,⟨[],tf⟩),
 (91,⟨[(0,iP)],[.var 172 [zT,zT],.dead]⟩),
 (92,⟨dJ,[]⟩),
 (93,⟨[],rV⟩),
 (94,⟨[],[ow]⟩),
 (95,⟨dJ,[]⟩),
 (96,⟨[],yh⟩),
 (97,⟨[],Dt⟩),
 (98,⟨[],g0⟩),
 (99,⟨[],rV⟩),
 (100,⟨[],uF⟩),
 (101,⟨[],yg⟩),
 (102,⟨dv,[]⟩),
 (103,⟨dv,[.var 180 [zW,.one (.cG jW 3)],.dead,aY,.map jW]⟩),
 (104,⟨[(0,aR),(1,.one (.Bu .i64 0))],pX⟩),
 (105,⟨dJ,S8⟩),
 (106,⟨dv,S8⟩),
 (107,⟨dv,[]⟩),
 (108,⟨Ti,ox⟩),
 (109,⟨dJ,ox⟩),
 (110,⟨dv,[]⟩),
 (111,⟨dJ,[]⟩),
 (112,⟨[(0,zY)],[bQ,lI]⟩),
 (113,⟨dJ,[]⟩),
 (114,⟨dJ,[]⟩),
 (115,⟨dJ,[]⟩),
 (116,⟨dv,[]⟩),
 (117,⟨dJ,[]⟩),
 (118,⟨dv,[]⟩),
 (119,⟨dJ,[]⟩),
 (120,⟨[(0,.one (.whole bG 0))],[S5]⟩),
 (121,⟨Af,[]⟩),
 (122,⟨kf,[pW]⟩),
 (123,⟨dJ,[]⟩),
 (124,⟨dJ,[]⟩),
 (125,⟨dv,[pW,aY]⟩),
 (126,⟨dJ,Ab⟩),
 (127,⟨mQ,[]⟩),
 (128,⟨mQ,[]⟩),
 (129,⟨mQ,[]⟩),
 (130,⟨Nc,bw⟩),
 (131,⟨Na,[]⟩),
 (132,⟨Na,[]⟩),
 (133,⟨[(0,zT)],tf⟩),
 (134,⟨[],tf⟩),
 (135,⟨dv,[]⟩),
 (136,⟨dJ,[]⟩),
 (137,⟨dJ,[]⟩),
 (138,⟨dv,Td⟩),
 (139,⟨G9,ml⟩),
 (140,⟨[(0,iP)],[]⟩),
 (141,⟨G9,ml⟩),
 (142,⟨dv,Td⟩),
 (143,⟨dJ,Td⟩),
 (144,⟨[],ox⟩),
 (145,⟨dJ,[]⟩),
 (146,⟨[(0,Dk)],ox⟩),
 (147,⟨Ti,ox⟩),
 (148,⟨dv,[]⟩),
 (149,⟨dJ,[]⟩),
 (151,⟨dv,[]⟩),
 (152,⟨dJ,[]⟩),
 (153,⟨G9,ml⟩),
 (154,⟨dJ,[]⟩),
 (155,⟨dv,uG⟩),
 (156,⟨G9,ml⟩),
 (157,⟨dJ,uG⟩),
 (160,⟨[],GY⟩),
 (161,⟨dv,[]⟩),
 (162,⟨dv,[]⟩),
 (163,⟨dv,[]⟩),
 (164,⟨Nc,bw⟩),
 (165,⟨Ha,Ds⟩),
 (166,⟨Ag,bw⟩),
 (167,⟨mQ,[]⟩),
 (168,⟨Ha,Ds⟩),
 (169,⟨Nc,bw⟩),
 (170,⟨dJ,[]⟩),
 (171,⟨mQ,[]⟩),
 (173,⟨[(0,aa),(1,zT)],tf⟩),
 (174,⟨dv,[]⟩),
 (175,⟨dv,[]⟩),
 (176,⟨Ti,ox⟩),
 (177,⟨[(0,aa),(1,an)],ox⟩),
 (178,⟨dv,[]⟩),
 (179,⟨[],[.var 23 [abq],.var 22 [SO],.dead,.dead,bQ,S3]⟩),
 (180,⟨[],g0⟩),
 (181,⟨[],bw⟩),
 (182,⟨dv,[]⟩),
 (183,⟨Ha,Ds⟩),
 (184,⟨dJ,[]⟩),
 (186,⟨dv,[]⟩),
 (187,⟨dJ,[]⟩),
 (188,⟨[],bw⟩),
 (189,⟨dv,[]⟩),
 (190,⟨dv,[]⟩),
 (191,⟨dv,[]⟩),
 (193,⟨[],bw⟩),
 (194,⟨[],bw⟩),
 (195,⟨[],bw⟩),
 (196,⟨G5,[]⟩),
 (197,⟨[],bw⟩),
 (198,⟨dJ,bw⟩),
 (199,⟨dv,bw⟩),
 (200,⟨[(0,aa),(1,an)],bw⟩),
 (202,⟨dv,[]⟩),
 (203,⟨dJ,[]⟩),
 (204,⟨[],bw⟩),
 (205,⟨G6,[]⟩),
 (206,⟨G6,[SZ]⟩),
 (207,⟨dv,g0⟩),
 (208,⟨dv,g0⟩),
 (209,⟨G5,g0⟩),
 (231,⟨dv,[.var 180 [lH,.one (.cG jW 2)],.dead,.map jW,aY]⟩),
 (232,⟨dv,[.var 96 [.one (.whole jV 3),.one (.cG lG 2)],.dead,.map lG,wu]⟩),
 (233,⟨dJ,[]⟩),
 (234,⟨dv,[]⟩),
 (235,⟨Ha,Ds⟩),
 (236,⟨Ha,Ds⟩),
 (237,⟨dv,[]⟩),
 (238,⟨[],g0⟩),
 (239,⟨[],[iv]⟩),
 (240,⟨[],yg⟩),
 (241,⟨[],uF⟩),
 (242,⟨[],rV⟩),
 (243,⟨[],rV⟩),
 (244,⟨[],yh⟩),
 (245,⟨[],Dt⟩),
 (246,⟨[],GY⟩),
 (247,⟨dJ,[]⟩),
 (248,⟨dv,[]⟩),
 (249,⟨[],g0⟩)]
def apS:List (Nat×Shape):=[(6,⟨[(0,.one (.sub ab 0)),(1,an)],ml⟩),
 (82,⟨[(0,.one (.eA)),(1,aa)],[]⟩),
 (104,⟨[(0,.one (.eA)),(1,aa)],[]⟩),
 (165,⟨Ag,bw⟩),
 (168,⟨Ag,bw⟩),
 (183,⟨Ag,bw⟩),
 (235,⟨Ag,bw⟩),
 (236,⟨Ag,bw⟩)]
def apU (n:Nat):List Nat:=(List.range (n.log2+1)).filter n.testBit
def adR:Nat→List Nat→List (Nat×List Nat)
 | _,[]=>[]
 | i,n::l=>(i,apU n)::adR (i+1) l
def UK (l:List (Nat×List Nat)):List (Nat×List (Nat×List Nat)):=l.map fun e=>(e.1,adR 0 e.2)
def apV:List (Nat×List (Nat×List Nat)):=UK [(3,[1,8,56,240,1008,4]),
 (4,[19,50,16]),
 (5,[92,1860,1050436,192,3136,2147486784,192,192]),
 (6,[2,48,131088,12,12]),
 (7,[3,16]),
 (8,[2,10,16394,4,65546,4,68719476746,4,1924145348618,4123168604170,1924145348650,283399122059306,4,3942573819297802,8446173446668298,3942573819297930,2309785583032991754,4,3942573819297802,1924145348618,4]),
 (9,[0,6,1]),
 (10,[1,33,1,4]),
 (11,[71,327,839,64,33095,64,4194375,64,64]),
 (12,[1,4]),
 (13,[60,188,4284,112,316,524604,112,134217788,112,112]),
 (14,[120,376,65912,192,632,4194936,192,137438953592,192,5184,192]),
 (15,[6,134,4,12,4]),
 (16,[6,70,524358,48,8388614,48,386,1073742210,48,642,25769804418,60129542786,25769805442,25769839234,25769804418,1125925676681858,25769804418,288230401921516162,25769804418,25769804418,48]),
 (17,[3,1027,16,12291,28675,12323,16789507,16,12291,16]),
 (18,[1,4]),
 (19,[22,86,8278,48,144,4194448,400,67109264,48,48]),
 (20,[19,16]),
 (21,[5,4]),
 (22,[6,16390,16,38,102,102,16]),
 (23,[3,16387,16,3,16]),
 (24,[71,192,393408,917696,393664,235274688,503710144,235276224,235274688,235274688,393408,192,64]),
 (25,[71,199,451,451,963,134218691,963,963,1475,140737488356803,1475,3523,7619,4503599627378115,7619,7619,11715,2305843009213705667,11715,28099,28099,11715,64]),
 (26,[19,51,115,29360243,62914675,29360499,29360499,29361011,29362035,274907268979,29362035,29364083,29368179,562949982789491,7881299377266547,16888498632007539,7881299377291123,584342051680698227,7881299377266547,7881299377266547,29368179,29362035,29360243,29360243,16]),
 (27,[71,199,451,451,963,16778179,963,963,1987,4035,137438957507,4035,4035,963,64]),
 (28,[2,32770,4,10,1048586,4,68719476746,4,1924145348618,4123168604170,1924145348650,283399122059306,4,3942573819297802,8446173446668298,3942573819297930,2309785583032991754,4,3942573819297802,1924145348618,4]),
 (29,[301,2349,2317,6413,14605,33569037,14605,30989,63757,206158493965,481036400909,206158559501,206158493965,206158493965,4503599627434253,1792,30989,14605,1792]),
 (30,[94,64]),
 (31,[30,94,4188,92,1048648,72,32]),
 (32,[6,54,118,246,1879048438,4026532086,1879049206,551634862582,1879049718,985164297537014,2111064204379638,985164297543158,985164297537014,985164297537014,1879049462,1879048438,1879048438,24676,57444,1083197534374707740536791108,2321137573660088015435915332,1083197534374707740536987716,1083197534374707740536987716,317995847591432058114712789060,1083197534374707740536791108,1083197534374707740536791108,12]),
 (33,[1,4]),
 (35,[0,2,114,242,122,114,114,1]),
 (36,[14,6158,67115022,1984,8589936654,1984,10254,3848290707468,8246337218572,3848290756620,285323267467276,1984,3848291182604,3848291051532,18446747922000603148,1984,92233724216838809612,1984,2361183245283113576460,3848290707468,1984]),
 (37,[6,1030,16,8198,16,131072,16,16]),
 (38,[6,38,36,32,16]),
 (39,[6,38,4,4]),
 (40,[1,4]),
 (41,[1,9,196617,458761,196633,196729,274878103673,4,197049,2251799813882041,288230376151908409,4,196761,196617,196617,1,0,4]),
 (42,[5,13,14680076,31457292,14680108,14680076,14680076,4]),
 (43,[2,4]),
 (44,[3,65539,16,786435,1835011,786467,17180655619,16,786435,16]),
 (45,[2,4]),
 (46,[0]),
 (47,[28,540,1564,64,131612,64,67109404,67109404,64,8589934620,64,156,128,64]),
 (48,[3,16]),
 (49,[3,67,16,3,2051,1,16]),
 (50,[3,35,99,4195,99,227,67109091,227,227,16]),
 (51,[9,105,131113,4194313,9,41,41,32,16]),
 (52,[6,8198,12,54,180,6442451124,15032385716,6442451380,6442451124,6442451124,3848290697364,8246337208468,3848290698900,3848290697364,3848290697364,12]),
 (53,[2,262146,4,26,117440538,251658266,117440634,68836917306,117440538,117440538,154,410,492581209244058,1055531162665370,492581209245594,492581209247642,2018105214271228826,4323948223484922778,2018105214271241114,2018105214271228826,2018105214271228826,492581209295770,1208925820107210383969178,492581209263002,492581209260954,492581209244058,492581209244058,19807040628566084398385987970,4,26]),
 (55,[5,101,134217829,28,165,17179869349,28,421,933,36028797018964901,933,933,933,541598767187353870268367269,1160568786830044007717929381,541598767187353870268370341,541598767187353870268368293,541598767187353870268368293,541598767187353870268368293,541598767187353870268372389,664613998434056703639257400408544677,541598767187353870268372389,541598767187353870268372389,541598767187353870268367269,8613,40922045845265281709703175316055924550366111211940,87690098239854175092221089962976981179355952587172,40922045845265281709703175316055924550366111261092,40922045845265281709703175316055924550366111261092,335274321610258453047598115364446189841149549088924068,718398206826730667637184872152023485745834329634824612,335274321610258453047598115364446189841149549089120676,335274321610258453047598115364446189841149549088924068,335274321610258453047598115364446189841149549088924068,40922045845265281709703175316055924550366111211940,28]),
 (56,[0,1]),
 (57,[6,14,12582924,29360140,12582956,12583244,8602517580,12582924,12582924,4]),
 (58,[6,70,16454,48,134,16777350,48,390,469762434,1006633346,469763970,1099981390722,469762434,469762434,48]),
 (59,[75,6152,16783368,1792,2147485704,1792,8589936648,1792,59392,2199023298560,1792,70368744185856,1792,1792]),
 (60,[2,10,4]),
 (61,[6,518,16,134217734,16,536870918,16,1610612742,1610612742,16,137975824390,137975824390,137975824390,17592186044422,16,35184908959750,35184372088838,2251799813685254,16,63050394783186946,135107988821114882,63050394783187010,4674736413210574850,16,63050394783186946,16]),
 (62,[9,41,41,32,16]),
 (63,[6,518,4,14,7340046,15728654,7340094,7340046,7340046,4]),
 (64,[22,48]),
 (65,[2,66,4,10,8,4]),
 (66,[2,66,194,194,4,1090,4,32834,32834,3670016,7864320,3670032,137887744,4,3670016,4,536870914,4,4]),
 (67,[14,142,7340172,15728780,7340684,7341708,7341708,7342732,7346316,7340172,7340172,64]),
 (68,[28,412,408,920,268436376,920,920,1288,3336,7432,281474976718088,7432,15624,15624,15624,7432,64]),
 (69,[28,156,7340188,15728796,7340700,7341212,7340188,7340188,64]),
 (70,[28,140,396,128,64]),
 (71,[450,962,498,16882,498,498,450]),
 (72,[15,1039,0,1048581,0]),
 (73,[271,2319,2317,6413,14605,33569037,14605,30989,63757,206158493965,481036400909,206158559501,206158493965,206158493965,4503599627434253,1792,30989,14605,1792]),
 (74,[7,32]),
 (75,[3,8]),
 (76,[19,208,65744,48,2097232,336,33554768,48,48]),
 (78,[3,16]),
 (79,[6,16]),
 (80,[5,8197,28,37,229,67108965,28,485,4398046511460,28,516,1540,4503599627372036,28,28]),
 (81,[2,514,4,26,67108874,4,1879048202,4026531850,1879048298,4399925559306,4,1879048202,9444732965739290427392,4,4]),
 (82,[35,291,16675,192,524323,192,4194339,192,547,17179869731,192,1537,1024,1024,192]),
 (83,[1,4]),
 (84,[19,147,16531,147,7340179,15728787,7340947,7340179,7340179,2305843009213694099,112,36893488147419103379,112,112]),
 (85,[1,9,229385,491529,229433,229385,229385,4]),
 (86,[14,65550,64,14,58720262,125829126,58720518,17238589446,64,58720262,64]),
 (87,[19,83,211,16,2131,16,32787,16,2097171,16,49,67108912,201326640,137438953520,16,16,35184372088880,140737488355376,16,144115188075855920,16,16,16]),
 (88,[6,134,12,12]),
 (89,[28,124,4220,12412,16,266364,16777336,56,16,2147487804,2147487804,2147487804,16,274877911100,144,400,16,144115188075855932,16,16]),
 (90,[9,41,105,0,1065,0,16425,0,4194345,0,268435497,0,17179869225,0,1099511627817,9,0,281474976710665,1,0]),
 (91,[1,4]),
 (92,[3,16]),
 (93,[0]),
 (94,[67,4163,67,67]),
 (95,[2,4]),
 (96,[93,69,0]),
 (97,[4109,0]),
 (98,[0]),
 (99,[135,0]),
 (100,[3087,7183,3119,68655,3087,3087,3087]),
 (101,[47,111,8303,111,111,47,41,0]),
 (102,[1,17,4,4]),
 (103,[3,99,131107,4194307,3,35,35,32,16]),
 (104,[3,4194307,48,67,67,3848290697282,8246337208386,3848290697538,144119036366553410,48,3848290697282,3848290697282,578,4722366482869645214272,576,270799383593676935134184000,580284393415022003858965056,270799383593676935134187072,270799383593676935134191168,270799383593676935134215744,81129909213990275372724139343424,270799383593676935134192192,270799383593676935134192192,270799383593676935134184000,270799383593676935134184000,48]),
 (105,[1,4]),
 (106,[1,9,25,939524121,2013265945,939524217,939524281,939525049,939526073,73786976295777732537,4,302231454903658233202105,939524409,158456325028528675188027426105,939524409,939524121,939524121,1,0,4]),
 (107,[3,387,899,419,65955,16,387,16]),
 (108,[5,21,21,65557,21,117,33554485,12,21,8589934612,12,12]),
 (109,[3,257,16,0,16]),
 (110,[2,10,266,4,4]),
 (111,[2,10,16777226,4,2251799813685258,4,63050394783186954,135107988821114890,63050394783186986,295210955574136012810,4,63050394783186954,4]),
 (112,[6,14,3670030,7864334,3670078,3670078,120262754366,257701707838,120262754558,120262754366,120262754366,3670030,4]),
 (113,[3,1027,16,12291,28675,12323,16789507,16,12291,16]),
 (114,[3,1027,16,12291,28675,12323,16789507,16,12291,16]),
 (115,[3,1027,16,12291,28675,12323,16789507,16,12291,16]),
 (116,[1,9,137,4,8192,4,4]),
 (117,[3,35,229411,491555,229603,4398046740643,16,229411,229411,985162418487331,2111062325329955,985162418487843,64035557201674787,136093151239602723,64035557201676835,590359845915907326499,16,64035557201674787,985162418487331,16]),
 (118,[2,34,4,4]),
 (119,[1,9,456,968,488,456,456,4]),
 (120,[2,130,386,4,4098,4,10,3670026,7864330,3670074,3670042,2151153674,3670026,3670026,549755813898,8,4]),
 (121,[35,419,931,931,419,1411,25769805187,60129543555,25769807235,987842481539,2087354109315,987842489731,4611687006269877635,987842481539,987842481539,25769805187,64]),
 (122,[7,133,1835137,3932289,1835649,119275649,253493377,119277697,8796212299905,119281793,844425049413761,1970324956256385,844425049421953,844425049413761,844425049413761,119275649,119275649,1835137,64]),
 (123,[3,16]),
 (124,[1,4]),
 (125,[7,135,391,14725,31109,15749,277893,802181,14725,14725,537148805,14725,14725,1099511905669,14725,14725,4611686018427403653,14725,14725,64]),
 (126,[1,9,2057,9,9,274877906953,4,9,4]),
 (127,[5,37,4,12,4]),
 (128,[5,37,4,12,4]),
 (129,[5,37,4,12,4]),
 (130,[1,1]),
 (131,[28,124,252,14680316,31457532,14681084,14681596,14681340,4398061191420,14680316,14680316,2200,72057594037930136,216172782113786008,2064,4683743612465318040,2064,1180591620717411305616,2064,16]),
 (132,[28,60,124,252,7340276,15728884,7341044,275776500,7340276,7341428,7340276,7340276,2288,126100789566376144,270215977642232016,126100789566388432,9349472826421164240,126100789566376144,126100789566396624,126100789566376144,126100789566376144,16]),
 (133,[3,3,0,16]),
 (134,[7181,15373,7949,269837,7693,67116557,7181,7693,7181,7181,7181]),
 (135,[3,387,899,419,65955,16,387,16]),
 (136,[2,4]),
 (137,[1,4097,4,57345,122881,57361,67166209,4,57345,4]),
 (138,[63,8255,8255,8253,8249,8241,8225,8192,4096]),
 (139,[1,1025,4,8,49160,114696,49176,49160,49160,4]),
 (140,[1,9,3592,7688,3640,3592,3592,4]),
 (141,[3,4194307,16,35,469762082,1006632994,469762274,469762082,469762082,16]),
 (142,[7,263,64,64]),
 (143,[7,135,64]),
 (144,[9]),
 (145,[1,4]),
 (146,[1,4097,4,4]),
 (147,[5,53,16405,12,21,524309,21,213,268435541,12,21,12]),
 (148,[2,32,4,4]),
 (149,[3,898,1922,962,525186,16,898,16]),
 (151,[1,513,4,4097,4,57345,122881,57361,8445969,4,117497857,251715585,117497921,137556451329,4,117497857,57345,4]),
 (152,[3,35,458785,983073,458913,34013345,458913,3758555297,8053522593,3758555809,3758556833,246294363178657,527769339889313,246294363184801,1153167798970025633,16,246294363178657,3758555297,458785,16]),
 (154,[1,4]),
 (155,[3,387,899,419,65955,16,387,16]),
 (156,[1,8,1544,3592,1560,1544,1544,4]),
 (157,[3,195,451,211,536871107,8,195,8]),
 (158,[28,12,57356,122892,57484,57356,57356]),
 (160,[60,316,56,0]),
 (161,[1,9,456,968,488,456,456,4]),
 (162,[7,135,524423,135,391,536871303,897,35184372089729,897,64,54043195528446211,126100789566374147,54043195528446211,54043195528446211,64]),
 (163,[3,387,899,419,65955,16,387,16]),
 (164,[1,1]),
 (165,[3,35,4131,16,99,524387,99,227,536871139,99,99,33,16]),
 (166,[3,35,1825,3873,1953,133025,1825,1825,1825,16]),
 (167,[99,355,867,64,4163,64,64]),
 (168,[1,1,4]),
 (169,[1,1]),
 (170,[2,4]),
 (171,[28,88,16,16]),
 (173,[3,3,2,48]),
 (174,[1,8,24,4,72,4,264,4,1032,4,4096,4,4]),
 (175,[3,16]),
 (176,[5,21,2069,12,21,1048597,3145749,12,16777237,101,12,12]),
 (177,[1,65,12,16385,12,65537,12,34359738369,12,17,17,12]),
 (178,[6,16390,16,38,1835042,3932194,1835170,1835042,8591769634,1835042,16]),
 (180,[12,140,0]),
 (181,[19,0]),
 (182,[12,524,16,524300,16,16]),
 (183,[3,1027,16,35,32803,35,268435491,99,227,34359738595,227,562949953421539,227,227,33,16,16]),
 (184,[12,16]),
 (186,[3,16]),
 (187,[2,18,50,4,65554,4,4294967314,4,8796093022210,4,4]),
 (188,[1055,3103,7199,33561631,0,4294974495,0,549755821087,7199,7199,31775,72057594037959711,15391,15391,31775,37778931862957161724959,1208925819614629174721567,158456325028528675187087916063,35869,3103,200735,71711,858143,1902623,42535295865117307932921825928972929055,68639,68637,3103,68639,68635,3103]),
 (189,[1,4,4]),
 (190,[3,35,99,2115,4096,16,16,8195,16,65539,16,524288,16,16]),
 (191,[7,14343,30727,14727,2111879,64,15111,15367,2147499015,64,14343,274877906944,64,64]),
 (193,[271,16655,271,783,17179869967,783,783]),
 (194,[271,783,1801,3849,2101001,3849,3849,4873,8589939465,4873,4873,4873]),
 (195,[259,131331,771,1795,3843,34359742211,3843,7939,35184372096771,7939,3843]),
 (196,[15,1035,3083,7179,15371,31753,17179900937,68719507465,30729,30729,30729,10240,36028797018972160,768,180143985094828032,768,1152921504606855168,768]),
 (197,[261,769,33537,769,769,769]),
 (198,[15,527,1551,67087,1551,68719478287,1551,2199023257103,256,35184372090383,256,1551,36893488147419104783,3599,590295810358705655311,3599,19342813113834066795302415,3599,20282409603651670423947251287567,5647,649037107316853453566312041158159,5647,21267647932558653966460912964485518863,5647,256]),
 (199,[31,23,6163,140737488361491,6163,36893488147419109395,6163,1180591620717411309587,6163,6163,6163,1024]),
 (200,[31,23,12307,140737488367635,12307,73786976294838218771,12307,2361183241434822619155,8192,3072,12307,12307,12307,1329227995784915872903807060280356883,12307,696898287454081973172991196020261297074195,12307,22300745198530623141535718272648361505992723,12307,12307,12307,8192,3072]),
 (202,[5,21,1,5,261,5,5,16389,5,5,4]),
 (203,[1,4]),
 (204,[1053,3101,265245,1099511630877,3101,288230376151714845,2077,1053]),
 (205,[1,4]),
 (206,[1,1,1,1,4]),
 (207,[15,256]),
 (208,[63,63,55,4,4096]),
 (209,[31,4194318,6,3072,3072])]++[(34,[(0,[1,2]),(1,[1,2,4]),(2,[1,2,4,13]),(3,[2,3]),(4,[1,2,5,2000011]),(5,[2,5,6,2000011]),(6,[2,5,6,20,2000011]),(7,[2,3]),(8,[2,7,8,9]),(9,[2,7,8,9,29]),(10,[2,3]),(11,[2,7]),(12,[2,3])]),(54,[(0,[0,3,2000006]),(1,[0,3,5,2000006]),(2,[0,3,5,17,2000006]),(3,[4]),(4,[0,3,5,22,2000006]),(5,[0,3,5,2000006]),(6,[0,3,5,33,34,2000006]),(7,[0,3,5,33,34,35,2000006]),(8,[0,3,5,6,33,34,2000006]),(9,[0,3,5,6,33,34,37,38,2000006]),(10,[0,3,5,6,33,34,37,38,39,2000006]),(11,[0,3,5,6,7,33,34,37,38,2000006]),(12,[0,3,5,6,33,34,37,38,2000006]),(13,[0,3,5,6,33,34,37,38,2000006]),(14,[0,3,5,33,34,2000006]),(15,[0,5,2000006]),(16,[]),(17,[4])]),(153,[(0,[0]),(1,[0,3,4,1000007]),(2,[0,3,4,5,1000007]),(3,[0,3,4,5,6,1000007]),(4,[0,3,4,5,6,7,1000007]),(5,[0,3,4,5,6,7,17,18,1000007]),(6,[0,3,4,5,6,7,17,18,19,1000007]),(7,[0,3,4,5,6,7,8,17,18,1000007]),(8,[0,3,4,5,6,7,8,17,18,24,1000007]),(9,[0,3,4,5,6,7,8,17,18,1000007]),(10,[0,3,4,5,6,7,17,18,1000007]),(11,[0,3,4,5,6,7,17,18,35,1000007]),(12,[0,3,4,5,6,7,17,18,1000007]),(13,[0,3,4,5,6,7,9,17,18,1000007]),(14,[0,3,4,5,6,7,9,17,18,45,46,47,1000007]),(15,[0,3,4,5,6,7,9,17,18,45,46,47,48,1000007]),(16,[0,3,4,5,6,7,9,11,17,18,45,46,47,1000007]),(17,[0,3,4,5,6,7,9,11,17,18,45,46,47,1000007]),(18,[0,3,4,5,6,7,9,17,18,45,46,47,1000007]),(19,[0,3,4,5,6,7,9,17,18,45,46,47,1000007]),(20,[0,3,4,5,6,7,17,18,1000007]),(21,[2])]),(179,[(0,[0,1,2,8,3000010]),(1,[0,2,3000010]),(2,[3000010]),(9999,[3000010])])]
def apW:List (Nat×List (Nat×List Nat)):=UK [(3,[]),
 (4,[]),
 (5,[0,0,0,0,0,0,0,0,0,0,0,0,0,0,0,0,0,0,0,0,836,0,0,0,0,0,0,0,0,0,0,2112]),
 (6,[0,0,0,0,0,0,0,0,0,0,0,0,0,0,0,0,0,16]),
 (7,[]),
 (8,[0,0,0,0,0,0,0,0,0,0,0,0,0,0,10,0,10,0,0,0,0,0,0,0,0,0,0,0,0,0,0,0,0,0,0,0,10,0,0,0,0,1924145348618,0,0,0,0,0,0,1924145348650,0,0,0,3942573819297802,0,0,0,0,0,0,0,0,3942573819297802]),
 (9,[]),
 (10,[0,0,0,0,0,1]),
 (11,[0,0,0,0,0,0,0,0,0,71,0,0,0,0,0,71,0,0,0,0,0,0,71]),
 (12,[]),
 (13,[0,0,0,0,0,0,0,0,0,0,0,0,60,0,0,0,0,0,0,60,0,0,0,0,0,0,0,60]),
 (14,[0,0,0,0,0,0,0,0,0,0,0,0,0,0,0,0,120,0,0,0,0,0,120,0,0,0,0,0,0,0,0,0,0,0,0,0,0,120]),
 (15,[0,0,0,0,0,0,0,6]),
 (16,[0,0,0,0,0,0,0,0,0,0,0,0,0,0,0,0,0,0,0,6,0,0,0,6,0,0,0,0,0,0,130,0,0,0,0,25769804418,0,0,0,0,0,0,0,0,0,0,0,0,0,0,25769804418,0,0,0,0,0,0,0,25769804418]),
 (17,[0,0,0,0,0,0,0,0,0,0,3,0,0,0,12291,0,0,0,0,0,0,0,0,0,12291]),
 (18,[]),
 (19,[0,0,0,0,0,0,0,0,0,0,0,0,0,22,0,0,0,0,0,0,0,0,144,0,0,0,144]),
 (20,[]),
 (21,[]),
 (22,[0,0,0,0,0,0,0,0,0,0,0,0,0,0,6]),
 (23,[0,0,0,0,0,0,0,0,0,0,0,0,0,0,3]),
 (24,[0,0,0,0,0,0,0,0,0,0,0,0,0,0,0,0,0,0,0,393408,0,0,0,0,0,0,0,0,235274688]),
 (25,[0,0,0,0,0,0,0,0,0,0,0,0,0,0,0,0,0,0,0,0,0,0,0,0,0,0,0,963,0,0,0,0,0,0,0,0,0,0,0,0,0,0,0,0,0,0,0,1475,0,0,0,0,7619,0,0,0,0,0,0,0,0,11715]),
 (26,[0,0,0,0,0,0,0,0,0,0,0,0,0,0,0,0,0,0,0,0,0,0,0,0,0,29360243,0,0,0,0,0,0,0,0,0,0,0,0,29362035,0,0,0,0,0,0,0,0,0,0,29368179,0,0,0,7881299377266547,0,0,0,0,0,7881299377266547]),
 (27,[0,0,0,0,0,0,0,0,0,0,0,0,0,0,0,0,0,0,0,0,0,0,0,0,963,0,0,0,0,0,0,0,0,0,0,0,0,4035]),
 (28,[0,0,0,0,0,0,0,0,0,0,0,0,0,0,0,2,0,0,0,0,10,0,0,0,0,0,0,0,0,0,0,0,0,0,0,0,10,0,0,0,0,1924145348618,0,0,0,0,0,0,1924145348650,0,0,0,3942573819297802,0,0,0,0,0,0,0,0,3942573819297802]),
 (29,[0,0,0,0,0,0,0,0,0,0,0,0,0,0,0,0,0,0,0,0,0,0,0,0,0,14605,0,0,0,0,0,0,0,0,0,0,0,0,206158493965,0,0,0,0,0,0,0,0,0,0,0,0,0,63757]),
 (30,[]),
 (31,[0,0,0,0,0,0,0,0,0,0,0,0,92,0,0,0,0,0,0,0,72]),
 (32,[0,0,0,0,0,0,0,0,0,0,0,0,0,0,0,0,0,0,0,0,0,0,0,0,0,0,0,0,0,0,0,1879048438,0,0,0,0,0,0,0,1879048694,0,0,0,0,0,0,0,0,0,0,985164297537014,0,0,0,0,0,0,0,0,0,0,0,0,0,0,0,0,0,0,0,0,0,0,0,0,0,0,0,0,0,0,0,0,0,0,0,0,0,0,0,1083197534374707740536791108,0,0,0,0,0,0,0,1083197534374707740536791108]),
 (33,[]),
 (35,[0,0,0,0,0,0,0,114]),
 (36,[0,0,0,0,0,0,0,0,0,0,0,0,0,0,0,0,0,0,0,0,0,0,0,0,0,0,2062,0,0,0,0,0,0,2062,0,0,0,0,0,0,0,0,3848290707468,0,0,0,0,0,3848290756620,0,0,0,0,0,0,0,0,0,0,0,0,0,0,0,0,0,3848290707468,0,0,0,0,3848290707468]),
 (37,[0,0,0,0,0,0,0,0,0,0,6,0,0,6,0,0,0,0]),
 (38,[]),
 (39,[0,0,0,0,0,6]),
 (40,[]),
 (41,[0,0,0,0,0,0,0,0,0,0,0,0,0,0,0,0,0,0,196617,0,0,0,0,0,0,0,0,0,0,0,0,0,0,0,0,0,0,0,196665,0,0,0,0,0,0,0,0,0,0,0,0,196761,0,0,0,0,0,0,196665]),
 (42,[0,0,0,0,0,0,0,0,0,0,0,0,0,0,0,0,0,0,0,0,0,0,0,0,14680076]),
 (43,[]),
 (44,[0,0,0,0,0,0,0,0,0,0,0,0,0,0,0,0,3,0,0,0,786435,0,0,0,0,0,0,0,0,0,0,0,0,0,786435]),
 (45,[]),
 (46,[]),
 (47,[0,0,0,0,0,0,0,0,0,0,28,0,0,0,0,0,0,28,0,0,0,0,0,0,0,0,67109404,0,0,0,0,0,0,28]),
 (48,[]),
 (49,[0,0,0,0,0,0,3,0,0,0,0,1]),
 (50,[0,0,0,0,0,0,0,0,0,0,0,0,99,0,0,0,0,0,0,0,0,0,0,0,0,0,227]),
 (51,[0,0,0,0,0,0,0,0,0,0,0,0,0,0,0,0,0,32,0,0,0,0,9]),
 (52,[0,0,0,0,0,0,0,0,0,0,0,0,0,6,0,0,0,0,0,0,0,0,0,0,0,0,0,0,0,0,0,0,0,6442451124,0,0,0,0,0,0,0,0,3848290697364]),
 (53,[0,0,0,0,0,0,0,0,0,0,0,0,0,0,0,0,0,0,2,0,0,0,0,0,0,0,0,117440538,0,0,0,0,0,0,0,0,117440538,0,0,0,0,0,0,0,0,0,0,0,0,492581209244058,0,0,0,0,0,0,0,0,0,0,0,2018105214271228826,0,0,0,0,0,0,0,0,0,0,0,0,0,0,0,0,0,0,492581209260954,0,0,0,0,0,0,0,0,0,0,0,0,0,386]),
 (55,[0,0,0,0,0,0,0,0,0,0,0,0,0,0,0,0,0,0,0,0,0,0,0,0,0,0,0,37,0,0,0,0,0,0,165,0,0,0,0,0,0,0,0,0,0,0,0,0,0,0,0,0,0,0,0,933,0,0,0,0,0,0,0,0,0,0,0,0,0,0,0,0,0,0,0,0,0,0,0,0,0,0,0,0,0,0,0,0,0,541598767187353870268367269,0,0,0,0,0,0,0,0,0,0,0,0,0,0,0,0,0,0,0,0,0,0,0,0,0,0,0,0,0,541598767187353870268372389,0,0,0,0,0,0,0,0,0,0,0,0,0,0,0,0,0,0,0,0,0,0,0,0,0,0,0,0,0,0,0,0,0,0,0,0,0,0,0,0,0,0,0,0,0,40922045845265281709703175316055924550366111211940,0,0,0,0,0,0,0,0,0,0,0,0,335274321610258453047598115364446189841149549088924068]),
 (56,[]),
 (57,[0,0,0,0,0,0,0,0,0,0,0,0,0,0,0,0,0,0,0,0,0,0,0,0,12582924,0,0,0,0,0,0,0,0,12582924]),
 (58,[0,0,0,0,0,0,0,0,0,0,0,0,0,0,6,0,0,0,0,0,0,0,0,0,134,0,0,0,0,469762434,0,0,0,0,0,0,0,0,0,0,469762434]),
 (59,[0,0,0,0,0,0,0,0,0,0,0,0,0,0,0,0,0,0,0,0,0,0,0,0,2056,0,0,0,0,0,0,2056,0,2056,0,0,0,0,0,0,0,0,0,0,0,0,0]),
 (60,[]),
 (61,[0,0,0,0,0,0,0,0,0,6,0,0,0,0,0,0,0,0,0,0,0,0,0,0,0,0,0,6,0,0,1610612742,0,0,0,0,0,0,137975824390,0,0,0,0,0,0,6,35184372088838,0,0,0,0,0,6,0,0,0,0,63050394783186946,0,0,0,0,0,63050394783186946]),
 (62,[]),
 (63,[0,0,0,0,0,0,0,0,0,6,0,0,0,0,0,0,0,0,0,0,0,0,0,7340046]),
 (64,[]),
 (65,[0,0,0,0,0,0,2]),
 (66,[0,0,0,0,0,0,0,194,0,0,0,0,0,0,0,32834,0,0,0,0,0,0,3670016,0,0,0,0,3670016,0,0]),
 (67,[0,0,0,0,0,0,0,0,0,0,0,0,0,0,0,0,0,0,0,0,0,0,0,7340172]),
 (68,[0,0,0,0,0,0,0,0,0,0,0,0,0,0,0,0,0,0,0,0,0,0,0,0,0,0,0,0,920,0,0,0,0,0,0,0,0,0,0,0,0,0,0,0,0,0,0,0,7432]),
 (69,[0,0,0,0,0,0,0,0,0,0,0,0,0,0,0,0,0,0,0,0,0,0,0,7340188]),
 (70,[]),
 (71,[0,0,0,0,0,0,0,0,0,450,0,0,0,0,498]),
 (72,[0,0,0,0,0,0,0,0,0,0,0,0,0,0,0,0,0,0,0,0,0]),
 (73,[0,0,0,0,0,0,0,0,0,0,0,0,0,0,0,0,0,0,0,0,0,0,0,0,0,14605,0,0,0,0,0,0,0,0,0,0,0,0,206158493965,0,0,0,0,0,0,0,0,0,0,0,0,0,63757]),
 (74,[]),
 (75,[]),
 (76,[0,0,0,0,0,0,0,0,0,0,0,0,0,0,0,0,80,0,0,0,0,80,0,0,0,80]),
 (78,[]),
 (79,[]),
 (80,[0,0,0,0,0,0,0,0,0,0,0,0,0,5,0,0,0,0,0,0,0,0,0,0,0,0,101,0,0,0,0,0,0,0,0,0,0,0,0,0,0,0,324,0,0,0,0,0,0,0,0,0,516]),
 (81,[0,0,0,0,0,0,0,0,0,2,0,0,0,0,0,0,0,0,0,0,0,0,0,0,0,0,10,0,0,0,0,1879048202,0,0,0,0,0,0,0,0,0,0,1879048202,0,0,0,0,0,0,0,0,0,0,0,0,0,0,0,0,0,0,0,0,0,0,0,0,0,0,0,0,0,0,0]),
 (82,[0,0,0,0,0,0,0,0,0,0,0,0,0,0,35,0,0,0,0,35,0,0,35,0,0,0,0,0,0,0,0,0,0,0,547]),
 (83,[]),
 (84,[0,0,0,0,0,0,0,0,0,0,0,0,0,0,147,0,0,0,0,0,0,0,0,7340179,0,0,0,0,0,0,0,0,0,0,0,0,0,0,0,0,0,0,0,0,0,0,0,0,0,0,0,0,0,0,0,0,0,0,0,0,0,147,0,0,0,147]),
 (85,[0,0,0,0,0,0,0,0,0,0,0,0,0,0,0,0,0,0,229385]),
 (86,[0,0,0,0,0,0,0,0,0,0,0,0,0,0,0,0,14,0,0,0,0,0,0,0,0,0,58720262,0,0,0,0,0,0,0,58720262]),
 (87,[0,0,0,0,0,0,0,19,0,0,0,19,0,0,0,19,0,0,0,0,0,19,0,0,0,0,0,16,0,0,0,0,0,0,0,0,0,48,0,0,0,0,0,0,0,16,0,48,0,0,0,0,0,0,0,0,0,48]),
 (88,[0,0,0,0,0,0,0,6]),
 (89,[0,0,0,0,0,0,0,0,0,0,0,0,0,48,0,0,0,0,48,0,0,0,0,0,56,0,0,0,0,0,0,2147487804,0,0,0,0,0,0,48,0,0,0,0,0,0,0,0,0,0,0,0,0,0,0,0,0,0,48]),
 (90,[0,0,0,0,0,0,0,0,0,0,0,0,0,0,0,0,0,0,0,0,0,0,0,0,0,0,0,0,0,0,0,0,0,0,0,0,0,0,0,0,0,0,0,0,0,0,0,0,0]),
 (91,[]),
 (92,[]),
 (93,[]),
 (94,[0,0,0,0,0,0,0,0,0,0,0,0,67]),
 (95,[]),
 (96,[]),
 (97,[0,0,0,0,0,0,0,0,0,0,0,0,0]),
 (98,[]),
 (99,[0,0,0,0,0,0,0,0]),
 (100,[0,0,0,0,0,0,0,0,0,0,0,0,3087,0,0,0,3087]),
 (101,[0,0,0,0,0,0,0,0,0,0,0,0,0,111]),
 (102,[0,0,0,0,1]),
 (103,[0,0,0,0,0,0,0,0,0,0,0,0,0,0,0,0,0,32,0,0,0,0,3]),
 (104,[0,0,0,0,0,0,0,0,0,0,0,0,0,0,0,0,0,0,0,0,0,0,3,0,0,0,0,0,0,0,0,0,0,0,0,0,0,0,0,0,0,0,3848290697282,0,0,0,0,0,0,0,0,0,0,0,0,0,0,3848290697538,0,0,0,0,0,0,0,0,0,0,0,0,0,0,576,0,0,0,0,0,0,0,0,0,0,0,0,0,0,0,270799383593676935134184000,0,0,0,0,0,0,0,0,0,0,0,0,0,0,0,0,0,270799383593676935134192192]),
 (105,[]),
 (106,[0,0,0,0,0,0,0,0,0,0,0,0,0,0,0,0,0,0,0,0,0,0,0,0,0,0,0,0,0,0,939524121,0,0,0,0,0,0,0,0,0,0,0,0,0,0,0,0,0,0,0,0,0,0,0,0,0,0,0,0,0,0,0,0,0,0,0,939524409,0,0,0,0,0,0,0,0,0,0,0,939524409,0,0,0,0,0,0,0,0,0,0,0,0,0,0,0,0,0,0,939524409]),
 (107,[0,0,0,0,0,0,0,0,0,387,0,0,0,0,0,0,387]),
 (108,[0,0,0,0,0,0,0,0,0,0,0,0,0,0,0,0,21,0,0,0,0,0,0,0,0,53,0,0,0,0,0,0,0,20]),
 (109,[0,0,0,0,0,0,0,0,1]),
 (110,[0,0,0,0,0,0,0,0,2]),
 (111,[0,0,0,0,0,0,0,0,0,0,0,0,0,0,0,0,0,0,0,0,0,0,0,0,10,0,0,0,0,0,0,0,0,0,0,0,0,0,0,0,0,0,0,0,0,0,0,0,0,0,0,10,0,0,0,0,63050394783186954,0,0,0,0,0,0,0,0,0,0,0,63050394783186954]),
 (112,[0,0,0,0,0,0,0,0,0,0,0,0,0,0,0,0,0,0,0,0,0,0,3670030,0,0,0,0,0,0,0,0,0,0,0,0,0,0,120262754366]),
 (113,[0,0,0,0,0,0,0,0,0,0,3,0,0,0,12291,0,0,0,0,0,0,0,0,0,12291]),
 (114,[0,0,0,0,0,0,0,0,0,0,3,0,0,0,12291,0,0,0,0,0,0,0,0,0,12291]),
 (115,[0,0,0,0,0,0,0,0,0,0,3,0,0,0,12291,0,0,0,0,0,0,0,0,0,12291]),
 (116,[0,0,0,0,0,0,0,1,0,0,0,0,0,0]),
 (117,[0,0,0,0,0,0,0,0,0,0,0,0,0,0,0,0,0,0,229411,0,0,0,0,0,0,0,0,0,0,0,0,0,0,0,0,0,0,0,0,0,0,0,229539,0,0,0,0,0,0,0,985162418487331,0,0,0,0,0,64035557201674787,0,0,0,0,0,0,0,0,0,0,0,0,64035557201674787]),
 (118,[0,0,0,0,0,2]),
 (119,[0,0,0,0,0,0,0,0,0,456]),
 (120,[0,0,0,0,0,0,0,0,2,0,0,0,2,0,0,0,0,0,0,0,0,0,3670026,0,0,0,0,0,0,0,0,3670026,0,0,0,0,0,0,0,8]),
 (121,[0,0,0,0,0,0,0,0,0,0,0,0,0,0,0,0,0,0,0,0,0,0,0,0,0,0,0,0,0,0,0,0,0,0,0,25769805187,0,0,0,0,987842481539,0,0,0,0,0,0,0,0,0,0,0,0,0,0,0,0,0,0,0,0,0,987842481539]),
 (122,[0,0,0,0,0,0,0,0,0,0,0,0,0,0,0,0,0,0,0,0,0,1835137,0,0,0,0,0,119275649,0,0,0,0,0,0,0,0,0,0,0,0,0,0,0,119277697,0,0,0,0,0,0,844425049413761]),
 (123,[]),
 (124,[]),
 (125,[0,0,0,0,0,0,0,0,0,0,0,0,0,0,14725,0,0,0,0,14725,0,0,0,0,0,0,0,0,0,14725,0,0,0,0,0,0,0,0,0,0,14725,0,0,0,0,0,0,0,0,0,0,0,0,0,0,0,0,0,0,0,0,0,14725]),
 (126,[0,0,0,0,0,0,0,0,0,0,0,9,0,0,0,0,0,0,0,0,0,0,0,0,0,0,0,0,0,0,0,0,0,0,0,0,0,0,9]),
 (127,[0,0,0,0,0,5]),
 (128,[0,0,0,0,0,5]),
 (129,[0,0,0,0,0,5]),
 (130,[]),
 (131,[0,0,0,0,0,0,0,0,0,0,0,0,0,0,0,0,0,0,0,0,0,0,0,0,14680316,0,0,0,0,0,0,0,0,0,0,0,0,0,0,0,0,0,14680316,0,0,0,0,0,0,0,0,0,0,0,0,0,0,2064,0,0,0,0,2064,0,0,0,0,0,0,0,2064]),
 (132,[0,0,0,0,0,0,0,0,0,0,0,0,0,0,0,0,0,0,0,0,0,0,0,7340276,0,0,0,0,7340916,0,0,0,0,0,0,0,0,0,0,0,0,0,0,0,0,0,0,0,0,0,0,0,0,0,0,0,0,126100789566376144,0,0,0,0,0,126100789566388432]),
 (133,[]),
 (134,[0,0,0,0,0,0,0,0,0,0,0,0,0,7181,0,0,0,0,7693,0,0,0,0,0,0,0,7693]),
 (135,[0,0,0,0,0,0,0,0,0,387,0,0,0,0,0,0,387]),
 (136,[]),
 (137,[0,0,0,0,0,0,0,0,0,0,0,0,1,0,0,0,57345,0,0,0,0,0,0,0,0,0,57345]),
 (138,[]),
 (139,[0,0,0,0,0,0,0,0,0,0,1,0,0,0,0,0,49160]),
 (140,[0,0,0,0,0,0,0,0,0,0,0,0,3592]),
 (141,[0,0,0,0,0,0,0,0,0,0,0,0,0,0,0,0,0,0,0,0,0,0,3,0,0,0,0,0,0,469762082]),
 (142,[0,0,0,0,0,0,0,0,7]),
 (143,[]),
 (144,[0,0,0,1]),
 (145,[]),
 (146,[0,0,0,0,0,0,0,0,0,0,0,0,1]),
 (147,[0,0,0,0,0,0,0,0,0,0,0,0,0,0,21,0,0,0,0,21,0,0,0,0,0,0,0,0,85]),
 (148,[0,0,0,0,0,0]),
 (149,[0,0,0,0,0,0,0,0,0,0,898,0,0,0,0,0,0,0,0,898]),
 (151,[0,0,0,0,0,0,0,0,0,1,0,0,1,0,0,0,57345,0,0,0,0,0,0,57361,0,0,0,117497857,0,0,0,0,0,0,0,0,0,117497857]),
 (152,[0,0,0,0,0,0,0,0,0,0,0,0,0,0,0,0,0,0,0,458785,0,0,0,0,0,458913,0,0,0,0,0,0,3758555297,0,0,0,0,0,0,0,0,0,0,0,0,0,0,0,246294363178657,0,0,0,0,0,0,0,0,0,0,0,246294363178657]),
 (154,[]),
 (155,[0,0,0,0,0,0,0,0,0,387,0,0,0,0,0,0,387]),
 (156,[0,0,0,0,0,0,0,0,0,0,0,1544]),
 (157,[0,0,0,0,0,0,0,0,195,0,0,0,0,0,0,0,0,0,0,0,0,0,0,0,0,0,0,0,0,195]),
 (158,[0,0,0,0,0,0,0,0,0,0,0,0,0,0,0,0,57356]),
 (160,[0,0,0,0,0,0,0,0,0]),
 (161,[0,0,0,0,0,0,0,0,0,456]),
 (162,[0,0,0,0,0,0,0,0,0,0,0,0,0,0,0,0,0,0,0,135,0,0,0,0,0,0,0,0,0,263,0,0,0,0,0,0,0,0,0,0,0,0,0,0,0,897,0,0,0,0,0,0,0,0,0,0,54043195528446211]),
 (163,[0,0,0,0,0,0,0,0,0,387,0,0,0,0,0,0,387]),
 (164,[]),
 (165,[0,0,0,0,0,0,0,0,0,0,0,0,35,0,0,0,0,0,0,99,0,0,0,0,0,0,0,0,0,99]),
 (166,[0,0,0,0,0,0,0,0,0,0,0,1825,0,0,0,0,0,1825]),
 (167,[0,0,0,0,0,0,0,0,0,67,0,0,67]),
 (168,[]),
 (169,[]),
 (170,[]),
 (171,[0,0,0,0,0,0,24]),
 (173,[]),
 (174,[0,0,0,0,0,0,0,0,0,0,0,0,0]),
 (175,[]),
 (176,[0,0,0,0,0,0,0,0,0,0,0,21,0,0,0,0,0,0,0,0,0,20,0,0,20]),
 (177,[0,0,0,0,0,0,1,0,0,0,0,0,0,0,1,0,1,0,0,0,0,0,0,0,0,0,0,0,0,0,0,0,0,0,0,1]),
 (178,[0,0,0,0,0,0,0,0,0,0,0,0,0,0,6,0,0,0,0,0,0,1835042,0,0,0,0,0,0,0,0,0,0,0,1835042]),
 (180,[0,0,0,0,0,0,0,0]),
 (181,[]),
 (182,[0,0,0,0,0,0,0,0,0,12,0,0,0,0,0,0,0,0,0,12]),
 (183,[0,0,0,0,0,0,0,0,0,0,3,0,0,0,0,35,0,0,0,0,0,0,0,0,0,0,0,0,35,0,0,0,0,0,0,227,0,0,0,0,0,0,0,0,0,0,0,0,0,227]),
 (184,[]),
 (186,[]),
 (187,[0,0,0,0,0,0,0,0,0,0,0,0,0,0,0,0,0,0,0,0,0,0,0,0,0,0,0,0,0,0,0,0,0,0,0,0,0,0,0,0,0,0,0,0]),
 (188,[0,0,0,0,0,0,0,0,0,0,0,0,0,0,0,0,0,0,0,0,0,0,0,0,0,7199,0,0,0,0,0,0,7199,0,0,0,0,0,0,7199,0,0,0,0,0,0,0,0,0,0,0,0,0,0,0,0,31775,0,0,0,0,0,0,0,0,0,0,0,0,0,0,0,0,0,0,15391,0,0,0,0,15391,0,0,0,0,0,0,0,0,0,0,0,0,0,0,0,0,12319,0,0,0,0,0,0,0,0,0,0,0,0,0,0,0,0,0,0,0,0,0,0,0,0,0,0,0,3103]),
 (189,[]),
 (190,[0,0,0,0,0,0,0,0,0,0,0,67,0,3,0,0,3,0,0,0]),
 (191,[0,0,0,0,0,0,0,0,0,0,0,0,0,0,14343,0,0,0,0,0,0,14727,0,0,0,0,0,0,0,0,0,14343,0,0,0,0,0,0,0]),
 (193,[0,0,0,0,0,0,0,0,0,0,0,0,0,0,271,0,0,0,0,0,0,0,0,0,0,0,0,0,0,0,0,0,0,0,783]),
 (194,[0,0,0,0,0,0,0,0,0,0,0,0,0,0,0,0,0,0,0,0,0,3849,0,0,0,0,0,0,0,0,0,0,0,4873]),
 (195,[0,0,0,0,0,0,0,0,0,0,0,0,0,0,0,0,0,0,0,0,0,0,0,0,0,0,0,0,0,0,0,0,0,0,0,3843,0,0,0,0,0,0,0,0,0,7939]),
 (196,[0,0,0,0,0,0,0,0,0,0,0,0,0,0,0,0,0,0,0,0,0,0,0,0,0,0,0,0,0,0,0,0,0,0,10240,0,30729,0,0,0,0,0,0,0,0,0,0,0,0,0,0,0,0,0,0,0,0,768,0,0,768]),
 (197,[0,0,0,0,0,0,0,0,0,0,0,0,0,0,0,769]),
 (198,[0,0,0,0,0,0,0,0,0,0,0,0,0,0,0,0,1551,0,0,0,0,0,0,0,0,0,0,0,0,0,0,0,0,0,0,0,1551,0,0,0,0,1551,0,0,0,1551,0,0,0,0,0,0,0,0,0,0,0,0,0,0,0,0,0,0,0,1551,0,0,0,3599,0,0,0,0,0,0,0,0,0,0,0,0,0,0,3599,0,0,0,0,0,0,0,0,0,0,0,0,0,0,0,0,0,0,0,1551,0,0,0,0,5647,0,0,0,0,0,0,0,0,0,0,0,0,0,0,5647]),
 (199,[0,0,0,0,0,0,0,0,0,0,0,0,0,0,0,0,0,0,0,0,0,0,0,0,0,0,0,0,0,0,0,0,0,0,0,0,0,0,0,0,0,0,0,0,0,0,0,6163,0,0,0,0,0,0,0,0,0,0,0,0,0,0,0,0,0,6163,0,0,0,0,6163]),
 (200,[0,0,0,0,0,0,0,0,0,0,0,0,0,0,0,0,0,0,0,0,0,0,0,0,0,0,0,0,0,0,0,0,0,0,0,0,0,0,0,0,0,0,0,0,0,0,0,12307,0,0,0,0,0,0,0,0,0,0,0,0,0,0,0,0,0,0,12307,0,0,0,0,12307,0,0,0,0,0,0,0,0,0,0,0,0,0,0,0,0,0,0,0,0,0,0,0,0,0,0,0,0,0,0,0,0,0,0,0,0,0,0,0,0,0,0,0,0,0,0,0,0,12307,0,0,0,0,0,0,0,0,0,0,0,0,0,0,0,0,0,0,12307,0,0,0,0,12307]),
 (202,[0,0,0,0,5,0,0,0,5,0,0,0,0,0,5]),
 (203,[]),
 (204,[0,0,0,0,0,0,0,0,0,0,0,0,0,0,0,0,0,0,3101,0,0,0,0,0,0,0,0,0,0,0,0,0,0,0,0,0,0,0,0,0,3101,0,0,0,0,0,0,0,0,0,0,0,0,0,0,0,0,0,3101]),
 (205,[]),
 (206,[]),
 (207,[]),
 (208,[]),
 (209,[0,0,0,0,0,0,0,0,0,0,0,0,0,0,0,0,0,0,0,0,0,0,6])]++[(34,[(13,[1,2]),(20,[2,5,2000011]),(29,[2,7,8])]),(54,[(17,[0,3,5,2000006]),(22,[0,3,5,2000006]),(35,[0,3,5,33,34,2000006]),(39,[0,3,5,6,33,34,37,38,2000006])]),(153,[(19,[0,3,4,5,6,7,17,18,1000007]),(24,[0,3,4,5,6,7,8,17,18,1000007]),(35,[0,3,4,5,6,7,17,18,1000007]),(48,[0,3,4,5,6,7,9,17,18,45,46,47,1000007])]),(179,[(8,[3000010])])]
def apX:List (Nat×List (Nat×List Nat)):=UK [(3,[]),
 (4,[]),
 (5,[]),
 (6,[]),
 (7,[]),
 (8,[0,1924145348618,1924145348618,3942573819297802]),
 (9,[]),
 (10,[]),
 (11,[71]),
 (12,[]),
 (13,[]),
 (14,[]),
 (15,[]),
 (16,[512,25769804418,25769804418]),
 (17,[0,12291]),
 (18,[]),
 (19,[144,144]),
 (20,[]),
 (21,[]),
 (22,[]),
 (23,[]),
 (24,[192,393408,393408,235274688]),
 (25,[451,963,192,1475,3523,7619,1475,11715]),
 (26,[48,29360243,29360755,29362035,29366131,29368179,29368179,7881299377266547]),
 (27,[192,963,1987,4035]),
 (28,[0,1924145348618,1924145348618,3942573819297802]),
 (29,[6400,14605,63757,206158493965]),
 (30,[]),
 (31,[]),
 (32,[228,1879048438,1879049718,985164297537014,40964,1083197534374707740536791108]),
 (33,[]),
 (34,[]),
 (35,[2,114]),
 (36,[8192,3848290707468,3848290707468]),
 (37,[]),
 (38,[]),
 (39,[]),
 (40,[]),
 (41,[9,196617]),
 (42,[12,14680076]),
 (43,[]),
 (44,[0,786435]),
 (45,[]),
 (46,[]),
 (47,[28]),
 (48,[]),
 (49,[]),
 (50,[32,99,99,227]),
 (51,[]),
 (52,[180,6442451124,148,3848290697364]),
 (53,[26,117440538,4,26,402,492581209244058,492581209246618,2018105214271228826]),
 (55,[421,933,421,541598767187353870268367269,541598767187353870268367269,541598767187353870268372389,8452,40922045845265281709703175316055924550366111211940,40922045845265281709703175316055924550366111211940,335274321610258453047598115364446189841149549088924068]),
 (56,[]),
 (57,[12,12582924]),
 (58,[256,469762434]),
 (59,[0]),
 (60,[]),
 (61,[6,0,63050394783186946]),
 (62,[]),
 (63,[14,7340046]),
 (64,[]),
 (65,[]),
 (66,[0,0,3670016]),
 (67,[128,7340172]),
 (68,[408,920,2048,7432]),
 (69,[128,7340188]),
 (70,[]),
 (71,[0,450,450,498]),
 (72,[0]),
 (73,[6400,14605,63757,206158493965]),
 (74,[]),
 (75,[]),
 (76,[80,80]),
 (78,[]),
 (79,[]),
 (80,[]),
 (81,[10,1879048202]),
 (82,[]),
 (83,[]),
 (84,[16,147,147,7340179]),
 (85,[8,229385]),
 (86,[0,58720262]),
 (87,[19,16,48]),
 (88,[]),
 (89,[48]),
 (90,[0]),
 (91,[]),
 (92,[]),
 (93,[]),
 (94,[0,67]),
 (95,[]),
 (96,[]),
 (97,[]),
 (98,[]),
 (99,[]),
 (100,[0,3087]),
 (101,[47,111]),
 (102,[]),
 (103,[]),
 (104,[66,3848290697282,64,270799383593676935134184000]),
 (105,[]),
 (106,[17,939524121,939524409]),
 (107,[0,387]),
 (108,[20,21]),
 (109,[]),
 (110,[]),
 (111,[10,63050394783186954]),
 (112,[12,3670030,3670030,120262754366]),
 (113,[0,12291]),
 (114,[0,12291]),
 (115,[0,12291]),
 (116,[]),
 (117,[35,229411,0,985162418487331,985162418487331,64035557201674787]),
 (118,[]),
 (119,[8,456]),
 (120,[2,10,3670026]),
 (121,[1024,25769805187,25769805187,987842481539]),
 (122,[128,1835137,1835137,119275649,119281793,844425049413761]),
 (123,[]),
 (124,[]),
 (125,[128,14725,14725]),
 (126,[0,9]),
 (127,[]),
 (128,[]),
 (129,[]),
 (130,[]),
 (131,[248,14680316,2064]),
 (132,[240,7340276,2256,126100789566376144]),
 (133,[]),
 (134,[0,7181]),
 (135,[0,387]),
 (136,[]),
 (137,[0,57345]),
 (138,[]),
 (139,[8,49160]),
 (140,[8,3592]),
 (141,[32,469762082]),
 (142,[]),
 (143,[]),
 (144,[0,1]),
 (145,[]),
 (146,[]),
 (147,[20,21]),
 (148,[]),
 (149,[0,898]),
 (151,[0,57345,57345,117497857]),
 (152,[0,458785,458785,3758555297,3758555297,246294363178657]),
 (154,[]),
 (155,[0,387]),
 (156,[8,1544]),
 (157,[0,195]),
 (158,[0,57356]),
 (160,[]),
 (161,[8,456]),
 (162,[135,135,256,897,256,54043195528446211]),
 (163,[0,387]),
 (164,[]),
 (165,[33,99]),
 (166,[32,1825]),
 (167,[67]),
 (168,[]),
 (169,[]),
 (170,[]),
 (171,[]),
 (173,[]),
 (174,[0]),
 (175,[]),
 (176,[20]),
 (177,[]),
 (178,[32,1835042]),
 (179,[]),
 (180,[]),
 (181,[]),
 (182,[]),
 (183,[1,35,33,227]),
 (184,[]),
 (186,[]),
 (187,[0]),
 (188,[0,3103]),
 (189,[]),
 (190,[]),
 (191,[3,14343]),
 (193,[0,271,271,783]),
 (194,[1801,3849,0,4873]),
 (195,[0,3843]),
 (196,[768]),
 (197,[0,769]),
 (198,[0,1551,1551,1551,1551,3599,1551,5647]),
 (199,[2048,6163,6163,6163,6163,6163]),
 (200,[12307,12307,12307,12307,8195,12307,12307,12307,12307,12307]),
 (202,[]),
 (203,[]),
 (204,[0,1053]),
 (205,[]),
 (206,[]),
 (207,[]),
 (208,[]),
 (209,[])]++[(54,[(0,[0,3,5,2000006]),(1,[0,3,5,33,34,2000006]),(2,[0,3,5,33,34,2000006]),(3,[0,3,5,6,33,34,37,38,2000006])]),(153,[(0,[3]),(1,[0,3,4,5,6,7,17,18,1000007]),(2,[0,3,4,5,6,7,17,18,1000007]),(3,[0,3,4,5,6,7,17,18,1000007]),(4,[0,3,4,5,6,7,17,18,1000007]),(5,[0,3,4,5,6,7,9,17,18,45,46,47,1000007])])]
def apY:List (Nat×List (Nat×List Nat)):=[(25,[(1,[5000022])]),
 (26,[(1,[5000020])]),
 (27,[(1,[5000022])]),
 (54,[(3,[2000006])]),
 (122,[(1,[104000319,105000322,106000325,107000328,108000331,109000334,110000337,111000340,112000343,113000346,114000349])]),
 (147,[(1,[4]),(2,[4]),(4,[4]),(5,[4]),(6,[4]),(7,[4]),(8,[4]),(10,[4])]),
 (153,[(2,[4]),(14,[45,1000048])])]
def apZ:List (Nat×List Nat):=[(34,[0]),
 (39,[0]),
 (55,[0,1]),
 (63,[0]),
 (80,[0]),
 (87,[0]),
 (88,[0]),
 (89,[0]),
 (108,[0]),
 (121,[0]),
 (127,[0]),
 (128,[0]),
 (129,[0]),
 (147,[0]),
 (176,[0])]
def ap0:List (Nat×List (Nat×List (Nat×Nat))):=[(3,[(1,[(1,4)]),(2,[(2,5)]),(3,[(1,6)]),(4,[(1,6)]),(5,[(10,7),(14,8),(18,9)])]),
 (4,[(1,[(1,10)]),(2,[(2,12),(4,11)])]),
 (5,[(1,[(2,13)]),(4,[(3,14)]),(7,[(1,15)])]),
 (6,[(1,[(1,16)])]),
 (7,[(1,[(2,17)])]),
 (8,[(2,[(2,18)])]),
 (9,[(1,[(0,21),(1,21),(3,20),(5,20),(6,19)]),(2,[(4,15),(10,21),(11,22)])]),
 (11,[(1,[(1,23)]),(3,[(3,24)]),(5,[(4,25)]),(7,[(2,26)]),(8,[(3,27)])]),
 (12,[(1,[(1,23)])]),
 (13,[(1,[(1,28)]),(4,[(1,28)]),(9,[(1,15),(3,15)])]),
 (14,[(1,[(1,28)]),(4,[(1,28)]),(9,[(9,29)])]),
 (15,[(1,[(1,28)]),(3,[(1,32)])]),
 (16,[(1,[(1,28)]),(4,[(1,33)]),(6,[(1,34)]),(10,[(0,35)]),(13,[(3,36)])]),
 (19,[(1,[(2,37)]),(4,[(1,39),(3,38)]),(5,[(1,40)]),(6,[(1,41)]),(9,[(1,42)])]),
 (22,[(1,[(1,43),(5,44)]),(4,[(1,45)]),(5,[(1,46)]),(6,[(3,47),(8,48)])]),
 (23,[(4,[(12,49)])]),
 (24,[(1,[(3,27)])]),
 (25,[(2,[(2,23)]),(3,[(2,23)]),(7,[(3,23)]),(19,[(3,23)])]),
 (26,[(2,[(2,23),(4,50)]),(6,[(3,23)])]),
 (27,[(2,[(2,23)]),(3,[(2,23)]),(7,[(3,23)]),(12,[(3,23)])]),
 (29,[(2,[(1,51)]),(12,[(5,30),(6,232)]),(17,[(4,31)])]),
 (32,[(1,[(1,52)]),(2,[(1,53)]),(17,[(1,52)])]),
 (34,[(1,[(1,28)]),(5,[(1,15),(2,54)]),(8,[(0,55)])]),
 (35,[(2,[(0,56)]),(5,[(2,57)])]),
 (36,[(1,[(2,58)]),(7,[(0,56),(4,57)]),(12,[(7,59)])]),
 (37,[(3,[(1,60)]),(5,[(2,61)])]),
 (38,[(3,[(2,62)])]),
 (39,[(1,[(1,43)]),(3,[(1,63)])]),
 (41,[(5,[(13,64)]),(8,[(5,65)]),(12,[(2,62)])]),
 (42,[(5,[(3,66)])]),
 (43,[(1,[(1,37)])]),
 (47,[(3,[(4,67)]),(5,[(6,68)]),(8,[(3,69)]),(10,[(6,70)]),(12,[(2,71)])]),
 (52,[(1,[(1,28)]),(3,[(6,73)])]),
 (53,[(1,[(1,28)])]),
 (55,[(1,[(4,76)]),(16,[(8,78)]),(32,[(7,79)])]),
 (57,[(5,[(1,80)])]),
 (58,[(1,[(1,81)]),(4,[(0,56)])]),
 (59,[(1,[(3,82)]),(6,[(1,83)]),(8,[(2,84)]),(10,[(1,85)])]),
 (60,[(2,[(1,86)])]),
 (61,[(22,[(2,61)])]),
 (62,[(2,[(5,65)])]),
 (63,[(7,[(3,63)]),(9,[(3,87)])]),
 (64,[(1,[(3,89),(4,88)])]),
 (65,[(1,[(1,43)]),(4,[(1,90)]),(5,[(0,91)])]),
 (66,[(6,[(2,247)]),(12,[(1,66)]),(17,[(9,66)])]),
 (67,[(1,[(5,47)]),(5,[(1,45)]),(6,[(2,243)]),(7,[(3,47)]),(8,[(5,95)]),(9,[(2,244)])]),
 (68,[(1,[(1,45)]),(2,[(2,238)]),(6,[(2,46)]),(7,[(3,47)]),(12,[(1,45)]),(13,[(2,46)]),(14,[(5,242)])]),
 (69,[(1,[(6,47)]),(5,[(3,47)]),(6,[(2,241)])]),
 (70,[(1,[(3,47)]),(3,[(2,240)])]),
 (71,[(5,[(4,102),(6,72)])]),
 (72,[(0,[(3,45)]),(2,[(5,239)]),(4,[(6,239)])]),
 (73,[(2,[(1,103)]),(12,[(5,74),(6,231)]),(17,[(4,75)])]),
 (76,[(1,[(2,104)]),(4,[(1,105)]),(5,[(1,106)])]),
 (78,[(1,[(2,107)])]),
 (80,[(4,[(0,108)]),(5,[(3,109)]),(7,[(0,108)]),(11,[(1,110)])]),
 (81,[(1,[(1,111)]),(3,[(1,112),(2,34)]),(9,[(6,113)]),(12,[(4,114),(11,113),(19,115),(27,115)])]),
 (82,[(1,[(1,116)]),(4,[(2,117)]),(6,[(1,110)]),(8,[(1,118)]),(9,[(8,119)]),(11,[(2,120),(5,120),(9,121)]),(12,[(12,122)])]),
 (83,[(1,[(4,123)])]),
 (84,[(1,[(1,85)]),(9,[(9,125),(19,125)]),(11,[(1,126)])]),
 (86,[(7,[(4,86)])]),
 (87,[(3,[(1,127)]),(5,[(1,128)]),(7,[(1,129)]),(18,[(0,130)]),(19,[(5,95)])]),
 (88,[(1,[(2,37)])]),
 (89,[(12,[(2,131)]),(14,[(5,89)]),(15,[(3,87)]),(16,[(4,87)]),(18,[(2,132)])]),
 (90,[(3,[(1,133)]),(5,[(1,133)]),(7,[(5,133)]),(9,[(3,134)]),(11,[(3,134)]),(13,[(3,134)]),(15,[(1,133)]),(16,[(3,134)]),(18,[(3,134)]),(19,[(1,133)])]),
 (92,[(1,[(2,135)])]),
 (93,[(0,[(6,94)])]),
 (95,[(1,[(14,136)])]),
 (96,[(0,[(1,45)]),(1,[(5,245)])]),
 (97,[(0,[(5,48)]),(1,[(6,94)])]),
 (99,[(0,[(2,48)]),(1,[(6,94)])]),
 (101,[(0,[(1,45)])]),
 (104,[(8,[(10,137)]),(14,[(6,139),(7,138)]),(19,[(5,140)]),(22,[(7,138)])]),
 (106,[(6,[(9,141)]),(7,[(5,140)]),(12,[(14,142),(15,138)]),(13,[(18,143)])]),
 (108,[(2,[(1,144)]),(3,[(5,146),(6,145)]),(4,[(1,144)]),(5,[(1,147)])]),
 (109,[(1,[(1,146)])]),
 (110,[(1,[(2,148)]),(4,[(2,148)])]),
 (111,[(9,[(7,149)]),(12,[(3,149)])]),
 (116,[(1,[(1,151)]),(4,[(2,153),(3,152)])]),
 (118,[(1,[(1,154)]),(3,[(1,156),(3,155)])]),
 (119,[(5,[(3,158)])]),
 (120,[(10,[(2,120)])]),
 (121,[(3,[(4,246)]),(4,[(4,246)]),(5,[(5,161)])]),
 (122,[(13,[(6,162)])]),
 (123,[(1,[(2,163)])]),
 (127,[(1,[(1,92)]),(2,[(0,164)]),(3,[(1,166),(2,165)]),(4,[(1,168),(2,169),(3,167)])]),
 (128,[(1,[(1,233)]),(2,[(0,169)]),(3,[(1,166),(2,236)]),(4,[(1,130),(2,167)])]),
 (129,[(1,[(1,233)]),(2,[(0,169)]),(3,[(1,166),(2,235)]),(4,[(1,168),(2,164),(3,167)])]),
 (131,[(6,[(2,89)]),(11,[(3,87),(7,87)])]),
 (132,[(8,[(4,171)]),(9,[(2,89)]),(19,[(3,87)]),(21,[(1,87),(3,87)])]),
 (134,[(4,[(2,173)]),(5,[(2,174)]),(6,[(2,90)]),(7,[(1,133)]),(8,[(2,90)]),(9,[(1,133)])]),
 (135,[(4,[(5,95)])]),
 (138,[(2,[(5,140)])]),
 (141,[(1,[(7,137),(12,137)])]),
 (143,[(1,[(3,142)])]),
 (144,[(0,[(1,109)])]),
 (145,[(1,[(11,175)])]),
 (147,[(1,[(1,176)]),(4,[(1,144)]),(5,[(1,109)]),(6,[(1,144)]),(7,[(1,177)])]),
 (148,[(1,[(1,178)])]),
 (153,[(10,[(2,179)]),(17,[(8,179)]),(18,[(8,179)])]),
 (154,[(1,[(1,116)])]),
 (155,[(4,[(5,157)])]),
 (161,[(5,[(3,249)])]),
 (163,[(4,[(5,124)])]),
 (164,[(1,[(0,169)])]),
 (165,[(1,[(2,234)]),(8,[(2,136)])]),
 (168,[(1,[(1,181)]),(2,[(1,183)])]),
 (171,[(3,[(1,63)])]),
 (175,[(1,[(2,186)])]),
 (176,[(1,[(1,146)]),(2,[(1,145)]),(9,[(1,108)]),(10,[(4,109)]),(11,[(1,175)])]),
 (177,[(1,[(1,109)]),(3,[(1,109),(5,109)]),(5,[(1,109)]),(6,[(1,109),(4,109)]),(7,[(1,109),(5,146),(10,146)]),(9,[(1,146)]),(11,[(2,109)])]),
 (178,[(1,[(4,187)]),(7,[(5,178)])]),
 (181,[(1,[(4,189),(6,188)])]),
 (182,[(2,[(4,190)]),(4,[(4,190)]),(5,[(4,191)])]),
 (183,[(6,[(10,184)]),(11,[(10,184)])]),
 (184,[(1,[(2,182)])]),
 (188,[(4,[(4,193)]),(6,[(4,194)]),(8,[(4,195)]),(10,[(4,196)]),(12,[(4,197)]),(16,[(4,198)]),(17,[(13,182)]),(18,[(5,199)]),(20,[(5,200)]),(26,[(5,188)]),(29,[(6,188)])]),
 (189,[(2,[(1,202)])]),
 (190,[(1,[(1,203)]),(2,[(1,203)])]),
 (191,[(7,[(3,182)])]),
 (193,[(4,[(14,182)])]),
 (194,[(6,[(5,204)]),(11,[(5,204)])]),
 (195,[(3,[(1,205)]),(7,[(0,206)])]),
 (196,[(8,[(3,207)]),(9,[(3,207)]),(10,[(3,207)]),(11,[(5,208)])]),
 (198,[(5,[(14,182)]),(16,[(10,182)]),(22,[(10,182)])]),
 (199,[(3,[(13,182)]),(5,[(13,182)])]),
 (200,[(3,[(13,182)]),(5,[(13,182)]),(13,[(13,182)]),(15,[(13,182)])]),
 (204,[(3,[(19,182)]),(5,[(13,182)])]),
 (205,[(1,[(2,189)])]),
 (207,[(1,[(8,208)])]),
 (208,[(1,[(5,209)]),(2,[(5,209)]),(3,[(5,209)])]),
 (209,[(1,[(9,182)])]),
 (233,[(1,[(2,234)])]),
 (234,[(4,[(5,136)])]),
 (235,[(1,[(2,135)]),(8,[(2,95)])]),
 (236,[(1,[(2,237)]),(8,[(2,170)])]),
 (237,[(4,[(5,170)])]),
 (238,[(5,[(4,102),(6,98)])]),
 (240,[(5,[(4,102),(6,101)])]),
 (241,[(5,[(4,102),(6,100)])]),
 (242,[(5,[(4,102),(6,99)])]),
 (243,[(5,[(4,102),(6,93)])]),
 (244,[(5,[(4,102),(6,96)])]),
 (245,[(5,[(4,102),(6,97)])]),
 (246,[(1,[(3,160)]),(5,[(3,246)])]),
 (247,[(1,[(2,248)])]),
 (248,[(4,[(5,66)])]),
 (249,[(1,[(3,180)]),(5,[(3,249)])])]
def ap1:List (Nat×List (Nat×(Shape×List (Out×Shape)))):=[(8,[(225,Tj),(145,Tk)]),
 (16,[(177,Qc)]),
 (17,[(65,Tl)]),
 (19,[(81,Tm)]),
 (24,[(97,Qk),(49,Ql)]),
 (25,[(81,Qp),(209,Qq),(273,Qr),(145,Qs)]),
 (26,[(241,Qt),(209,Qu),(145,Qv),(65,Qw)]),
 (27,[(161,Qi),(81,Qj)]),
 (28,[(225,Tn),(145,To)]),
 (29,[(161,Ts),(81,Tt)]),
 (31,[(207,Tu)]),
 (32,[(161,Tv),(81,Tw),(321,Tx)]),
 (35,[(49,Qb)]),
 (36,[(129,Tz)]),
 (41,[(49,TA)]),
 (42,[(49,aoh)]),
 (44,[(65,aoi)]),
 (50,[(97,aoj),(49,aok)]),
 (52,[(97,TB),(177,TC)]),
 (53,[(81,TD),(273,TE),(209,TF),(161,TG)]),
 (54,[(161,TH),(113,TI)]),
 (55,[(145,TJ),(321,TK),(225,TL),(481,TM),(417,TN)]),
 (57,[(49,TO)]),
 (58,[(145,TP)]),
 (61,[(321,aol)]),
 (63,[(81,aom)]),
 (66,[(161,aon)]),
 (67,[(49,aoo)]),
 (68,[(65,aop),(161,aoq)]),
 (69,[(49,aor)]),
 (71,[(49,aos),(17,aot)]),
 (72,[(175,aou)]),
 (73,[(161,TQ),(81,TR)]),
 (76,[(65,TS)]),
 (81,[(113,TT)]),
 (84,[(81,TU),(33,TV)]),
 (85,[(49,TW)]),
 (86,[(81,aov)]),
 (89,[(399,aow)]),
 (90,[(463,aox),(367,aoy),(239,aoz),(175,aoA),(111,aoB)]),
 (94,[(17,aoC)]),
 (100,[(17,aoD)]),
 (101,[(33,aoE)]),
 (104,[(97,TX),(1167,TY),(1711,TZ),(257,T4)]),
 (106,[(1263,T6),(65,T7)]),
 (107,[(33,T8)]),
 (108,[(49,aoF)]),
 (111,[(113,T9)]),
 (112,[(113,Ua),(49,Ub)]),
 (113,[(65,Uc)]),
 (114,[(65,Ud)]),
 (115,[(65,Ue)]),
 (117,[(49,Uf),(209,Ug),(161,Uh)]),
 (119,[(49,aoG)]),
 (120,[(129,aoH)]),
 (121,[(161,Ui),(113,Uj)]),
 (122,[(177,Uk),(97,Ul),(49,Um)]),
 (125,[(319,Un),(65,Uo)]),
 (126,[(33,Up)]),
 (131,[(65,aoI)]),
 (132,[(81,aoJ),(225,aoK)]),
 (134,[(303,aoL),(17,aoM)]),
 (135,[(33,aoN)]),
 (137,[(65,Uq)]),
 (139,[(81,Ur)]),
 (140,[(49,Us)]),
 (141,[(81,Ut)]),
 (144,[(1,aoO)]),
 (147,[(81,aoP)]),
 (149,[(33,Uu)]),
 (151,[(177,Uv),(97,Uw)]),
 (152,[(193,Ux),(129,Uy),(49,Uz)]),
 (153,[(241,UA),(177,UB),(97,UC)]),
 (155,[(33,UD)]),
 (156,[(49,UE)]),
 (157,[(33,UF)]),
 (160,[(143,aoQ)]),
 (161,[(49,aoR)]),
 (162,[(33,UG),(113,UH),(177,UI)]),
 (163,[(33,UJ)]),
 (165,[(81,aoS)]),
 (166,[(49,aoT)]),
 (178,[(81,aoU)]),
 (183,[(145,aoV),(65,aoW)]),
 (188,[(639,aoX),(911,aoY),(1215,aoZ),(33,ao0)]),
 (191,[(33,ao1)]),
 (193,[(65,ao2),(17,ao3)]),
 (194,[(65,ao4),(129,ao5)]),
 (195,[(735,ao6),(81,ao7)]),
 (196,[(591,ao8),(559,ao9)]),
 (197,[(33,apa)]),
 (198,[(81,apb),(225,apc),(1055,apd),(321,ape),(49,apf)]),
 (199,[(49,apg),(81,aph),(50,api)]),
 (200,[(49,apj),(81,apk),(209,apl),(241,apm),(210,apn)]),
 (202,[(79,apo),(143,apq)]),
 (204,[(655,apr),(17,aps)]),
 (234,[(33,apt)]),
 (235,[(81,apu)]),
 (236,[(81,apv)]),
 (237,[(33,apw)]),
 (238,[(49,apx),(17,apy)]),
 (240,[(49,apz),(17,apA)]),
 (241,[(49,apB),(17,apC)]),
 (242,[(49,apD),(17,apE)]),
 (243,[(49,apF),(17,apG)]),
 (244,[(49,apH),(17,apI)]),
 (245,[(49,apJ),(17,apK)]),
 (246,[(49,apL)]),
 (248,[(33,apM)]),
 (249,[(49,apO)])]
def ap2:List (Nat×List (Nat×List Nat)):=[(25,[(7,[41,42])]),
 (26,[(22,[71,72])]),
 (27,[(13,[49,50])]),
 (47,[(11,[46])]),
 (54,[(5,[26])]),
 (55,[(7,[42]),(24,[158])]),
 (68,[(8,[42])]),
 (112,[(1,[16])]),
 (121,[(5,[31])]),
 (125,[(1,[7])]),
 (165,[(12,[41])]),
 (183,[(15,[64])]),
 (235,[(12,[41])]),
 (236,[(12,[41])])]
def Nf (k:Nat):FuncId:=(fF apP k).getD 0
def lU:dw where
 jN:=Nf
 sin:=fun k=>(fF apQ k).getD ⟨[],[]⟩
 iT:=fun k=>(fF apR k).getD ⟨[],[]⟩
 live:=fun k r=>(fF ((fF apV (Nf k)).getD []) r).getD []
 join:=fun k r=>(fF ((fF apW (Nf k)).getD []) r).getD []
 blk:=fun k r=>(fF ((fF apX (Nf k)).getD []) r).getD []
 pur:=fun k r=>(fF ((fF apY k).getD []) r).getD []
 yB:=fun k=>(fF apZ k).getD []
 alt:=fun k=>fF apS k
 WX:=fun k r=>(fF ((fF ap2 k).getD []) r).getD []
 ck:=fun k r i=>(fF ((fF ((fF ap0 k).getD []) r).getD []) i).getD 0
 j4:=fun k x=>fF ((fF ap1 k).getD []) x
 sj:=[]
 JF:=fun _=>0
 ext:=fun f=>bif Nat.beq f 172 then some 172 else bif Nat.beq f 192 then some 999999 else none
 sk:=fun f=>bif Nat.beq f 77 then some 3 else bif Nat.beq f 150 then some 4 else none
 idle:=fun f=>false
 mv:=fun k=>(fF ([(40,[1,2]),(41,[1,2]),(42,[1,2]),(51,[1]),(55,[2]),(62,[1,2]),(83,[2]),(84,[2]),(85,[2]),(90,[1]),(91,[1]),(93,[2]),(97,[3]),(99,[2]),(103,[1]),(105,[1,2,3,4,5,6,8,9,10]),(106,[1,2,3,4,5,6,8,9,10]),(126,[2]),(133,[1]),(134,[1]),(138,[2,3,4,5,6,8,9,10]),(142,[2,3,4,5,6,8,9,10]),(143,[2,3,4,5,6,8,9,10]),(173,[1]),(179,[2,3]),(231,[1]),(232,[1]),(242,[2]),(243,[2]),(245,[3])]:List (Nat×List Nat)) k).getD []
 aE:=fun g=>bif Nat.beq g 0 then .pref [5,5,5,5,5,5,5,5,5,5,5,5,5,5,5,5,5,5,5,5,5,5,5,5,5,5,5,5,5,5,5,5,5,5,5,5,5,5,5,5,5,5,5,5,5,5,5,5,5,5,5,5,5,5,5,5,5,5,5,5,5,5,5,5] MI else .undef
noncomputable abbrev PG:Program:=Tryz.prog
noncomputable abbrev CC:af:=Call Tryz.prog lU
noncomputable abbrev Lp (p:List Nat) (k:Nat):pQ:= .loop (v8 p (tM PG (lU.jN k)))
noncomputable abbrev Cd (t:Nat) (p q:List Nat) (k:Nat):pQ:= .cond t (v8 p (tM PG (lU.jN k))) (v8 q (tM PG (lU.jN k)))
abbrev bD (C:af) (L:cD) (k:Nat) (b:pQ):Prop:=uy PG lU C L k (EE PG (lU.jN k)) (lU.sin k).cT.length b
end Go.AM
set_option maxRecDepth 100000
namespace Go.AM
open Go.IntKind (wrap)
open Go.Proofs Go.RowKit
set_option maxHeartbeats 1000000 in
theorem ap3 (hP:zB Tryz.prog):LA Tryz.prog 77 3:=by
 refine ⟨fun args w=>MuLone.run_callFunc_enter Tryz.func77 (hP _ _ Tryz.func77) (by kernel_rfl:Tryz.f77.body=some (tM Tryz.prog 77)) _ _,22,by kernel_rfl,?_⟩;intro s w Q h1 h2 h3;have hu:Tryz.prog.underlying 22=some (.slice 3):=by kernel_rfl
 go_enter Tryz.func77,Tryz.ntmps77
 rcases h3 with rfl|⟨a,n,c,rfl⟩
 ·go_wp2
  rw[run_eql_slice_nil w 22 3 none 0 0 hu];simp only[Result.andThen];rw[Oper.upon_value]
  go_wp2
  exact trivial
 ·go_wp2
  rw[run_eql_slice_nil w 22 3 (some a) n c hu];simp only[Result.andThen];rw[Oper.upon_value]
  iterate 17 go_step
  obtain ⟨v,w',hv,hQ⟩:=h2 _ _ _ rfl;unfold Oper.wp;simp[execOp,resolve,invoke,Act.eval,hv,builtin];rw[Oper.upon_value]
  go_wp2
  exact hQ
set_option maxHeartbeats 1000000 in
theorem ap4 (hP:zB Tryz.prog):LA Tryz.prog 150 4:=by
 refine ⟨fun args w=>MuLone.run_callFunc_enter Tryz.func150 (hP _ _ Tryz.func150) (by kernel_rfl:Tryz.f150.body=some (tM Tryz.prog 150)) _ _,23,by kernel_rfl,?_⟩;intro s w Q h1 h2 h3;have hu:Tryz.prog.underlying 23=some (.slice 4):=by kernel_rfl
 go_enter Tryz.func150,Tryz.ntmps150
 rcases h3 with rfl|⟨a,n,c,rfl⟩
 ·go_wp2
  rw[run_eql_slice_nil w 23 4 none 0 0 hu];simp only[Result.andThen];rw[Oper.upon_value]
  go_wp2
  exact trivial
 ·go_wp2
  rw[run_eql_slice_nil w 23 4 (some a) n c hu];simp only[Result.andThen];rw[Oper.upon_value]
  iterate 17 go_step
  obtain ⟨v,w',hv,hQ⟩:=h2 _ _ _ rfl;unfold Oper.wp;simp[execOp,resolve,invoke,Act.eval,hv,builtin];rw[Oper.upon_value]
  go_wp2
  exact hQ
theorem ap5 (hP:zB PG) (f:FuncId) (e:TypeId) (h:lU.sk f=some e):LA PG f e:=by
 have h1:lU.sk f=bif Nat.beq f 77 then some 3 else bif Nat.beq f 150 then some 4 else none:=by kernel_rfl
 rw[h1] at h;cases Ng:Nat.beq f 77 with
 | true=>
  rw[Ng] at h;rw[aL] at Ng;cases h;subst Ng;exact ap3 hP
 | false=>
 rw[Ng] at h;simp only[cond_false] at h;cases Nh:Nat.beq f 150 with
 | true=>
  rw[Nh] at h;rw[aL] at Nh;cases h;subst Nh;exact ap4 hP
 | false=>
 rw[Nh] at h;simp only[cond_false] at h;cases h
theorem ap6 {w:World} {b:Nat} {C:Array Value} {T:TypeId} (h:w.heap[b]? =some (.cells C T (0,0))):w.shape? b=some (T,C.size)∧w.frozen? ⟨b,0,none⟩=false∧w.cell? ⟨b,0,none⟩=C[0]? :=by
 refine ⟨by simp[World.shape?,h],by simp[World.frozen?,h],cell?_cells h⟩
set_option maxHeartbeats 1000000 in
theorem ap7 (b:Nat) (w:World) (h0:w.cell? ⟨b,0,none⟩=some (.pointer (some ⟨b,0,none⟩))):
  Calls Tryz.prog 172 #[.pointer (some ⟨b,0,none⟩)] w fun e w'=>e= .returned (.tuple #[])∧w'=w:=by
 obtain ⟨j,hj⟩:=Bn.1 (show (Tryz.prog.info? 172).isSome=true by kernel_rfl);have hu:Tryz.prog.underlying 170=some (.pointer 172):=by kernel_rfl
 go_enter Tryz.func172,Tryz.ntmps172
 go_wp2
 rw[Lib.run_neq_ptr_same w _ hu hj]
 go_wp2
 go_end0
 exact ⟨rfl,rfl⟩
set_option maxHeartbeats 1000000 in
theorem ap8 (b n:Nat) (w:World) (hn:0<n) (h0:w.cell? ⟨b,0,none⟩=some (.pointer none)) (Ln:w.shape? b=some (172,n)) (CA:w.frozen? ⟨b,0,none⟩=false) (hl:liesAt Tryz.prog Tryz.prog.depth 172 (n/Tryz.prog.cellsOf 172) 0 172 1=true):
  Calls Tryz.prog 172 #[.pointer (some ⟨b,0,none⟩)] w fun e w'=>e= .returned (.tuple #[])∧w'=w.setCell ⟨b,0,none⟩ (.pointer (some ⟨b,0,none⟩)):=by
 obtain ⟨j,hj⟩:=Bn.1 (show (Tryz.prog.info? 172).isSome=true by kernel_rfl);have hjs:j.size≠0:=by
  have h2:(Tryz.prog.info? 172).map (·.size)=some 2:=by kernel_rfl
  rw[hj] at h2;simp at h2;omega
 have hu:Tryz.prog.underlying 170=some (.pointer 172):=by kernel_rfl
 have qE:Tryz.prog.underlying 261=some .unsafePointer:=by kernel_rfl
 go_enter Tryz.func172,Tryz.ntmps172
 go_wp2
 rw[Lib.run_to_unsafe w ⟨b,0,none⟩ hu qE hj hjs Ln hn];simp only[Result.andThen];rw[Oper.upon_value]
 go_wp2
 rw[run_callFunc_extern Tryz.func185 (by kernel_rfl) (by kernel_rfl) (by kernel_rfl) (e:=Extern.AbiNoEscape.same) (by kernel_rfl)];rw[Lib.run_noEscape];simp only[Result.andThen];rw[Oper.upon_value]
 go_wp2
 rw[Lib.run_from_unsafe w ⟨b,0,none⟩ qE hu hj Ln hl];simp only[Result.andThen];rw[Oper.upon_value]
 go_wp2
 go_end0
 exact ⟨rfl,rfl⟩
theorem ap9 (hP:zB Tryz.prog):kP Tryz.prog lU where
 count:=hP
 sk:=ap5 hP
 ext:=by
  intro f T h b C w hh hs hc;have hf:f=172∧T=172:=by
   have h1:lU.ext f=bif Nat.beq f 172 then some 172 else bif Nat.beq f 192 then some 999999 else none:=by kernel_rfl
   rw[h1] at h;cases hb:Nat.beq f 172 with
   | true=>rw[hb] at h;rw[aL] at hb;exact ⟨hb,(dL h).symm⟩
   | false=>
    rw[hb] at h;simp only[cond_false] at h;cases ff:Nat.beq f 192 with
    | true=>
     rw[ff] at h;obtain rfl:999999=T:=dL h;have h0:C.size=0:=hs.trans (by kernel_rfl)
     have h2:C[0]? =none:=Array.getElem?_eq_none (by omega);rw[h2] at hc;simp at hc
    | false=>rw[ff] at h;cases h
  obtain ⟨rfl,rfl⟩:=hf;obtain ⟨h1,h2,h3⟩:=ap6 hh;refine ⟨MuLone.run_callFunc_enter Tryz.func172 (hP _ _ Tryz.func172) (by kernel_rfl:Tryz.f172.body=some (tM Tryz.prog 172)) _ _,?_⟩;have gb:Tryz.prog.cellsOf 172=2:=by kernel_rfl
  rcases hc with hc|hc
  ·refine (ap8 b C.size w (by omega) (h3.trans hc) h1 h2 (by rw[hs,gb];kernel_rfl)).mono ?_;rintro e w' ⟨rfl,rfl⟩;exact ⟨rfl,.inr rfl⟩
  ·refine (ap7 b w (h3.trans hc)).mono ?_;rintro e w' ⟨rfl,rfl⟩;exact ⟨rfl,.inl rfl⟩
 RD:=by
  intro f T h h0 s c w;have h1:lU.ext f=bif Nat.beq f 172 then some 172 else bif Nat.beq f 192 then some 999999 else none:=by kernel_rfl
  rw[h1] at h;have gb:Tryz.prog.cellsOf 172=2:=by kernel_rfl
  cases hb:Nat.beq f 172 with
  | true=>
   rw[hb] at h;obtain rfl:172=T:=dL h;omega
  | false=>
   rw[hb] at h;simp only[cond_false] at h;cases ff:Nat.beq f 192 with
   | true=>
    rw[aL] at ff;subst ff;rw[run_callFunc_extern Tryz.func192 (by kernel_rfl) (by kernel_rfl) (by kernel_rfl) (e:=Extern.BytealgIndexByte.indexByte) (by kernel_rfl)];simp[Lib.run_indexByteString]
   | false=>rw[ff] at h;cases h
 idle:=by
  intro f h;have h1:lU.idle f=false:=by kernel_rfl
  rw[h1] at h;cases h
end Go.AM
set_option maxRecDepth 100000
namespace Go.AM
open Go.IntKind (wrap)
open Go.Proofs Go.Proofs.YtmdfofkbhepjaaaGreatDoor Go.Lib Go.MakeChecks
def wx:List Int:=[0,1,56,2,57,49,28,3,61,58,42,50,38,29,17,4,62,47,59,36,45,43,51,22,53,39,33,30,24,18,12,5,63,55,48,27,60,41,37,16,46,35,44,21,52,32,23,11,54,26,40,15,34,20,31,10,25,14,19,9,13,8,7,6]
theorem aqa:MI=wx.map fun z=> .int .u8 z:=by kernel_rfl
theorem aqb:Rows.laid_math_bits_deBruijn64tab (H:=Unit)=tabData .u8 wx:=by kernel_rfl
def Hb : List (String×DataW Unit) := [("math/bits.deBruijn64tab", Rows.laid_math_bits_deBruijn64tab)]
theorem agW {W:World} (h:laidMetH Tryz.prog Hb W):jR Tryz.prog lU.aE W (pP W):=by
 have h1 : laidMetH Tryz.prog [("math/bits.deBruijn64tab", tabData .u8 wx)] W := by
  have : Hb = [("math/bits.deBruijn64tab", tabData .u8 wx)] := by unfold Hb; rw [aqb]
  rwa [this] at h
 rw[laidMetH_plain _ _ _ (by kernel_rfl)] at h1;have hn : Tryz.prog.globalNamed "math/bits.deBruijn64tab" = some 0 := by kernel_rfl
 have ht:=tabIs_of_head (g:=0) (t:=219) (e:=5) (n:=64) hn (by kernel_rfl) (by kernel_rfl) (by kernel_rfl) (by kernel_rfl) (by kernel_rfl) h1;have hlen:wx.length=64:=by kernel_rfl
 have hc: ∀i,i<64→W.cell? ⟨0,i,none⟩=some (.int .u8 (wx.getD i 0)):=fun i hi=>ht.cell hn i (by rw[hlen];exact hi);intro g;have hg:lU.aE g=bif Nat.beq g 0 then .pref (List.replicate 64 5) MI else .undef:=by kernel_rfl
 rw[hg];cases hb:Nat.beq g 0 with
 | false=>exact .inl rfl
 | true=>
  rw[aL] at hb;subst hb;refine .inr ⟨List.replicate 64 5,MI,rfl,by kernel_rfl,fun _ _=> ?_,fun j t x hj hx=> ?_⟩
  ·have h0:=hc 0 (by omega);unfold pP;unfold World.cell? at h0;by_cases hz:0<W.heap.size
   ·exact hz
   ·have:W.heap[0]? =none:=Array.getElem?_eq_none (by omega);simp[this] at h0
  ·have Ni:j<64:=by
    have:=(cw.1 hj).1;simpa using this
   rw[Ec,aB Ni] at hj;cases hj;rw[aqa,ld] at hx;have kI:wx[j]? =some (wx.getD j 0):=by
    rw[bU (by rw[hlen];exact Ni)];simp[List.getD,bU (show j<wx.length by rw[hlen];exact Ni)]
   rw[kI] at hx;cases hx;exact ⟨_,by simpa using hc j Ni,.int (by kernel_rfl)⟩
theorem own:ownKnob Tryz.prog.godebug=none:=by kernel_rfl
theorem aqc:zB Tryz.prog:=ama (by kernel_rfl)
theorem mixed:Tryz.prog.follows .mixedOrders=true:=by kernel_rfl
theorem agV:kP Tryz.prog lU:=ap9 aqc
noncomputable def WV (os:Os):World:=World.laidAll Tryz.prog os Hb
theorem agT (os:Os) (args:Array Value):laidMetH Tryz.prog Hb ((WV os).forCall (fun _ _=>0) ⟨#[],args,[]⟩).memory:=by
 rw[laidMetH_plain _ _ _ (by kernel_rfl)];exact laidMet_laidAll args (by kernel_rfl) (by kernel_rfl)
end Go.AM
set_option maxRecDepth 100000
namespace Go.AM
open Go.IntKind (wrap)
open Go.Proofs
theorem Nj:maxLen≤9223372036854775807:=by unfold maxLen;omega
theorem adS:aX=35184372088832:=by unfold aX;rfl
section
variable {α β:Type} {o:Option α} {a:α} {f:α→Option β} {r:Option β} {x y z:β} {b:Bool}
theorem bs (h:o=some a) (h2:f a=r):o.bind f=r:=by rw[h];exact h2
theorem bT (hb:b=true) (h:x=z):(bif b then x else y)=z:=by rw[hb];exact h
theorem bF (hb:b=false) (h:y=z):(bif b then x else y)=z:=by rw[hb];exact h
end
section
variable {X R A α:Type} {step:X→Option (X ⊕ R)}
theorem Nk (lJ:Nat→Prop) [DecidablePred lJ] (n:Nat) (s:Nat→X) (bad ok:R) (h: ∀i,i<n→step (s i)=some (if lJ i then .inl (s (i+1)) else .inr bad)) (he:step (s n)=some (.inr ok)):
  Loop step (s 0)=some (if∀i,i<n→lJ i then ok else bad):=by
 have go: ∀(d k:Nat),k+d=n→((∀i,k≤i→i<n→lJ i)→Loop step (s k)=some ok)∧((¬∀i,k≤i→i<n→lJ i)→Loop step (s k)=some bad):=by
  intro d
  induction d with
  | zero=>
   intro k hk;have:k=n:=by omega
   subst this;exact ⟨fun _=>jY he,fun hx=>absurd (fun i h1 h2=>by omega) hx⟩
  | succ d ih=>
   intro k hk;have h1:=h k (by omega);by_cases hg:lJ k
   ·rw[aB hg] at h1;rw[iS h1];obtain ⟨i1,i2⟩:=ih (k+1) (by omega);refine ⟨fun ha=>i1 fun i h1 h2=>ha i (by omega) h2,fun ha=>i2 fun hx=>ha fun i h1 h2=> ?_⟩;by_cases hi:i=k
    ·rw[hi];exact hg
    ·exact hx i (by omega) h2
   ·rw[aC hg] at h1;rw[jY h1];exact ⟨fun ha=>absurd (ha k (aw _) (by omega)) hg,fun _=>rfl⟩
 obtain ⟨g1,g2⟩:=go n 0 (by omega);by_cases ha: ∀i,i<n→lJ i
 ·rw[aB ha];exact g1 fun i _ h=>ha i h
 ·rw[aC ha];exact g2 fun hx=>ha fun i h=>hx i (by omega) h
end
noncomputable def aqd (C:af) (x:Int):Option LV:=
 some [V.int .i64 3,V.int .i64 x,.list cv ([]:LV)]
theorem aqe {x:Int} {r:Option LV} (h:aqd CC x=r):CC CR [V.int .i64 x]=r:=bC (L:=bB) au h
noncomputable def aqf (C:af) (op:Int) (kids:LV):Option LV:=
 some [V.int .i64 op,V.int .i64 0,.list cv kids]
theorem adT {op:Int} {kids:LV} {r:Option LV} (h:aqf CC op kids=r):CC Mh [V.int .i64 op,.list cv kids]=r:=bC (L:=bB) au h
noncomputable def Ah (C:af) (lz lA:Int) (aI aQ:LV) (bX cf:Int) (aW aU aF:LV) {β:Type} (kn:(Int×Int×LV×LV×LV)→Option β) (kr:((Int×Int×Int×LV×LV) ⊕ (Bool×Int×Int×LV×LV×LV))→Option β):Option β:=
 (C Sp [V.int .i64 bX,V.int .i64 cf,.list cv aW,.list ag aU,.list cF aF]).bind fun r4=>
 bif !((V.nth r4 0).toBool) then
  (C CS [V.int .i64 ((V.nth (r4.drop 1) 0).toInt),V.int .i64 ((V.nth ((r4.drop 1).drop 1) 0).toInt),.list cv ((V.nth (((r4.drop 1).drop 2).drop 1) 0).toList),.list ag ((V.nth ((((r4.drop 1).drop 2).drop 1).drop 1) 0).toList),.list cF ((V.nth ((r4.drop 1).drop 2) 0).toList)]).bind fun r5=>
  bif (((V.nth r5 0).toInt):Int) != 0 then
  kr (.inl ((V.nth r5 0).toInt,0,0,([]:LV),([]:LV)))
  else
  kn ((V.nth (r5.drop 1) 0).toInt,(V.nth ((r5.drop 1).drop 1) 0).toInt,(V.nth (((r5.drop 1).drop 2).drop 1) 0).toList,(V.nth ((((r5.drop 1).drop 2).drop 1).drop 1) 0).toList,(V.nth ((r5.drop 1).drop 2) 0).toList)
 else
  kr (.inr (!((V.nth r4 0).toBool),(V.nth (r4.drop 1) 0).toInt,(V.nth ((r4.drop 1).drop 1) 0).toInt,(V.nth (((r4.drop 1).drop 2).drop 1) 0).toList,(V.nth ((((r4.drop 1).drop 2).drop 1).drop 1) 0).toList,(V.nth ((r4.drop 1).drop 2) 0).toList))
noncomputable def wy (C:af) (lz lA:Int) (aI aQ:LV):=un fun bX=>un fun cf=>un fun aW=>un fun aU aF=>Ah C lz lA aI aQ bX cf aW aU aF (fun y=>some (Sum.inl y)) (fun r=>some (Sum.inr r))
noncomputable def aqg (C:af):cD:=bI 81 Tm [EQ,EQ,H1,H1,EQ,EQ,H1,H1,H1] [[0,0,0,0,0],[0,1,2,0,0,5,6,0,0,0]] (@Ah C) bB
theorem aqh (C:af):bD C (aqg C) 19 (Lp [1,1,1,0,0,0] 19):=bJ Tm [EQ,EQ,H1,H1,EQ,EQ,H1,H1,H1] [[0,0,0,0,0],[0,1,2,0,0,5,6,0,0,0]] (@Ah C) (bq au)
noncomputable def adU (C:af) (th ti:Int) (tj:LV) (aO:Int):Option LV:=
 (C Sm [V.int .i64 th,V.int .i64 ti,.list cv tj,V.int .i64 aO]).bind fun r1=>
 bif (((V.nth r1 0).toInt):Int) != 0 then
  some [V.int .i64 0,V.int .i64 0,V.int .i64 ((V.nth r1 0).toInt),.list ak ([]:LV),.list ag ([]:LV)]
 else
  (C So [V.int .i64 th,V.int .i64 ti,.list cv tj]).bind fun r2=>
  (C Sn [V.int .i64 ((V.nth r2 0).toInt),V.int .i64 ((V.nth (r2.drop 1) 0).toInt),.list cv ((V.nth ((r2.drop 1).drop 1) 0).toList),V.int .i64 aO]).bind fun r3=>
  (Loop (wy C 0 0 ([]:LV) ([]:LV)) ((V.nth r3 0).toInt,(V.nth (r3.drop 1) 0).toInt,(V.nth (r3.drop 2) 0).toList,(V.nth ((r3.drop 2).drop 1) 0).toList,(V.nth (((r3.drop 2).drop 1).drop 1) 0).toList)).bind (fg (un fun jz=>un fun UL=>un fun aqi=>un fun (zb:LV) (qR:LV)=>
   some [V.int .i64 UL,V.int .i64 aqi,V.int .i64 jz,.list ak zb,.list ag qR]) (un fun (y6:Bool)=>un fun UM=>un fun UN=>un fun (pE:LV)=>un fun (vz:LV) (y9:LV)=>
   (C Sq [V.int .i64 UM,V.int .i64 UN,.list cv pE,.list ag vz,.list cF y9]).bind fun Ce=>
   some [V.int .i64 ((V.nth Ce 0).toInt),V.int .i64 ((V.nth (Ce.drop 1) 0).toInt),V.int .i64 0,.list ak ((V.nth (((Ce.drop 2).drop 2).drop 1) 0).toList),.list ag ((V.nth ((((Ce.drop 2).drop 2).drop 1).drop 1) 0).toList)]))
theorem aqj {th ti:Int} {tj:LV} {aO:Int} {r:Option LV} (h:adU CC th ti tj aO=r):CC Mg [V.int .i64 th,V.int .i64 ti,.list cv tj,V.int .i64 aO]=r:=bC (bE (aqh CC) au) h
noncomputable def aqk (C:af) (bX cf:Int) (ba aI aQ:LV):Option LV:=
 some [.bool (cf==(ba.length:Int)),V.int .i64 bX,V.int .i64 cf,.list cF aQ,.list cv ba,.list ag aI]
theorem Nl {bX cf:Int} {ba aI aQ:LV} {r:Option LV} (h:aqk CC bX cf ba aI aQ=r):CC Sp [V.int .i64 bX,V.int .i64 cf,.list cv ba,.list ag aI,.list cF aQ]=r:=bC (L:=bB) au h
noncomputable def wz (C:af) (t16 t17 bX cf:Int) (aQ rows aU aF:LV) {β:Type} (kn:(Int×Int×Int×LV×LV×LV×LV)→Option β) (kr:((Int×Int×Int×LV×LV×LV) ⊕ (Int×Bool×Int×Int×LV×LV×LV×LV))→Option β):Option β:=
 bif decide (t17<t16) then
  aM aU cf fun x1=>
  (C xR [V.int .i64 ((x1.cell 0).toInt),V.int .i64 ((x1.cell 1).toInt),.list cv ((x1.cell 2).toList),V.int .i64 t17]).bind fun r2=>
  bif (((V.nth (r2.drop 3) 0).toInt):Int) != 0 then
  kr (.inl ((V.nth (r2.drop 3) 0).toInt,bX,cf,aQ,aU,aF))
  else
  (C xS [V.int .i64 ((V.nth r2 0).toInt),V.int .i64 ((V.nth (r2.drop 1) 0).toInt),.list cv ((V.nth ((r2.drop 1).drop 1) 0).toList)]).bind fun r3=>
  bif Nat.ble (((V.nth r3 0).toStr).length) maxLen&&true then
   bif !(fZ (.str ((V.nth r3 0).toStr)) aQ) then
   bif (aU.length:Int)==512 then
    kr (.inl (3,bX,cf,aQ,aU,aF))
   else
    (C Mm [V.int .i64 ((V.nth r2 0).toInt),V.int .i64 ((V.nth (r2.drop 1) 0).toInt),.list cv ((V.nth ((r2.drop 1).drop 1) 0).toList),V.int .i64 bX,V.int .i64 cf,.list cv aU,.list ag aF,.list cF aQ]).bind fun r4=>
    aM rows t17 fun x5=>
    kn (wrap .i64 (t17+1),(V.nth (r4.drop 1) 0).toInt,(V.nth ((r4.drop 1).drop 1) 0).toInt,(V.nth ((r4.drop 1).drop 2) 0).toList,bn rows t17 (V.int .i64 ((V.nth r4 0).toInt)),(V.nth (((r4.drop 1).drop 2).drop 1) 0).toList,(V.nth ((((r4.drop 1).drop 2).drop 1).drop 1) 0).toList)
   else
   aM rows t17 fun x6=>
   kn (wrap .i64 (t17+1),bX,cf,aQ,bn rows t17 (V.int .i64 ((jO (.str ((V.nth r3 0).toStr)) aQ (V.int .i64 0)).toInt)),aU,aF)
  else none
 else
  kr (.inr (t17,decide (t17<t16),bX,cf,aQ,rows,aU,aF))
noncomputable def qS (C:af) (t16:Int):=un fun t17=>un fun bX=>un fun cf=>un fun aQ=>un fun rows=>un fun aU aF=>wz C t16 t17 bX cf aQ rows aU aF (fun y=>some (Sum.inl y)) (fun r=>some (Sum.inr r))
noncomputable def aql (C:af):cD:=bI 49 TA [EQ,H1,H1,H1,H1,H1,H1,H1] [[0,0,0,0,0,0],[1,0,0,0,0,0,0,0,0]] (@wz C) bB
theorem aqm (C:af):bD C (aql C) 41 (Lp [1,1,0,1,0,0] 41):=bJ TA [EQ,H1,H1,H1,H1,H1,H1,H1] [[0,0,0,0,0,0],[1,0,0,0,0,0,0,0,0]] (@wz C) (bq au)
noncomputable def Nm (C:af) (bX cf:Int) (ba aI aQ:LV):Option LV:=
 bif (decide (0≤bX))&&((decide (bX≤bX))&&(Nat.ble ((bX.toNat)*8) aX)) then
  (Loop (qS C ((List.replicate (bX.toNat) (V.int .i64 0)).length:Int)) (0,bX,cf,aQ,List.replicate (bX.toNat) (V.int .i64 0),ba,aI)).bind (fg (un fun mL=>un fun B5=>un fun zb=>un fun (qR:LV)=>un fun (Ai:LV) (UO:LV)=>
   some [V.int .i64 mL,V.int .i64 B5,V.int .i64 zb,.list cF qR,.list cv Ai,.list ag UO]) (un fun B6=>un fun (vB:Bool)=>un fun Hc=>un fun Hd=>un fun (pY:LV)=>un fun (adV:LV)=>un fun (qw:LV) (pG:LV)=>
   bif Nat.ble ((pG.length+([.list ab adV]:LV).length)*24) aX then
   some [V.int .i64 0,V.int .i64 Hc,V.int .i64 (wrap .i64 (Hd+1)),.list cF pY,.list cv qw,.list ag (pG++([.list ab adV]:LV))]
   else none))
 else none
theorem UP {bX cf:Int} {ba aI aQ:LV} {r:Option LV} (h:Nm CC bX cf ba aI aQ=r):CC CS [V.int .i64 bX,V.int .i64 cf,.list cv ba,.list ag aI,.list cF aQ]=r:=bC (bE (aqm CC) au) h
noncomputable def adW (C:af):Option LV:=
 (C CR [V.int .i64 0]).bind fun r1=>
 (C CR [V.int .i64 1]).bind fun r2=>
 (C Mh [V.int .i64 5,.list cv ([.agg [V.int .i64 ((V.nth r1 0).toInt),V.int .i64 ((V.nth (r1.drop 1) 0).toInt),.list cv ((V.nth (r1.drop 2) 0).toList)],.agg [V.int .i64 ((V.nth r2 0).toInt),V.int .i64 ((V.nth (r2.drop 1) 0).toInt),.list cv ((V.nth (r2.drop 2) 0).toList)]]:LV)]).bind fun r3=>
 (C Mh [V.int .i64 7,.list cv ([.agg [V.int .i64 ((V.nth r3 0).toInt),V.int .i64 ((V.nth (r3.drop 1) 0).toInt),.list cv ((V.nth ((r3.drop 1).drop 1) 0).toList)]]:LV)]).bind fun r4=>
 (C Mg [V.int .i64 ((V.nth r4 0).toInt),V.int .i64 ((V.nth (r4.drop 1) 0).toInt),.list cv ((V.nth ((r4.drop 1).drop 1) 0).toList),V.int .i64 2]).bind fun r5=>
 bif (((V.nth (r5.drop 2) 0).toInt):Int)==0 then
  (C uB [V.int .i64 ((V.nth r5 0).toInt),V.int .i64 ((V.nth (r5.drop 1) 0).toInt),.list ak ((V.nth (r5.drop 3) 0).toList),.list ag ((V.nth ((r5.drop 3).drop 1) 0).toList)]).bind fun r6=>
  bif ((((V.nth (r6.drop 2) 0).toList).length:Int):Int)==3 then
  (C CR [V.int .i64 0]).bind fun r7=>
  (C Sl [V.int .i64 ((V.nth r7 0).toInt),V.int .i64 ((V.nth (r7.drop 1) 0).toInt),.list cv ((V.nth (r7.drop 2) 0).toList),.str [97]]).bind fun r8=>
  some [.bool ((V.nth r8 0).toBool)]
  else
  some [.bool false]
 else
  some [.bool false]
theorem aqn {r:Option LV} (h:adW CC=r):CC zg []=r:=bC (L:=bB) au h
def kA:V:= .list cv [.agg [.int .i64 5,.int .i64 0,.list cv [.agg [.int .i64 3,.int .i64 0,.list cv []],.agg [.int .i64 3,.int .i64 1,.list cv []]]]]
def kB:V:= .list cv [.agg [.int .i64 3,.int .i64 1,.list cv []],.agg [.int .i64 7,.int .i64 0,kA]]
def kE:LV:=[.agg [.int .i64 7,.int .i64 0,kA],.agg [.int .i64 5,.int .i64 0,kB],.agg [.int .i64 1,.int .i64 0,.list cv []]]
def kM:LV:=[.bd [.str [40,97,98,41,42],.int .i64 0],.bd [.str [98,40,97,98,41,42],.int .i64 1],.bd [.str [48],.int .i64 2]]
def kF:V:= .list ak [.bool true,.bool false,.bool false]
def kN:V:= .list ag [.list ab [.int .i64 1,.int .i64 2],.list ab [.int .i64 2,.int .i64 0],.list ab [.int .i64 2,.int .i64 2]]
theorem aqo:CC Sm [.int .i64 7,.int .i64 0,kA,.int .i64 2]=some [.int .i64 0]:=aG (N:=60) (n:=30) (by kernel_rfl)
theorem aqp:CC So [.int .i64 7,.int .i64 0,kA]=some [.int .i64 7,.int .i64 0,kA]:=aG (N:=60) (n:=30) (by kernel_rfl)
theorem aqq:CC Sn [.int .i64 7,.int .i64 0,kA,.int .i64 2]=some [.int .i64 2,.int .i64 0,.list cv [.agg [.int .i64 7,.int .i64 0,kA]],.list ag [],.list cF [.bd [.str [40,97,98,41,42],.int .i64 0]]]:=aG (N:=60) (n:=30) (by kernel_rfl)
theorem aqr:CC xR [.int .i64 7,.int .i64 0,kA,.int .i64 0]=some [.int .i64 5,.int .i64 0,kB,.int .i64 0]:=aG (N:=60) (n:=30) (by kernel_rfl)
theorem aqs:CC xS [.int .i64 5,.int .i64 0,kB]=some [.str [98,40,97,98,41,42]]:=aG (N:=60) (n:=30) (by kernel_rfl)
theorem aqt:CC Mm [.int .i64 5,.int .i64 0,kB,.int .i64 2,.int .i64 0,.list cv [.agg [.int .i64 7,.int .i64 0,kA]],.list ag [],.list cF [.bd [.str [40,97,98,41,42],.int .i64 0]]]=some [.int .i64 1,.int .i64 2,.int .i64 0,.list cF [.bd [.str [40,97,98,41,42],.int .i64 0],.bd [.str [98,40,97,98,41,42],.int .i64 1]],.list cv [.agg [.int .i64 7,.int .i64 0,kA],.agg [.int .i64 5,.int .i64 0,kB]],.list ag []]:=aG (N:=60) (n:=30) (by kernel_rfl)
theorem aqu:CC xR [.int .i64 7,.int .i64 0,kA,.int .i64 1]=some [.int .i64 1,.int .i64 0,.list cv [],.int .i64 0]:=aG (N:=60) (n:=30) (by kernel_rfl)
theorem aqv:CC xS [.int .i64 1,.int .i64 0,.list cv []]=some [.str [48]]:=aG (N:=60) (n:=30) (by kernel_rfl)
theorem aqw:CC Mm [.int .i64 1,.int .i64 0,.list cv [],.int .i64 2,.int .i64 0,.list cv [.agg [.int .i64 7,.int .i64 0,kA],.agg [.int .i64 5,.int .i64 0,kB]],.list ag [],.list cF [.bd [.str [40,97,98,41,42],.int .i64 0],.bd [.str [98,40,97,98,41,42],.int .i64 1]]]=some [.int .i64 2,.int .i64 2,.int .i64 0,.list cF kM,.list cv kE,.list ag []]:=aG (N:=60) (n:=30) (by kernel_rfl)
theorem aqx:CC CS [.int .i64 2,.int .i64 0,.list cv [.agg [.int .i64 7,.int .i64 0,kA]],.list ag [],.list cF [.bd [.str [40,97,98,41,42],.int .i64 0]]]=some [.int .i64 0,.int .i64 2,.int .i64 1,.list cF kM,.list cv kE,.list ag [.list ab [.int .i64 1,.int .i64 2]]]:=by
 have h1:qS CC 2 (0,2,0,[.bd [.str [40,97,98,41,42],.int .i64 0]],[.int .i64 0,.int .i64 0],[.agg [.int .i64 7,.int .i64 0,kA]],[])=some (.inl (1,2,0,[.bd [.str [40,97,98,41,42],.int .i64 0],.bd [.str [98,40,97,98,41,42],.int .i64 1]],[.int .i64 1,.int .i64 0],[.agg [.int .i64 7,.int .i64 0,kA],.agg [.int .i64 5,.int .i64 0,kB]],[])):=by simp only[qS,wz,un,aM];exact bT rfl (bT rfl (bs rfl (bs aqr (bF rfl (bs aqs (bT rfl (bT rfl (bF rfl (bs aqt (bT rfl (bs rfl rfl)))))))))))
 have h2:qS CC 2 (1,2,0,[.bd [.str [40,97,98,41,42],.int .i64 0],.bd [.str [98,40,97,98,41,42],.int .i64 1]],[.int .i64 1,.int .i64 0],[.agg [.int .i64 7,.int .i64 0,kA],.agg [.int .i64 5,.int .i64 0,kB]],[])=some (.inl (2,2,0,kM,[.int .i64 1,.int .i64 2],kE,[])):=by simp only[qS,wz,un,aM];exact bT rfl (bT rfl (bs rfl (bs aqu (bF rfl (bs aqv (bT rfl (bT rfl (bF rfl (bs aqw (bT rfl (bs rfl rfl)))))))))))
 refine UP ?_;unfold Nm;exact bT rfl (bs ((iS h1).trans ((iS h2).trans (jY rfl))) rfl)
theorem aqy:CC xR [.int .i64 5,.int .i64 0,kB,.int .i64 0]=some [.int .i64 1,.int .i64 0,.list cv [],.int .i64 0]:=aG (N:=60) (n:=30) (by kernel_rfl)
theorem aqz:CC xS [.int .i64 1,.int .i64 0,.list cv []]=some [.str [48]]:=aG (N:=60) (n:=30) (by kernel_rfl)
theorem aqA:CC xR [.int .i64 5,.int .i64 0,kB,.int .i64 1]=some [.int .i64 7,.int .i64 0,kA,.int .i64 0]:=aG (N:=60) (n:=30) (by kernel_rfl)
theorem aqB:CC xS [.int .i64 7,.int .i64 0,kA]=some [.str [40,97,98,41,42]]:=aG (N:=60) (n:=30) (by kernel_rfl)
theorem aqC:CC CS [.int .i64 2,.int .i64 1,.list cv kE,.list ag [.list ab [.int .i64 1,.int .i64 2]],.list cF kM]=some [.int .i64 0,.int .i64 2,.int .i64 2,.list cF kM,.list cv kE,.list ag [.list ab [.int .i64 1,.int .i64 2],.list ab [.int .i64 2,.int .i64 0]]]:=by
 have h1:qS CC 2 (0,2,1,kM,[.int .i64 0,.int .i64 0],kE,[.list ab [.int .i64 1,.int .i64 2]])=some (.inl (1,2,1,kM,[.int .i64 2,.int .i64 0],kE,[.list ab [.int .i64 1,.int .i64 2]])):=by simp only[qS,wz,un,aM];exact bT rfl (bT rfl (bs rfl (bs aqy (bF rfl (bs aqz (bT rfl (bF rfl (bT rfl (bs rfl rfl)))))))))
 have h2:qS CC 2 (1,2,1,kM,[.int .i64 2,.int .i64 0],kE,[.list ab [.int .i64 1,.int .i64 2]])=some (.inl (2,2,1,kM,[.int .i64 2,.int .i64 0],kE,[.list ab [.int .i64 1,.int .i64 2]])):=by simp only[qS,wz,un,aM];exact bT rfl (bT rfl (bs rfl (bs aqA (bF rfl (bs aqB (bT rfl (bF rfl (bT rfl (bs rfl rfl)))))))))
 refine UP ?_;unfold Nm;exact bT rfl (bs ((iS h1).trans ((iS h2).trans (jY rfl))) rfl)
theorem aqD:CC xR [.int .i64 1,.int .i64 0,.list cv [],.int .i64 0]=some [.int .i64 1,.int .i64 0,.list cv [],.int .i64 0]:=aG (N:=60) (n:=30) (by kernel_rfl)
theorem aqE:CC xS [.int .i64 1,.int .i64 0,.list cv []]=some [.str [48]]:=aG (N:=60) (n:=30) (by kernel_rfl)
theorem aqF:CC xR [.int .i64 1,.int .i64 0,.list cv [],.int .i64 1]=some [.int .i64 1,.int .i64 0,.list cv [],.int .i64 0]:=aG (N:=60) (n:=30) (by kernel_rfl)
theorem aqG:CC xS [.int .i64 1,.int .i64 0,.list cv []]=some [.str [48]]:=aG (N:=60) (n:=30) (by kernel_rfl)
theorem aqH:CC CS [.int .i64 2,.int .i64 2,.list cv kE,.list ag [.list ab [.int .i64 1,.int .i64 2],.list ab [.int .i64 2,.int .i64 0]],.list cF kM]=some [.int .i64 0,.int .i64 2,.int .i64 3,.list cF kM,.list cv kE,kN]:=by
 have h1:qS CC 2 (0,2,2,kM,[.int .i64 0,.int .i64 0],kE,[.list ab [.int .i64 1,.int .i64 2],.list ab [.int .i64 2,.int .i64 0]])=some (.inl (1,2,2,kM,[.int .i64 2,.int .i64 0],kE,[.list ab [.int .i64 1,.int .i64 2],.list ab [.int .i64 2,.int .i64 0]])):=by simp only[qS,wz,un,aM];exact bT rfl (bT rfl (bs rfl (bs aqD (bF rfl (bs aqE (bT rfl (bF rfl (bT rfl (bs rfl rfl)))))))))
 have h2:qS CC 2 (1,2,2,kM,[.int .i64 2,.int .i64 0],kE,[.list ab [.int .i64 1,.int .i64 2],.list ab [.int .i64 2,.int .i64 0]])=some (.inl (2,2,2,kM,[.int .i64 2,.int .i64 2],kE,[.list ab [.int .i64 1,.int .i64 2],.list ab [.int .i64 2,.int .i64 0]])):=by simp only[qS,wz,un,aM];exact bT rfl (bT rfl (bs rfl (bs aqF (bF rfl (bs aqG (bT rfl (bF rfl (bT rfl (bs rfl rfl)))))))))
 refine UP ?_;unfold Nm;exact bT rfl (bs ((iS h1).trans ((iS h2).trans (jY rfl))) rfl)
theorem aqI:CC Sq [.int .i64 2,.int .i64 3,.list cv kE,kN,.list cF kM]=some [.int .i64 2,.int .i64 0,.int .i64 2,.int .i64 3,.list cF kM,kF,kN,.list cv kE]:=aG (N:=60) (n:=30) (by kernel_rfl)
theorem aqJ:CC Mg [.int .i64 7,.int .i64 0,kA,.int .i64 2]=some [.int .i64 2,.int .i64 0,.int .i64 0,kF,kN]:=by
 have b1:wy CC 0 0 [] [] (2,0,[.agg [.int .i64 7,.int .i64 0,kA]],[],[.bd [.str [40,97,98,41,42],.int .i64 0]])=some (.inl (2,1,kE,[.list ab [.int .i64 1,.int .i64 2]],kM)):=by simp only[wy,Ah,un];exact bs (Nl rfl) (bT rfl (bs aqx (bF rfl rfl)))
 have b2:wy CC 0 0 [] [] (2,1,kE,[.list ab [.int .i64 1,.int .i64 2]],kM)=some (.inl (2,2,kE,[.list ab [.int .i64 1,.int .i64 2],.list ab [.int .i64 2,.int .i64 0]],kM)):=by simp only[wy,Ah,un];exact bs (Nl rfl) (bT rfl (bs aqC (bF rfl rfl)))
 have b3:wy CC 0 0 [] [] (2,2,kE,[.list ab [.int .i64 1,.int .i64 2],.list ab [.int .i64 2,.int .i64 0]],kM)=some (.inl (2,3,kE,[.list ab [.int .i64 1,.int .i64 2],.list ab [.int .i64 2,.int .i64 0],.list ab [.int .i64 2,.int .i64 2]],kM)):=by simp only[wy,Ah,un];exact bs (Nl rfl) (bT rfl (bs aqH (bF rfl rfl)))
 have b4:wy CC 0 0 [] [] (2,3,kE,[.list ab [.int .i64 1,.int .i64 2],.list ab [.int .i64 2,.int .i64 0],.list ab [.int .i64 2,.int .i64 2]],kM)=some (.inr (.inr (false,2,3,kE,[.list ab [.int .i64 1,.int .i64 2],.list ab [.int .i64 2,.int .i64 0],.list ab [.int .i64 2,.int .i64 2]],kM))):=by simp only[wy,Ah,un];exact bs (Nl rfl) (bF rfl rfl)
 refine aqj ?_;unfold adU;refine bs aqo (bF rfl (bs aqp (bs aqq (bs ((iS b1).trans ((iS b2).trans ((iS b3).trans (jY b4)))) ?_))));exact bs aqI rfl
theorem aqK:CC uB [.int .i64 2,.int .i64 0,kF,kN]=some [.int .i64 2,.int .i64 0,kF,kN]:=aG (N:=60) (n:=30) (by kernel_rfl)
theorem aqL:CC Sl [.int .i64 3,.int .i64 0,.list cv [],.str [97]]=some [.bool true]:=aG (N:=60) (n:=30) (by kernel_rfl)
theorem Yo:CC zg []=some [.bool true]:=by
 have hl: ∀x,CC CR [.int .i64 x]=some [.int .i64 3,.int .i64 x,.list cv []]:=fun x=>aqe rfl;refine aqn ?_;unfold adW;refine bs (hl 0) (bs (hl 1) (bs (adT rfl) (bs (adT rfl) (bs aqJ (bT rfl (bs aqK (bT rfl (bs (hl 0) (bs aqL rfl)))))))))
end Go.AM
set_option maxRecDepth 100000
namespace Go.AM
open Go.IntKind (wrap)
theorem cP {α:Type} {l:List α} {i:Nat} {d:α} (h:i<l.length):l.getD i d=l[i]:=by simp[h]
structure Da where
 L:Nat
 st:Nat
 F:List Bool
 N:List (List Nat)
deriving DecidableEq
namespace Da
def n (d:Da):Nat:=d.F.length
def nx (d:Da) (q x:Nat):Nat:=(d.N.getD q []).getD x 0
def fin (d:Da) (q:Nat):Bool:=d.F.getD q false
def run (d:Da) (q:Nat) (w:List Nat):Nat:=w.foldl d.nx q
def acc (d:Da) (q:Nat) (w:List Nat):Bool:=d.fin (d.run q w)
structure Ok (d:Da):Prop where
 l1:1≤d.L
 l6:d.L≤6
 nN:d.N.length=d.n
 row: ∀r∈d.N,r.length=d.L∧∀q∈r,q<d.n
 s:d.st<d.n
 dH:d.n≤512
end Da
def WL (L:Nat) (w:List Nat):Prop:= ∀x∈w,x<L
theorem WL.nil {L:Nat}:WL L []:=fun _ h=>by cases h
theorem WL.cons {L x:Nat} {w:List Nat} (h:x<L) (hw:WL L w):WL L (x::w):=fun y hy=>by
 rcases fY.1 hy with rfl|hy
 ·exact h
 ·exact hw y hy
theorem WL.head {L x:Nat} {w:List Nat} (h:WL L (x::w)):x<L:=h x (by simp)
theorem WL.tail {L x:Nat} {w:List Nat} (h:WL L (x::w)):WL L w:=fun y hy=>h y (by simp[hy])
theorem WL.app {L:Nat} {v w:List Nat}:WL L (v++w)↔WL L v∧WL L w:=by
 unfold WL;simp only[eD];exact ⟨fun h=>⟨fun x hx=>h x (.inl hx),fun x hx=>h x (.inr hx)⟩,fun h x hx=>hx.elim (h.1 x) (h.2 x)⟩
namespace Da
def rW (d:Da) (q:Nat) (d':Da) (q':Nat):Prop:= ∀w,WL d.L w→d.acc q w=d'.acc q' w
theorem Ok.kR {d:Da} (h:d.Ok) {q x:Nat} (hq:q<d.n) (hx:x<d.L):d.nx q x<d.n:=by
 have dB:q<d.N.length:=by rw[h.nN];exact hq
 have hr:=h.row d.N[q] (dr dB);unfold nx;rw[cP dB,cP (by omega)];exact hr.2 _ (dr _)
theorem Ok.Qy {d:Da} (h:d.Ok): ∀(w:List Nat) {q:Nat},q<d.n→WL d.L w→d.run q w<d.n
 | [],q,hq,_=>hq
 | x::w,q,hq,hw=>h.Qy w (h.kR hq hw.head) hw.tail
theorem adX {d:Da} {q x:Nat} {w:List Nat}:d.run q (x::w)=d.run (d.nx q x) w:=rfl
theorem Nn {d:Da} {q x:Nat} {w:List Nat}:d.acc q (x::w)=d.acc (d.nx q x) w:=rfl
theorem Yl {d:Da} {q:Nat} {v w:List Nat}:d.run q (v++w)=d.run (d.run q v) w:=Ef
theorem KT {d:Da} {q:Nat} {v w:List Nat}:d.acc q (v++w)=d.acc (d.run q v) w:=by unfold acc;rw[Yl]
theorem uI {d:Da} {q:Nat}:d.acc q []=d.fin q:=rfl
theorem rW.nx {d d':Da} {q q' x:Nat} (h:d.rW q d' q') (hx:x<d.L):d.rW (d.nx q x) d' (d'.nx q' x):=fun w hw=>h (x::w) (hw.cons hx)
def pos (d:Da) (t:Nat):Nat:=d.nx (t/d.L) (t %d.L)
def mt (d:Da):Nat→Nat
 | 0=>1
 | t+1=>if d.pos t=d.mt t then d.mt t+1 else d.mt t
structure KQ (d:Da):Prop where
 le: ∀t,t<d.n*d.L→d.pos t≤d.mt t
 row: ∀q,q<d.n→q<d.mt (q*d.L)
 all:d.mt (d.n*d.L)=d.n
structure Canon (d:Da) (L:Nat) (K:List Nat→Bool):Prop where
 ok:d.Ok
 hL:d.L=L
 st:d.st=0
 num:d.KQ
 red: ∀p q,p<d.n→q<d.n→d.rW p d q→p=q
 Dv: ∀w,WL L w→d.acc 0 w=K w
theorem KR (d:Da): ∀{s t:Nat},s≤t→d.mt s≤d.mt t:=by
 intro s t h
 induction t with
 | zero=>rw[wU.1 h];exact aw _
 | succ t ih=>
  rcases jq s (t+1) with h1|h1
  ·have:=ih (by omega);have e:d.mt (t+1)=if d.pos t=d.mt t then d.mt t+1 else d.mt t:=rfl
   rw[e];split<;>omega
  ·rw[show s=t+1 by omega];exact aw _
theorem UQ {d d':Da} {K:List Nat→Bool} {L:Nat} (h:d.Canon L K) (h':d'.Canon L K): ∀t,t≤d.n*L→t≤d'.n*L→d.mt t=d'.mt t∧(∀s,s<t→d.pos s=d'.pos s)∧∀q,q<d.mt t→d.rW q d' q:=by
 intro t;have e:=h.hL;have e':=h'.hL;have hl:=h.ok.l1
 induction t with
 | zero=>
  intro _ _;refine ⟨rfl,fun s hs=>by omega,fun q hq=> ?_⟩;obtain rfl:q=0:=by have:q<1:=hq;omega
  intro w hw;rw[h.Dv w (e▸hw),h'.Dv w (e▸hw)]
 | succ t ih=>
  intro h1 h2;obtain ⟨i1,i2,i3⟩:=ih (by omega) (by omega);have hm:d.mt t≤d.n:=by rw[←h.num.all];exact d.KR (by rw[e];omega)
  have Ka:d'.mt t≤d'.n:=by rw[←h'.num.all];exact d'.KR (by rw[e'];omega)
  have hq:t/L<d.n:=by rw[Jr (by omega)];omega
  have dB:t/L<d'.n:=by rw[Jr (by omega)];omega
  have hx:t %L<L:=yx _ (by omega);have hqm:t/L<d.mt t:=by
   have a:=h.num.row _ hq;rw[e] at a;have b:d.mt (t/L*L)≤d.mt t:=d.KR (Nat.div_mul_le_self t L);omega
  have hE:=(i3 _ hqm).nx (by rw[e];exact hx);have p1:d.pos t=d.nx (t/L) (t %L):=by unfold pos;rw[e]
  have p2:d'.pos t=d'.nx (t/L) (t %L):=by unfold pos;rw[e']
  rw[←p1,←p2] at hE;have l1:=h.num.le t (by rw[e];omega);have l2:=h'.num.le t (by rw[e'];omega);have b1:d.pos t<d.n:=by rw[p1];exact h.ok.kR hq (by rw[e];exact hx)
  have b2:d'.pos t<d'.n:=by rw[p2];exact h'.ok.kR dB (by rw[e'];exact hx)
  have key:d.pos t=d'.pos t:=by
   rcases jq (d.pos t) (d.mt t) with c|c
   ·have hA:=i3 _ c;refine h'.red _ _ (by omega) b2 fun w hw=> ?_;have He:WL d.L w:=by rw[e,←e'];exact hw
    rw[←hA w He,hE w He]
   ·rcases jq (d'.pos t) (d.mt t) with c'|c'
    ·have hA:=i3 _ c';refine h.red _ _ b1 (by omega) fun w hw=> ?_;rw[hE w hw,hA w hw]
    ·omega
  refine ⟨?_,?_,?_⟩
  ·unfold mt;rw[key,i1]
  ·intro s hs;rcases jq s t with c|c
   ·exact i2 s c
   ·rw[show s=t by omega];exact key
  ·intro q vL;rcases jq q (d.mt t) with c|c
   ·exact i3 q c
   ·have:d.pos t=d.mt t∧q=d.mt t:=by
     unfold mt at vL;split at vL
     ·rename_i h3;exact ⟨h3,by omega⟩
     ·omega
    rw[←key,this.1,←this.2] at hE;exact hE
theorem aqM {a b:List Nat} (hl:a.length=b.length) (h: ∀x,x<a.length→a.getD x 0=b.getD x 0):a=b:=by
 refine uZ hl fun x h1 h2=> ?_;have:=h x h1;rwa [cP h1,cP h2] at this
theorem UR {d:Da} (h:d.Ok) {q:Nat} (hq:q<d.n):(d.N.getD q []).length=d.L:=by
 have dB:q<d.N.length:=by rw[h.nN];exact hq
 rw[cP dB];exact (h.row _ (dr dB)).1
theorem Canon.eq {d d':Da} {K:List Nat→Bool} {L:Nat} (h:d.Canon L K) (h':d'.Canon L K):d=d':=by
 have e:=h.hL;have e':=h'.hL;have hl:=h.ok.l1;rw[e] at hl;have hn:d.n=d'.n:=by
  rcases Nat.lt_trichotomy d.n d'.n with c|c|c
  ·obtain ⟨s1,_,_⟩:=UQ h h' (d.n*L) (aw _) (fa _ (by omega));have a:=h.num.all;have b:=h'.num.row d.n c;rw[e] at a;rw[e'] at b;omega
  ·exact c
  ·obtain ⟨s1,_,_⟩:=UQ h h' (d'.n*L) (fa _ (by omega)) (aw _);have a:=h'.num.all;have b:=h.num.row d'.n c;rw[e'] at a;rw[e] at b;omega
 obtain ⟨s1,s2,s3⟩:=UQ h h' (d.n*L) (aw _) (by rw[hn];exact aw _);have a:=h.num.all;rw[e] at a;have hE: ∀q,q<d.n→d.rW q d' q:=fun q hq=>s3 q (by omega);have hP: ∀q x,q<d.n→x<L→d.nx q x=d'.nx q x:=fun q x hq hx=>by
  have:=s2 (q*L+x) (by
   have:(q+1)*L≤d.n*L:=fa _ (by omega);rw[kZ] at this;omega)
  unfold pos at this;rw[e,e'] at this;rwa [show (q*L+x)/L=q by rw[yz,Nat.mul_add_div (by omega),Nat.div_eq_of_lt hx];rfl,show (q*L+x) %L=x by rw[yz,Nat.mul_add_mod,Nat.mod_eq_of_lt hx]] at this
 have hF:d.F=d'.F:=by
  refine uZ hn fun q h1 h2=> ?_;have:=hE q h1 [] WL.nil;rw[uI,uI] at this;unfold fin at this;rwa [cP h1,cP h2] at this
 have hN:d.N=d'.N:=by
  refine uZ (by rw[h.ok.nN,h'.ok.nN,hn]) fun q h1 h2=> ?_;have hq:q<d.n:=by rw[←h.ok.nN];exact h1
  have r1:=UR h.ok hq;have r2:=UR h'.ok (show q<d'.n by omega);have hx:=fun x hx=>hP q x hq hx;unfold nx at hx;rw[cP h1] at r1 hx;rw[cP h2] at r2 hx;exact aqM (by omega) fun x h3=>hx x (by omega)
 obtain ⟨L1,s1,F1,N1⟩:=d;obtain ⟨L2,s2,F2,N2⟩:=d';have q1:=h.st;have q2:=h'.st;simp only at*
 subst hF hN e e' q1 q2;rfl
end Da
section
variable {α:Type} [DecidableEq α]
def cJ (S:List α) (a:α):List α:=if a∈S then S else S++[a]
def b9 (next:α→Nat→α) (S:List α) (a:α):Nat→List α
 | 0=>S
 | x+1=>cJ (b9 next S a x) (next a x)
def aA (L:Nat) (next:α→Nat→α) (a0:α):Nat→List α
 | 0=>[a0]
 | i+1=>match (aA L next a0 i)[i]? with
  | some a=>b9 next (aA L next a0 i) a L
  | none=>aA L next a0 i
theorem Aj (S:List α) (a:α):S <+: cJ S a:=by
 unfold cJ;split
 ·exact si _
 ·exact List.prefix_append _ _
theorem Ak {S:List α} {a:α}:a∈cJ S a:=by
 unfold cJ;split
 ·assumption
 ·simp
theorem US {S:List α} {a:α} (h:S.Nodup):(cJ S a).Nodup:=by
 unfold cJ;split
 ·exact h
 ·rename_i h2;refine Ee.2 ⟨h,by simp,fun x hx y hy e=> ?_⟩;rw[fx.1 hy] at e;exact h2 (e▸hx)
theorem Dw {S:List α} {a:α}:(cJ S a).length=if a∈S then S.length else S.length+1:=by
 unfold cJ;split<;>simp
variable {L:Nat} {next:α→Nat→α} {a0:α}
theorem No (S:List α) (a:α): ∀x,S <+: b9 next S a x
 | 0=>si _
 | x+1=>(No S a x).trans (Aj _ _)
theorem Al (S:List α) (a:α) {x y:Nat} (h:x≤y):b9 next S a x <+: b9 next S a y:=by
 induction y with
 | zero=>rw[wU.1 h];exact si _
 | succ y ih=>
  rcases jq x (y+1) with c|c
  ·exact (ih (by omega)).trans (Aj _ _)
  ·rw[show x=y+1 by omega];exact si _
theorem adY {S:List α} {a:α} (h:S.Nodup): ∀x,(b9 next S a x).Nodup
 | 0=>h
 | x+1=>US (adY h x)
theorem adZ {S:List α} {a:α} {x y:Nat} (h:x<y):next a x∈b9 next S a y:=
 (Al S a (show x+1≤y by omega)).subset Ak
theorem ad0 {i:Nat} {a:α} (h:(aA L next a0 i)[i]? =some a):aA L next a0 (i+1)=b9 next (aA L next a0 i) a L:=by
 rw[aA,h]
theorem aqN {i:Nat} (h:(aA L next a0 i).length≤i):aA L next a0 (i+1)=aA L next a0 i:=by
 rw[aA,List.getElem?_eq_none h]
theorem aqO (i:Nat):aA L next a0 i <+: aA L next a0 (i+1):=by
 rw[aA];split
 ·exact No _ _ _
 ·exact si _
theorem rX {i j:Nat} (h:i≤j):aA L next a0 i <+: aA L next a0 j:=by
 induction j with
 | zero=>rw[wU.1 h];exact si _
 | succ j ih=>
  rcases jq i (j+1) with c|c
  ·exact (ih (by omega)).trans (aqO j)
  ·rw[show i=j+1 by omega];exact si _
theorem Dx: ∀i,(aA L next a0 i).Nodup
 | 0=>by simp[aA]
 | i+1=>by
  rw[aA];split
  ·exact adY (Dx i) _
  ·exact Dx i
theorem UT {i j:Nat} (h:(aA L next a0 i).length≤i) (hj:i≤j):aA L next a0 j=aA L next a0 i:=by
 induction j with
 | zero=>rw[wU.1 hj]
 | succ j ih=>
  rcases jq i (j+1) with c|c
  ·rw[aqN (by rw[ih (by omega)];omega),ih (by omega)]
  ·rw[show i=j+1 by omega]
theorem ad1 (i:Nat):(aA L next a0 i)[0]? =some a0:=by
 have h:=rX (L:=L) (next:=next) (a0:=a0) (nf i);have h0:0<(aA L next a0 0).length:=by simp[aA]
 rw[bU (oF h0 h.length_le),←h.getElem h0];rfl
theorem Hf (i:Nat):0<(aA L next a0 i).length:=oF (by simp[aA]) (rX (L:=L) (next:=next) (a0:=a0) (nf i)).length_le
theorem Hg: ∀i,∀a∈aA L next a0 i,∃w,WL L w∧a=w.foldl next a0
 | 0,a,h=>⟨[],WL.nil,by simpa[aA] using h⟩
 | i+1,a,h=>by
  rw[aA] at h;split at h
  ·rename_i b hb;have av:b∈aA L next a0 i:=my hb
   obtain ⟨w,hw,rfl⟩:=Hg i b av;have: ∀x,x≤L→∀a∈b9 next (aA L next a0 i) (w.foldl next a0) x,∃w,WL L w∧a=w.foldl next a0:=by
    intro x
    induction x with
    | zero=>intro _ a h;exact Hg i a h
    | succ x ih=>
     intro hx a h;rw[b9] at h;unfold cJ at h;split at h
     ·exact ih (by omega) a h
     ·rcases eD.1 h with h|h
      ·exact ih (by omega) a h
      ·refine ⟨w++[x],WL.app.2 ⟨hw,WL.nil.cons (by omega)⟩,?_⟩;rw[fx.1 h,Ef];rfl
   exact this L (aw _) a h
  ·exact Hg i a h
section
variable {k:Nat} (hd:(aA L next a0 k).length≤k)
include hd
theorem Np {i:Nat} (h:i<(aA L next a0 k).length):i<(aA L next a0 i).length:=by
 rcases jq i (aA L next a0 i).length with c|c
 ·exact c
 ·have:=UT c (show i≤k by omega);rw[this] at h;omega
theorem aqP {i:Nat} (h:i<(aA L next a0 k).length):(aA L next a0 i)[i]? =some (aA L next a0 k)[i]:=by
 have h1:=Np hd h;rw[bU h1,(rX (show i≤k by omega)).getElem h1]
theorem Hh {i:Nat} (h:i<(aA L next a0 k).length):aA L next a0 (i+1)=b9 next (aA L next a0 i) (aA L next a0 k)[i] L:=ad0 (aqP hd h)
theorem ad2 {a:α} (h:a∈aA L next a0 k) {x:Nat} (hx:x<L):next a x∈aA L next a0 k:=by
 obtain ⟨i,hi,rfl⟩:=List.getElem_of_mem h;have h1:next (aA L next a0 k)[i] x∈aA L next a0 (i+1):=by rw[Hh hd hi];exact adZ hx
 rcases jq i k with c|c
 ·exact (rX (show i+1≤k by omega)).subset h1
 ·omega
end
def iw (L:Nat) (next:α→Nat→α) (fin:α→Bool) (S:List α):Da where
 L:=L
 st:=0
 F:=S.map fin
 N:=S.map fun a=>(List.range L).map fun x=>S.idxOf (next a x)
theorem tk {fin:α→Bool} {S:List α}:(iw L next fin S).n=S.length:=by simp[iw,Da.n]
theorem Hi {fin:α→Bool} {S:List α} {i x:Nat} (hi:i<S.length) (hx:x<L):(iw L next fin S).nx i x=S.idxOf (next S[i] x):=by
 unfold Da.nx iw;simp[qi,hi,hx]
theorem UU {fin:α→Bool} {S:List α} {i:Nat} (hi:i<S.length):(iw L next fin S).fin i=fin S[i]:=by
 unfold Da.fin iw;simp[qi,hi]
theorem Am {S T:List α} (hp:T <+: S) {a:α} (h:a∈T):S.idxOf a=T.idxOf a:=by
 obtain ⟨U,rfl⟩:=hp;rw[Bq,aB h]
section
variable {k:Nat} (hd:(aA L next a0 k).length≤k) {fin:α→Bool}
include hd
theorem aqQ {i x:Nat} (hi:i<(aA L next a0 k).length) (hx:x<L): ∃h:(iw L next fin (aA L next a0 k)).nx i x<(aA L next a0 k).length,(aA L next a0 k)[(iw L next fin (aA L next a0 k)).nx i x]=next (aA L next a0 k)[i] x:=by
 have hm:=ad2 hd (dr hi) hx;rw[Hi hi hx];exact ⟨wY hm,Jz _⟩
theorem ad3: ∀(w:List Nat) {i:Nat} (hi:i<(aA L next a0 k).length),WL L w→∃h:(iw L next fin (aA L next a0 k)).run i w<(aA L next a0 k).length,(aA L next a0 k)[(iw L next fin (aA L next a0 k)).run i w]=w.foldl next (aA L next a0 k)[i]
 | [],i,hi,_=>⟨hi,rfl⟩
 | x::w,i,hi,hw=>by
  obtain ⟨h1,h2⟩:=aqQ (fin:=fin) hd hi hw.head;obtain ⟨h3,h4⟩:=ad3 w h1 hw.tail;refine ⟨h3,?_⟩;rw[List.foldl_cons,←h2];exact h4
theorem ad4 {w:List Nat} {i:Nat} (hi:i<(aA L next a0 k).length) (hw:WL L w):(iw L next fin (aA L next a0 k)).acc i w=fin (w.foldl next (aA L next a0 k)[i]):=by
 obtain ⟨h1,h2⟩:=ad3 (fin:=fin) hd w hi hw;unfold Da.acc;rw[UU h1,h2]
theorem ad5 (h1:1≤L) (h6:L≤6) (hm:(aA L next a0 k).length≤512):(iw L next fin (aA L next a0 k)).Ok where
 l1:=h1
 l6:=h6
 nN:=by rw[tk];simp[iw]
 row r hr:=by
  rw[tk];obtain ⟨a,ha,rfl⟩:=iE.1 (show r∈(aA L next a0 k).map _ from hr);refine ⟨by simp[iw],fun q hq=> ?_⟩;obtain ⟨x,hx,rfl⟩:=iE.1 hq;exact wY (ad2 hd ha (ik.1 hx))
 s:=by rw[tk];exact Hf k
 dH:=by rw[tk];exact hm
theorem UW (h1:1≤L): ∀i,i≤(aA L next a0 k).length→(iw L next fin (aA L next a0 k)).mt (i*L)=(aA L next a0 i).length∧∀(hi:i<(aA L next a0 k).length) x,x≤L→(iw L next fin (aA L next a0 k)).mt (i*L+x)=(b9 next (aA L next a0 i) (aA L next a0 k)[i] x).length:=by
 have key: ∀i,(iw L next fin (aA L next a0 k)).mt (i*L)=(aA L next a0 i).length→∀(hi:i<(aA L next a0 k).length) x,x≤L→(iw L next fin (aA L next a0 k)).mt (i*L+x)=(b9 next (aA L next a0 i) (aA L next a0 k)[i] x).length:=by
  intro i h hi x
  induction x with
  | zero=>intro _;exact h
  | succ x ih=>
   intro hx;have ih:=ih (by omega);have hp:b9 next (aA L next a0 i) (aA L next a0 k)[i] (x+1) <+: aA L next a0 k:=by
    refine (Al _ _ hx).trans ?_;rw[←Hh hd hi];exact rX (by omega)
   have hp0:b9 next (aA L next a0 i) (aA L next a0 k)[i] x <+: aA L next a0 k:=(Al _ _ (by omega)).trans hp
   have gh:(iw L next fin (aA L next a0 k)).pos (i*L+x)=(aA L next a0 k).idxOf (next (aA L next a0 k)[i] x):=by
    unfold Da.pos;rw[show (iw L next fin (aA L next a0 k)).L=L from rfl,show (i*L+x)/L=i by rw[yz,Nat.mul_add_div (by omega),Nat.div_eq_of_lt (by omega)];rfl,show (i*L+x) %L=x by rw[yz,Nat.mul_add_mod,Nat.mod_eq_of_lt (by omega)],Hi hi (by omega)]
   show (iw L next fin (aA L next a0 k)).mt ((i*L+x)+1)=_;rw[Da.mt,gh,ih,b9];rw[b9] at hp;generalize b9 next (aA L next a0 i) (aA L next a0 k)[i] x=T at*
   generalize next (aA L next a0 k)[i] x=b at*
   rw[Dw];by_cases hb:b∈T
   ·rw[aB hb,Am hp0 hb,aC (by have:=wY hb;omega)]
   ·rw[aC hb];unfold cJ at hp;rw[aC hb] at hp;rw[Am hp (by simp),Bq,aC hb];simp
 intro i
 induction i with
 | zero=>
  intro _;have:(iw L next fin (aA L next a0 k)).mt (0*L)=(aA L next a0 0).length:=by rw[Nat.zero_mul];rfl
  exact ⟨this,key 0 this⟩
 | succ i ih=>
  intro hi;obtain ⟨_,h3⟩:=ih (by omega);have h4:=h3 (by omega) L (aw _);rw[←Hh hd (by omega),←D6] at h4;exact ⟨h4,key (i+1) h4⟩
theorem UX:(aA L next a0 (aA L next a0 k).length)=aA L next a0 k:=by
 have hp:=rX (L:=L) (next:=next) (a0:=a0) hd;exact (UT hp.length_le hd).symm
theorem aqR (h1:1≤L):(iw L next fin (aA L next a0 k)).KQ where
 le t ht:=by
  rw[tk] at ht;have hq:t/L<(aA L next a0 k).length:=by rw[Jr (by omega)];exact ht
  have hx:t %L<L:=yx _ (by omega);have K7:t/L*L+t %L=t:=Nat.div_add_mod' t L;have h2:=(UW (fin:=fin) hd h1 (t/L) (by omega)).2 hq (t %L) (by omega);rw[K7] at h2;rw[h2];unfold Da.pos;rw[show (iw L next fin (aA L next a0 k)).L=L from rfl,Hi hq hx];have hp:b9 next (aA L next a0 (t/L)) (aA L next a0 k)[t/L] (t %L+1) <+: aA L next a0 k:=by
   refine (Al _ _ (show t %L+1≤L by omega)).trans ?_;rw[←Hh hd hq];exact rX (by omega)
  rw[b9] at hp;generalize b9 next (aA L next a0 (t/L)) (aA L next a0 k)[t/L] (t %L)=T at*
  generalize next (aA L next a0 k)[t/L] (t %L)=b at*
  rw[Am hp Ak];have:=wY (Ak (S:=T) (a:=b));rw[Dw] at this;split at this<;>omega
 row q hq:=by
  rw[tk] at hq;rw[show (iw L next fin (aA L next a0 k)).L=L from rfl,(UW hd h1 q (by omega)).1];exact Np hd hq
 all:=by
  rw[tk,show (iw L next fin (aA L next a0 k)).L=L from rfl,(UW hd h1 _ (aw _)).1,UX hd]
end
theorem ad6 {U:List α} (h0:a0∈U) (hU: ∀a∈U,∀x,x<L→next a x∈U) (k:Nat):aA L next a0 k ⊆ U:=by
 intro a ha;obtain ⟨w,hw,rfl⟩:=Hg k a ha;have: ∀(w:List Nat) (b:α),b∈U→WL L w→w.foldl next b∈U:=by
  intro w
  induction w with
  | nil=>intro b hb _;exact hb
  | cons x w ih=>intro b hb hw;exact ih _ (hU b hb x hw.head) hw.tail
 exact this w a0 h0 hw
theorem ad7 {U:List α} (h0:a0∈U) (hU: ∀a∈U,∀x,x<L→next a x∈U) (k:Nat):(aA L next a0 k).length≤U.length:=
 Bm (Dx k) (ad6 h0 hU k)
end
namespace Da
def trim (d:Da):Da:=iw d.L d.nx d.fin (aA d.L d.nx d.st d.n)
theorem Ok.wA {d:Da} (h:d.Ok) (k:Nat):(aA d.L d.nx d.st k).length≤d.n:=by
 have:=ad7 (L:=d.L) (next:=d.nx) (a0:=d.st) (U:=List.range d.n) (ik.2 h.s) (fun a ha x hx=>ik.2 (h.kR (ik.1 ha) hx)) k;simpa using this
theorem Ok.Hj {d:Da} (h:d.Ok) (k:Nat): ∀q∈aA d.L d.nx d.st k,q<d.n:=fun q hq=>by
 have:=ad6 (L:=d.L) (next:=d.nx) (a0:=d.st) (U:=List.range d.n) (ik.2 h.s) (fun a ha x hx=>ik.2 (h.kR (ik.1 ha) hx)) k hq;exact ik.1 this
theorem Ok.ad8 {d:Da} (h:d.Ok):d.trim.Ok:=ad5 (h.wA _) h.l1 h.l6 (mX (h.wA _) h.dH)
theorem Ok.UY {d:Da} (h:d.Ok) {i:Nat} (hi:i<(aA d.L d.nx d.st d.n).length) {w:List Nat} (hw:WL d.L w):d.trim.acc i w=d.acc (aA d.L d.nx d.st d.n)[i] w:=ad4 (h.wA _) hi hw
theorem Ok.ad9 {d:Da} (h:d.Ok) {w:List Nat} (hw:WL d.L w):d.trim.acc 0 w=d.acc d.st w:=by
 rw[h.UY (Hf _) hw];have:=ad1 (L:=d.L) (next:=d.nx) (a0:=d.st) d.n;rw[bU (Hf _)] at this;rw[dL this]
theorem Ok.aqS {d:Da} (h:d.Ok) (hr: ∀p q,p<d.n→q<d.n→d.rW p d q→p=q):d.trim.Canon d.L (d.acc d.st) where
 ok:=h.ad8
 hL:=rfl
 st:=rfl
 num:=aqR (h.wA _) h.l1
 red p q hp hq he:=by
  unfold trim at hp hq;rw[tk] at hp hq;have h1:d.rW (aA d.L d.nx d.st d.n)[p] d (aA d.L d.nx d.st d.n)[q]:=fun w hw=>by
   rw[←h.UY hp hw,←h.UY hq hw];exact he w hw
  have h2:=hr _ _ (h.Hj _ _ (dr hp)) (h.Hj _ _ (dr hq)) h1;rw[←List.Nodup.idxOf_getElem (Dx _) p hp,←List.Nodup.idxOf_getElem (Dx _) q hq,h2]
 Dv w hw:=h.ad9 hw
end Da
end Go.AM
set_option maxRecDepth 100000
namespace Go.AM
open Go.IntKind (wrap)
open Go.Proofs
noncomputable def Hk (C:af) (An:Int) (t38:LV) (t39 t40:Int) (t49:LV) (t50 bj bt:Int) (fJ fE:LV) (t51:Int) {β:Type} (kn:Int→Option β) (kr:((Int) ⊕ (Int×Bool))→Option β):Option β:=
 bif decide (t51<t50) then
  (idx t49 t51).bind fun x2=>
  bif decide ((x2.toInt:Int)<0) then
  kr (.inl 4)
  else
  bif decide ((x2.toInt:Int)≥An) then
   kr (.inl 4)
  else
   kn (wrap .i64 (t51+1))
 else
  kr (.inr (t51,decide (t51<t50)))
noncomputable def Nq (C:af) (An:Int) (t38:LV) (t39 t40:Int) (t49:LV) (t50 bj bt:Int) (fJ fE:LV):=fun t51=>Hk C An t38 t39 t40 t49 t50 bj bt fJ fE t51 (fun y=>some (Sum.inl y)) (fun r=>some (Sum.inr r))
noncomputable def Hl (C:af) (An:Int) (t38:LV) (t39 bj bt:Int) (fJ fE:LV) (t40:Int) {β:Type} (kn:Int→Option β) (kr:((Int) ⊕ (Int×Bool))→Option β):Option β:=
 bif decide (t40<t39) then
  (idx t38 t40).bind fun x1=>
  bif (x1.toList.length:Int) != bj then
  kr (.inl 4)
  else
  (Loop (Nq C An t38 t39 t40 x1.toList (x1.toList.length:Int) bj bt fJ fE) 0).bind (fg (fun jJ=>
   kr (.inl jJ)) (un fun (lx:Int) (kC:Bool)=>
   kn (wrap .i64 (t40+1))))
 else
  kr (.inr (t40,decide (t40<t39)))
noncomputable def Nr (C:af) (An:Int) (t38:LV) (t39 bj bt:Int) (fJ fE:LV):=fun t40=>Hl C An t38 t39 bj bt fJ fE t40 (fun y=>some (Sum.inl y)) (fun r=>some (Sum.inr r))
noncomputable def aea (C:af):cD:=bI 225 Tn [EQ,EQ,EQ,EQ,EQ,EQ,H1,EQ,EQ,EQ,EQ] [[0],[1,2,3,4,5,6,0,0,8,9,10,11]] (@Hk C) (bI 145 To [EQ,EQ,EQ,H1,EQ,EQ,EQ,EQ] [[0],[1,2,3,0,0,5,6,7,8]] (@Hl C) bB)
theorem aqT (C:af):bD C (aea C) 28 (Lp [1,1,1,1,1,0,1,0,0,1,1,0,0,1,1,1,0,0] 28):=bJ Tn [EQ,EQ,EQ,EQ,EQ,EQ,H1,EQ,EQ,EQ,EQ] [[0],[1,2,3,4,5,6,0,0,8,9,10,11]] (@Hk C) (bq au)
theorem aqU (C:af):bD C (aea C) 28 (Lp [1,1,1,1,1,0,1,0,0] 28):=bJ To [EQ,EQ,EQ,H1,EQ,EQ,EQ,EQ] [[0],[1,2,3,0,0,5,6,7,8]] (@Hl C) (bq (bE (aqT C) au))
noncomputable def aeb (C:af) (c6 db:Int) (cE c7:LV):Option LV:=
 bif decide (c6<1) then
  some [V.int .i64 1]
 else
  bif decide (c6>6) then
  some [V.int .i64 1]
  else
  bif decide ((cE.length:Int)>512) then
   some [V.int .i64 3]
  else
   bif (c7.length:Int) != (cE.length:Int) then
   some [V.int .i64 4]
   else
   bif decide (db<0) then
    some [V.int .i64 4]
   else
    bif decide (db≥(cE.length:Int)) then
    some [V.int .i64 4]
    else
    (Loop (Nr C (cE.length:Int) c7 (c7.length:Int) c6 db cE c7) 0).bind (fg (fun jz=>
     some [V.int .i64 jz]) (un fun (mL:Int) (vD:Bool)=>
     some [V.int .i64 0]))
theorem aqV {c6 db:Int} {cE c7:LV} {r:Option LV} (h:aeb CC c6 db cE c7=r):CC qs [V.int .i64 c6,V.int .i64 db,.list ak cE,.list ag c7]=r:=bC (bE (aqU CC) au) h
noncomputable def Hm (C:af) (n:Int) (t38:LV) (t39 t40:Int) (t49:LV) (t50 bj bt:Int) (fJ fE:LV) (t51:Int) {β:Type} (kn:Int→Option β) (kr:((Int) ⊕ (Int×Bool))→Option β):Option β:=
 bif decide (t51<t50) then
  (idx t49 t51).bind fun x3=>
  bif decide ((x3.toInt:Int)<0) then
  kr (.inl 4)
  else
  bif decide ((x3.toInt:Int)≥n) then
   kr (.inl 4)
  else
   kn (wrap .i64 (t51+1))
 else
  kr (.inr (t51,decide (t51<t50)))
noncomputable def Ns (C:af) (n:Int) (t38:LV) (t39 t40:Int) (t49:LV) (t50 bj bt:Int) (fJ fE:LV):=fun t51=>Hm C n t38 t39 t40 t49 t50 bj bt fJ fE t51 (fun y=>some (Sum.inl y)) (fun r=>some (Sum.inr r))
noncomputable def Hn (C:af) (n:Int) (t38:LV) (t39 bj bt:Int) (fJ fE:LV) (t40:Int) {β:Type} (kn:Int→Option β) (kr:((Int) ⊕ (Int×Bool))→Option β):Option β:=
 bif decide (t40<t39) then
  (idx t38 t40).bind fun x2=>
  bif (x2.toList.length:Int) != bj then
  kr (.inl 4)
  else
  (Loop (Ns C n t38 t39 t40 x2.toList (x2.toList.length:Int) bj bt fJ fE) 0).bind (fg (fun lx=>
   kr (.inl lx)) (un fun (kC:Int) (jz:Bool)=>
   kn (wrap .i64 (t40+1))))
 else
  kr (.inr (t40,decide (t40<t39)))
noncomputable def Nt (C:af) (n:Int) (t38:LV) (t39 bj bt:Int) (fJ fE:LV):=fun t40=>Hn C n t38 t39 bj bt fJ fE t40 (fun y=>some (Sum.inl y)) (fun r=>some (Sum.inr r))
noncomputable def aec (C:af):cD:=bI 225 Tj [EQ,EQ,EQ,EQ,EQ,EQ,H1,EQ,EQ,EQ,EQ] [[0],[1,2,3,4,5,6,0,0,8,9,10,11]] (@Hm C) (bI 145 Tk [EQ,EQ,EQ,H1,EQ,EQ,EQ,EQ] [[0],[1,2,3,0,0,5,6,7,8]] (@Hn C) bB)
theorem aqW (C:af):bD C (aec C) 8 (Lp [1,1,1,1,1,0,1,0,0,1,1,0,0,1,1,1,0,0] 8):=bJ Tj [EQ,EQ,EQ,EQ,EQ,EQ,H1,EQ,EQ,EQ,EQ] [[0],[1,2,3,4,5,6,0,0,8,9,10,11]] (@Hm C) (bq au)
theorem aqX (C:af):bD C (aec C) 8 (Lp [1,1,1,1,1,0,1,0,0] 8):=bJ Tk [EQ,EQ,EQ,H1,EQ,EQ,EQ,EQ] [[0],[1,2,3,0,0,5,6,7,8]] (@Hn C) (bq (bE (aqW C) au))
noncomputable def aed (C:af) (c6 db:Int) (cE c7:LV):Option LV:=
 (C Mf [V.int .i64 c6]).bind fun r1=>
 bif !((V.nth r1 0).toBool) then
  some [V.int .i64 1]
 else
  bif decide ((cE.length:Int)>512) then
  some [V.int .i64 3]
  else
  bif (cE.length:Int)==0 then
   some [V.int .i64 4]
  else
   bif (c7.length:Int) != (cE.length:Int) then
   some [V.int .i64 4]
   else
   bif decide (db<0) then
    some [V.int .i64 4]
   else
    bif decide (db≥(cE.length:Int)) then
    some [V.int .i64 4]
    else
    (Loop (Nt C (cE.length:Int) c7 (c7.length:Int) c6 db cE c7) 0).bind (fg (fun mL=>
     some [V.int .i64 mL]) (un fun (vD:Int) (uJ:Bool)=>
     some [V.int .i64 0]))
theorem aqY {c6 db:Int} {cE c7:LV} {r:Option LV} (h:aed CC c6 db cE c7=r):CC xA [V.int .i64 c6,V.int .i64 db,.list ak cE,.list ag c7]=r:=bC (bE (aqX CC) au) h
noncomputable def aee (C:af) (aO:Int):Option LV:=
 bif decide (aO≥1) then
  some [.bool (decide (aO≤6))]
 else
  some [.bool false]
theorem aqZ {aO:Int} {r:Option LV} (h:aee CC aO=r):CC Mf [V.int .i64 aO]=r:=bC (L:=bB) au h
theorem aq0 (n:Int):CC Mf [.int .i64 n]=some [.bool (decide (1≤n∧n≤6))]:=by
 refine aqZ ?_;unfold aee;rw[s6];split
 ·refine congrArg (fun b=>some [V.bool b]) ?_;rw[decide_eq_decide];omega
 ·have: ¬(1≤n∧n≤6):=by omega
  simp[this]
abbrev iV (n:Int):V:= .int .i64 n
def pF (r:List Int):V:= .list ab (r.map iV)
@[simp] theorem aef (r:List Int):(pF r).toList=r.map iV:=by simp[pF]
structure Df where
 L:Int
 st:Int
 F:List Bool
 N:List (List Int)
def Fc (d:Df) (l:List V):List V:= .int .i64 d.L:: .int .i64 d.st:: .list ak (d.F.map V.bool):: .list ag (d.N.map pF)::l
namespace Df
structure Ok (d:Df):Prop where
 L1: -9223372036854775808≤d.L
 L2:d.L≤9223372036854775807
 s1: -9223372036854775808≤d.st
 s2:d.st≤9223372036854775807
 F:d.F.length≤maxLen
 N:d.N.length≤maxLen
 row: ∀r∈d.N,r.length≤maxLen∧∀q∈r,-9223372036854775808≤q∧q≤9223372036854775807
def lL (d:Df) (r:List Int) (i:Nat):Prop:=0≤r.getD i 0∧r.getD i 0<d.F.length
instance (d:Df) (r:List Int):DecidablePred (d.lL r):=fun i=>by unfold lL;infer_instance
def pZ (d:Df) (q:Nat):Prop:=((d.N.getD q []).length:Int)=d.L∧∀i,i<(d.N.getD q []).length→d.lL (d.N.getD q []) i
instance (d:Df):DecidablePred d.pZ:=fun i=>by unfold pZ;infer_instance
def val (d:Df):Int:=
 if d.L<1∨6<d.L then 1
 else if 512<d.F.length then 3
 else if d.N.length≠d.F.length∨d.st<0∨(d.F.length:Int)≤d.st then 4
 else if∀q,q<d.N.length→d.pZ q then 0 else 4
end Df
theorem E7 {α:Type} {f:α→V} {l:List α} {i:Nat} {z:α} (h:i<l.length):idx (l.map f) (i:Int)=some (f (l.getD i z)):=by
 rw[X4 rfl h];simp[h]
section
variable {d:Df} (hd:d.Ok)
include hd
theorem aeg {q:Nat} (h:q<d.N.length):(d.N.getD q []).length≤maxLen:=by
 rw[show d.N.getD q []=d.N[q] by simp[h]];exact (hd.row _ (dr h)).1
theorem aq1 {q:Nat} (hq:q<d.N.length) {t38:List V} {t39:Int} {a b:Int} {l1 l2:List V}:
  Loop (Nq CC (d.F.length:Int) t38 t39 (q:Int) ((d.N.getD q []).map iV) (((d.N.getD q []).map iV).length:Int) a b l1 l2) 0=
   some (if∀i,i<(d.N.getD q []).length→d.lL (d.N.getD q []) i then .inr (((d.N.getD q []).length:Int),false) else .inl 4):=by
 have hl:=aeg hd hq;have hm:=Nj;generalize d.N.getD q []=r at*
 refine Nk (d.lL r) r.length (fun i=>(i:Int)) (.inl 4:Int ⊕ (Int×Bool)) (.inr ((r.length:Int),false)) (fun i hi=> ?_) ?_
 ·simp only[Nq,Hk,cY,s6];rw[da,E7 (z:=0) hi];simp only[Option.bind_some,V.toInt_int];by_cases h1:r.getD i 0<0
  ·rw[aB h1,aC (show¬d.lL r i from fun h=>by unfold Df.lL at h;omega)]
  ·rw[aC h1];by_cases h2:r.getD i 0≥(d.F.length:Int)
   ·rw[aB h2,aC (show¬d.lL r i from fun h=>by unfold Df.lL at h;omega)]
   ·rw[aC h2,aB (show d.lL r i from ⟨by omega,by omega⟩),qu];rfl
 ·simp only[Nq,Hk,cY,s6];rw[dh,JB]
theorem aq2 {a b:Int} {l1 l2:List V}:
  Loop (Nr CC (d.F.length:Int) (d.N.map pF) ((d.N.map pF).length:Int) d.L b l1 l2) 0=
   some (if∀q,q<d.N.length→d.pZ q then .inr ((d.N.length:Int),false) else .inl 4):=by
 have hm:=Nj;have hN:=hd.N;refine Nk d.pZ d.N.length (fun i=>(i:Int)) (.inl 4:Int ⊕ (Int×Bool)) (.inr ((d.N.length:Int),false)) (fun q hq=> ?_) ?_
 ·simp only[Nr,Hl,cY,s6];rw[da,E7 (z:=[]) hq];simp only[Option.bind_some,aef,cY,L6];have:=aq1 hd hq (t38:=d.N.map pF) (t39:=(d.N.length:Int)) (a:=d.L) (b:=b) (l1:=l1) (l2:=l2);rw[cY] at this;by_cases h1:((d.N.getD q []).length:Int)=d.L
  ·rw[aB h1];refine bs this ?_;by_cases h2: ∀i,i<(d.N.getD q []).length→d.lL (d.N.getD q []) i
   ·rw[aB h2,aB (show d.pZ q from ⟨h1,h2⟩)];simp only[fg,un];rw[qu];rfl
   ·rw[aC h2,aC (show¬d.pZ q from fun h=>h2 h.2)];rfl
  ·rw[aC h1,aC (show¬d.pZ q from fun h=>h1 h.1)]
 ·simp only[Nr,Hl,cY,s6];rw[dh,JB]
theorem aq3:CC qs (Fc d [])=some [.int .i64 d.val]:=by
 refine aqV ?_;unfold aeb Df.val;simp only[cY,s6,L6];have h:=aq2 hd (a:=0) (b:=d.st) (l1:=d.F.map V.bool) (l2:=d.N.map pF);rw[cY] at h;by_cases h1:d.L<1
 ·rw[aB h1,aB (.inl h1)]
 rw[aC h1];by_cases h2:d.L>6
 ·rw[aB h2,aB (.inr h2)]
 rw[aC h2,aC (show¬(d.L<1∨6<d.L) by omega)];by_cases h3:512<d.F.length
 ·rw[aB (show (d.F.length:Int)>512 by omega),aB h3]
 rw[aC (show¬(d.F.length:Int)>512 by omega),aC h3];by_cases h4:d.N.length=d.F.length
 ·rw[aB (show (d.N.length:Int)=(d.F.length:Int) by omega)];by_cases h5:d.st<0
  ·rw[aB h5,aB (.inr (.inl h5))]
  rw[aC h5];by_cases h6:d.st≥(d.F.length:Int)
  ·rw[aB h6,aB (.inr (.inr h6))]
  rw[aC h6,aC (show¬(d.N.length≠d.F.length∨d.st<0∨(d.F.length:Int)≤d.st) by omega)];refine bs h ?_;split<;>rfl
 ·rw[aC (show¬(d.N.length:Int)=(d.F.length:Int) by omega),aB (.inl h4)]
theorem aq4 {q:Nat} (hq:q<d.N.length) {t38:List V} {t39:Int} {a b:Int} {l1 l2:List V}:
  Loop (Ns CC (d.F.length:Int) t38 t39 (q:Int) ((d.N.getD q []).map iV) (((d.N.getD q []).map iV).length:Int) a b l1 l2) 0=
   some (if∀i,i<(d.N.getD q []).length→d.lL (d.N.getD q []) i then .inr (((d.N.getD q []).length:Int),false) else .inl 4):=by
 have hl:=aeg hd hq;have hm:=Nj;generalize d.N.getD q []=r at*
 refine Nk (d.lL r) r.length (fun i=>(i:Int)) (.inl 4:Int ⊕ (Int×Bool)) (.inr ((r.length:Int),false)) (fun i hi=> ?_) ?_
 ·simp only[Ns,Hm,cY,s6];rw[da,E7 (z:=0) hi];simp only[Option.bind_some,V.toInt_int];by_cases h1:r.getD i 0<0
  ·rw[aB h1,aC (show¬d.lL r i from fun h=>by unfold Df.lL at h;omega)]
  ·rw[aC h1];by_cases h2:r.getD i 0≥(d.F.length:Int)
   ·rw[aB h2,aC (show¬d.lL r i from fun h=>by unfold Df.lL at h;omega)]
   ·rw[aC h2,aB (show d.lL r i from ⟨by omega,by omega⟩),qu];rfl
 ·simp only[Ns,Hm,cY,s6];rw[dh,JB]
theorem aq5 {b:Int} {l1 l2:List V}:
  Loop (Nt CC (d.F.length:Int) (d.N.map pF) ((d.N.map pF).length:Int) d.L b l1 l2) 0=
   some (if∀q,q<d.N.length→d.pZ q then .inr ((d.N.length:Int),false) else .inl 4):=by
 have hm:=Nj;have hN:=hd.N;refine Nk d.pZ d.N.length (fun i=>(i:Int)) (.inl 4:Int ⊕ (Int×Bool)) (.inr ((d.N.length:Int),false)) (fun q hq=> ?_) ?_
 ·simp only[Nt,Hn,cY,s6];rw[da,E7 (z:=[]) hq];simp only[Option.bind_some,aef,cY,L6];have:=aq4 hd hq (t38:=d.N.map pF) (t39:=(d.N.length:Int)) (a:=d.L) (b:=b) (l1:=l1) (l2:=l2);rw[cY] at this;by_cases h1:((d.N.getD q []).length:Int)=d.L
  ·rw[aB h1];refine bs this ?_;by_cases h2: ∀i,i<(d.N.getD q []).length→d.lL (d.N.getD q []) i
   ·rw[aB h2,aB (show d.pZ q from ⟨h1,h2⟩)];simp only[fg,un];rw[qu];rfl
   ·rw[aC h2,aC (show¬d.pZ q from fun h=>h2 h.2)];rfl
  ·rw[aC h1,aC (show¬d.pZ q from fun h=>h1 h.1)]
 ·simp only[Nt,Hn,cY,s6];rw[dh,JB]
theorem aq6:CC xA (Fc d [])=some [.int .i64 d.val]:=by
 refine aqY ?_;unfold aed Df.val;refine bs (aq0 d.L) ?_;simp only[cY,s6,L6,al8,V.L4,V.CH,al9];have h:=aq5 hd (b:=d.st) (l1:=d.F.map V.bool) (l2:=d.N.map pF);rw[cY] at h;by_cases h1:d.L<1∨6<d.L
 ·rw[aB h1,aC (show¬(1≤d.L∧d.L≤6) by omega)]
 rw[aC h1,aB (show 1≤d.L∧d.L≤6 by omega)];by_cases h3:512<d.F.length
 ·rw[aB (show (d.F.length:Int)>512 by omega),aB h3]
 rw[aC (show¬(d.F.length:Int)>512 by omega),aC h3];by_cases h0:d.F.length=0
 ·rw[aB (show (d.F.length:Int)=0 by omega),da]
 rw[aC (show¬(d.F.length:Int)=0 by omega)];by_cases h4:d.N.length=d.F.length
 ·rw[aB (show (d.N.length:Int)=(d.F.length:Int) by omega)];by_cases h5:d.st<0
  ·rw[aB h5,aB (.inr (.inl h5))]
  rw[aC h5];by_cases h6:d.st≥(d.F.length:Int)
  ·rw[aB h6,aB (.inr (.inr h6))]
  rw[aC h6,aC (show¬(d.N.length≠d.F.length∨d.st<0∨(d.F.length:Int)≤d.st) by omega)];refine bs h ?_;split<;>rfl
 ·rw[aC (show¬(d.N.length:Int)=(d.F.length:Int) by omega),aB (.inl h4)]
end
def sK (r:List Nat):List Int:=r.map fun q:Nat=>(q:Int)
theorem aeh (r:List Nat) (i:Nat):(sK r).getD i 0=((r.getD i 0:Nat):Int):=by
 unfold sK;by_cases h:i<r.length
 ·rw[cP h,cP (by simpa using h)];simp
 ·simp[List.getElem?_eq_none (Nat.le_of_not_lt h)]
def Da.df (a:Da):Df:=⟨a.L,a.st,a.F,a.N.map sK⟩
theorem Da.Ok.aei {a:Da} (h:a.Ok):a.df.Ok:=by
 have h1:=h.l6;have h2:=h.s;have h3:=h.dH;have h4:=h.nN;unfold Da.n at*
 refine ⟨by simp only[Da.df];omega,by simp only[Da.df];omega,by simp only[Da.df];omega,by simp only[Da.df];omega,by simp only[Da.df];unfold maxLen;omega,by simp only[Da.df,cY];unfold maxLen;omega,fun r hr=> ?_⟩;obtain ⟨r,qG,rfl⟩:=iE.1 hr;have:=h.row r qG;refine ⟨by simp only[sK,cY];unfold maxLen;omega,fun q hq=> ?_⟩;obtain ⟨q,vL,rfl⟩:=iE.1 hq;have:=this.2 q vL;unfold Da.n at this;omega
theorem Da.Ok.val {a:Da} (h:a.Ok):a.df.val=0:=by
 have h0:=h.l1;have h1:=h.l6;have h2:=h.s;have h3:=h.dH;have h4:=h.nN;unfold Da.n at*
 unfold Df.val;rw[aC (by simp only[Da.df];omega),aC (by simp only[Da.df];omega),aC (by simp only[Da.df,cY];omega),aB];intro q hq;simp only[Da.df,cY] at hq;have e:a.df.N.getD q []=sK (a.N.getD q []):=by simp[Da.df,hq]
 have hr:=h.row (a.N.getD q []) (by rw[show a.N.getD q []=a.N[q] by simp[hq]];exact dr hq);unfold Df.pZ;rw[e];refine ⟨by simp only[sK,cY,Da.df];omega,fun i hi=> ?_⟩;rw[sK,cY] at hi;have:=hr.2 ((a.N.getD q [])[i]) (dr hi);unfold Df.lL;rw[aeh,cP hi];simp only[Da.df];unfold Da.n at this;omega
def tab {α:Type} (n:Nat) (g:Nat→α):List α:=(List.range n).map g
section
variable {α β:Type} {n i:Nat} {g h:Nat→α}
@[simp] theorem fT:(tab n g).length=n:=by simp[tab]
theorem nG (hi:i<n):(tab n g)[i]? =some (g i):=by simp[tab,hi]
theorem Ao (hi:i<n) {z:α}:(tab n g).getD i z=g i:=by simp[tab,hi]
theorem UZ (hi:i<(tab n g).length):(tab n g)[i]=g i:=by simp[tab]
theorem dy (e: ∀j,j<n→g j=h j):tab n g=tab n h:=qh fun j hj=>e j (ik.1 hj)
theorem mn {v:α}:(tab n g).set i v=tab n fun j=>if j=i then v else g j:=by
 refine uZ (by simp) fun j h1 h2=> ?_;rw[List.getElem_set,UZ,UZ];simp only[eq_comm]
theorem aq7:tab n g++[g n]=tab (n+1) g:=by simp[tab,List.range_succ]
theorem Dy:tab (n+1) g=tab n g++[g n]:=aq7.symm
theorem p5 {v:α}:List.replicate n v=tab n fun _=>v:=by simp[tab,List.map_const']
theorem aq8 {f:α→β}:(tab n g).map f=tab n fun i=>f (g i):=by simp[tab,Function.comp]
theorem aej (l:List α) (z:α):l=tab l.length fun i=>l.getD i z:=by
 refine uZ (by simp) fun j h1 h2=> ?_;rw[UZ];simp[h1]
theorem Ap (l:List α) (z:α) {f:α→β}:l.map f=tab l.length fun i=>f (l.getD i z):=by
 rw[←aq8,←aej]
theorem KS {a:α}:a∈tab n g↔∃i,i<n∧g i=a:=by simp[tab]
end
section
variable {γ:Type} {n i:Nat} {g:Nat→V}
theorem qT (hi:i<n):idx (tab n g) (i:Int)=some (g i):=by rw[yZ rfl,nG hi]
theorem mR (hi:i<n) {K:V→Option γ}:(bif (decide (0≤(i:Int)))&&(decide ((i:Int)<((tab n g).length:Int))) then ((tab n g)[((i:Int)).toNat]?).bind K else none)=K (g i):=by
 rw[Int.toNat_natCast,nG hi,ki.2 ⟨cq (by omega),cq (by rw[fT];omega)⟩];rfl
theorem bY {es:List V} {v:V} (hi:es[i]? =some v) {K:V→Option γ}:(bif (decide (0≤(i:Int)))&&(decide ((i:Int)<(es.length:Int))) then (es[((i:Int)).toNat]?).bind K else none)=K v:=by
 have hl:i<es.length:=by
  rcases jq i es.length with h|h
  ·exact h
  ·rw[List.getElem?_eq_none h] at hi;cases hi
 rw[Int.toNat_natCast,hi,ki.2 ⟨cq (by omega),cq (by omega)⟩];rfl
theorem oO {m:Nat} (hi:i<m):((decide (0≤(i:Int)))&&(decide ((i:Int)<(m:Int))))=true:=ki.2 ⟨cq (by omega),cq (by omega)⟩
end
theorem cap {a b m:Nat} (h:a+b≤10000000) (hm:m≤1000):Nat.ble ((a+b)*m) aX=true:=by
 rw[gp,adS];have:=Nat.mul_le_mul h hm;omega
theorem gB {n m:Nat} (h:n≤10000000) (hm:m≤1000):((decide (0≤(n:Int)))&&((decide ((n:Int)≤(n:Int)))&&(Nat.ble (((n:Int).toNat)*m) aX)))=true:=by
 have h2:=Nat.mul_le_mul h hm;rw[Int.toNat_natCast];refine ki.2 ⟨cq (by omega),ki.2 ⟨cq (by omega),?_⟩⟩;rw[gp,adS];omega
theorem bz {i:Nat} (h:i≤1000000000):wrap .i64 ((i:Int)+1)=((i+1:Nat):Int):=by rw[qu];omega
theorem bp {i n:Nat} (h:i<n):decide ((i:Int)<(n:Int))=true:=cq (by omega)
theorem aV {i n:Nat} (h:n≤i):decide ((i:Int)<(n:Int))=false:=c8 (by omega)
section
variable {X R:Type} {step:X→Option (X ⊕ R)}
theorem gz (n:Nat) (s:Nat→X) (r:R) (h: ∀i,i<n→step (s i)=some (.inl (s (i+1)))) (he:step (s n)=some (.inr r)):Loop step (s 0)=some r:=al7 s n h he
theorem jB (P:Nat→X→Prop) (Q:R→Prop): ∀(n k:Nat) (x:X),(∀i,k≤i→i<k+n→∀x,P i x→∃y,step x=some (.inl y)∧P (i+1) y)→(∀x,P (k+n) x→∃r,step x=some (.inr r)∧Q r)→P k x→∃r,Loop step x=some r∧Q r
 | 0,k,x,_,he,hx=>by
  obtain ⟨r,h1,h2⟩:=he x hx;exact ⟨r,jY h1,h2⟩
 | n+1,k,x,h,he,hx=>by
  obtain ⟨y,h1,h2⟩:=h k (aw _) (by omega) x hx;obtain ⟨r,h3,h4⟩:=jB P Q n (k+1) y (fun i hi hn=>h i (by omega) (by omega)) (by rw[show k+1+n=k+(n+1) by omega];exact he) h2;exact ⟨r,(iS h1).trans h3,h4⟩
theorem aq9 (bad:Nat→Bool) (n:Nat) (s:Nat→X) (r1:Nat→R) (r2:R) (h: ∀i,i<n→step (s i)=some (if bad i=true then .inr (r1 i) else .inl (s (i+1)))) (he:step (s n)=some (.inr r2)):
  (∃i,i<n∧bad i=true∧(∀j,j<i→bad j=false)∧Loop step (s 0)=some (r1 i))∨((∀i,i<n→bad i=false)∧Loop step (s 0)=some r2):=by
 have go: ∀(d k:Nat),k+d=n→(∀j,j<k→bad j=false)→Loop step (s 0)=Loop step (s k)→(∃i,i<n∧bad i=true∧(∀j,j<i→bad j=false)∧Loop step (s 0)=some (r1 i))∨((∀i,i<n→bad i=false)∧Loop step (s 0)=some r2):=by
  intro d
  induction d with
  | zero=>
   intro k hk hb e;obtain rfl:k=n:=by omega
   exact .inr ⟨hb,e.trans (jY he)⟩
  | succ d ih=>
   intro k hk hb e;have h1:=h k (by omega);cases vX:bad k with
   | true=>
    rw[aB vX] at h1;exact .inl ⟨k,by omega,vX,hb,e.trans (jY h1)⟩
   | false=>
    rw[aC (by rw[vX];simp)] at h1;refine ih (k+1) (by omega) (fun j hj=> ?_) (e.trans (iS h1));rcases jq j k with c|c
    ·exact hb j c
    ·rw[show j=k by omega];exact vX
 exact go n 0 (by omega) (fun j hj=>by omega) rfl
end
def Ho (w:List UInt8) (i:Nat):Int:=((w.getD i 0).toNat:Int)-97
def Hp (w:List UInt8) (L:Int):Prop:=1≤L∧L≤6∧w.length≤2048∧∀i,i<w.length→0≤Ho w i∧Ho w i<L
instance (w:List UInt8) (L:Int):Decidable (Hp w L):=by unfold Hp;infer_instance
def nH (L:Nat) (f:Nat→Nat):V:= .list ab (tab L fun x=>iV (f x))
def Da.cM (a:Da):List V:=tab a.n fun q=>V.bool (a.fin q)
def Da.cW (a:Da):List V:=tab a.n fun q=>nH a.L (a.nx q)
@[simp] theorem Da.Nu {a:Da}:a.cM.length=a.n:=by simp[Da.cM]
@[simp] theorem Da.ara {a:Da}:a.cW.length=a.n:=by simp[Da.cW]
@[simp] theorem Dz {L:Nat} {f:Nat→Nat}:(nH L f).toList=tab L fun x=>iV (f x):=by simp[nH]
def jC (a:Da) (l:List V):List V:= .int .i64 a.L:: .int .i64 a.st:: .list ak a.cM:: .list ag a.cW::l
def eY (a:Da):List V:=jC a []
theorem Da.Ok.leaves {a:Da} (h:a.Ok) (l:List V):Fc a.df l=jC a l:=by
 unfold Fc jC;have e1:a.df.F.map V.bool=a.cM:=Ap _ false;have e2:a.df.N.map pF=a.cW:=by
  unfold Da.cW;rw[Ap _ [],show a.df.N.length=a.n by simp[Da.df,h.nN]];refine dy fun q hq=> ?_;have dB:q<a.N.length:=by rw[h.nN];exact hq
  unfold pF nH;rw[show a.df.N.getD q []=sK (a.N.getD q []) by simp[Da.df,dB],Ap _ 0];have hl:(sK (a.N.getD q [])).length=a.L:=by simp only[sK,cY];exact Da.UR h hq
  rw[hl];exact congrArg _ (dy fun x _=>by rw[aeh];rfl)
 rw[e1,e2];rfl
theorem Da.DA {a:Da} {q:Nat} (hq:q<a.n):idx a.cM (q:Int)=some (.bool (a.fin q)):=qT hq
theorem Da.Hq {a:Da} {q:Nat} (hq:q<a.n):idx a.cW (q:Int)=some (nH a.L (a.nx q)):=qT hq
theorem DB {L x:Nat} {f:Nat→Nat} (hx:x<L):idx (tab L fun x=>iV (f x)) (x:Int)=some (iV (f x)):=qT hx
theorem oM {a:Da} (h:a.Ok):CC qs (eY a)=some [.int .i64 0]:=by
 have:=aq3 h.aei;rwa [h.val,h.leaves] at this
theorem ajr {a:Da} (h:a.Ok):CC xA (eY a)=some [.int .i64 0]:=by
 have:=aq6 h.aei;rwa [h.val,h.leaves] at this
def lets (w:List UInt8):List Nat:=w.map fun b=>b.toNat-97
theorem aek {w:List UInt8}:(lets w).length=w.length:=by simp[lets]
theorem arb {w:List UInt8} {i:Nat} (hi:i<w.length) (h:0≤Ho w i):(((lets w).getD i 0:Nat):Int)=Ho w i:=by
 unfold lets Ho at*
 rw[cP (by simpa using hi),cP hi] at*
 simp only[Eg];omega
theorem Hp.WL {w:List UInt8} {L:Nat} (h:Hp w (L:Int)):WL L (lets w):=fun x hx=>by
 obtain ⟨i,hi,rfl⟩:=List.getElem_of_mem hx;rw[aek] at hi;obtain ⟨h1,h2⟩:=h.2.2.2 i hi;have:=arb hi h1;rw[cP (by rw[aek];exact hi)] at this;omega
section
variable {a:Da} (h:a.Ok) {w:List UInt8} (hw:Hp w (a.L:Int)) {q:Nat} (hq:q<a.n)
include h hw hq
end
section
variable {α:Type} (ke:α→V)
def fK (i:Nat):List α→List V
 | []=>[]
 | a::S=> .bd [ke a,iV (i:Int)]::fK (i+1) S
where iV (n:Int):V:= .int .i64 n
end
theorem Hr {α:Type} {ke:α→V}: ∀(S:List α) (i:Nat),(fK ke i S).length=S.length
 | [],_=>rfl
 | a::S,i=>by simp[fK,Hr S (i+1)]
section
variable {α:Type} [DecidableEq α] {ke:α→V}
variable (hk: ∀a b,iG (ke a) (ke b)=decide (a=b))
include hk
theorem Nv (x:α): ∀(S:List α) (i:Nat),fZ (ke x) (fK ke i S)=decide (x∈S)
 | [],_=>by simp[fK,fZ]
 | a::S,i=>by
  have c: ∀(p q:V),(V.bd [p,q]).comp 0=p:=fun p q=>rfl;rw[fK,fZ,c,hk,Nv x S (i+1)];rw[wZ];simp
theorem Nw (x:α) (z:V): ∀(S:List α) (i:Nat),x∈S→jO (ke x) (fK ke i S) z= .int .i64 ((i+S.idxOf x:Nat):Int)
 | [],_,h=>by cases h
 | a::S,i,h=>by
  have c: ∀(p q:V),(V.bd [p,q]).comp 0=p:=fun p q=>rfl;have c1: ∀(p q:V),(V.bd [p,q]).comp 1=q:=fun p q=>rfl;rw[fK,jO,c,c1,hk];by_cases e:x=a
  ·subst e;rw[cq rfl];simp[fK.iV]
  ·rw[c8 e,cond_false,Nw x z S (i+1) ((fY.1 h).resolve_left e),show (a::S).idxOf x=S.idxOf x+1 from by rw[List.idxOf_cons,show (a==x)=false from uV.2 fun h=>e h.symm];rfl];congr 2;omega
theorem Nx (x:α): ∀(S:List α) (i:Nat),x∉S→iH (ke x) (.int .i64 ((i+S.length:Nat):Int)) (fK ke i S)=fK ke i (S++[x])
 | [],i,_=>by simp[fK,iH,fK.iV]
 | a::S,i,h=>by
  have c: ∀(p q:V),(V.bd [p,q]).comp 0=p:=fun p q=>rfl;have e:x≠a:=fun e=>h (by simp[e]);rw[fK,iH,c,hk,c8 e,cond_false,List.cons_append,fK];congr 1;have:=Nx x S (i+1) fun hx=>h (by simp[hx]);rw[←this];simp only[List.length_cons];congr 3;omega
end
theorem arc (a b:Nat):iG (.int .i64 (a:Int)) (.int .i64 (b:Int))=decide (a=b):=by
 simp only[iG,V.cells,ph,u7,Bool.and_true];rw[wZ];simp;omega
theorem ard (a b:Nat×Nat):iG (.agg [.int .i64 (a.1:Int),.int .i64 (a.2:Int)]) (.agg [.int .i64 (b.1:Int),.int .i64 (b.2:Int)])=decide (a=b):=by
 simp only[iG,V.cells,ph,u7,Bool.and_true];rw[wZ];simp[Prod.ext_iff];omega
theorem Aq {n:Nat} (h:n≤1000000000000):eF .i64 (n:Int)=true:=by
 have e1:IntKind.min .i64= -9223372036854775808:=by decide
 have e2:IntKind.max .i64=9223372036854775807:=by decide
 unfold eF;rw[e1,e2];exact ki.2 ⟨cq (by omega),cq (by omega)⟩
theorem ael {α:Type} [DecidableEq α] {S:List α} {a:α}:(cJ S a).idxOf a=if a∈S then S.idxOf a else S.length:=by
 unfold cJ;split
 ·rfl
 ·rename_i h;rw[Bq,aC h];simp
noncomputable def aem (C:af) (q x ed ee:Int) (kS kg:LV):Option LV:=
 (idx kg q).bind fun x1=>
 (idx x1.toList x).bind fun x2=>
 some [V.int .i64 x2.toInt,V.int .i64 ed,V.int .i64 ee,.list ak kS,.list ag kg]
theorem are {q x ed ee:Int} {kS kg:LV} {r:Option LV} (h:aem CC q x ed ee kS kg=r):CC wg [V.int .i64 q,V.int .i64 x,V.int .i64 ed,V.int .i64 ee,.list ak kS,.list ag kg]=r:=bC (L:=bB) au h
noncomputable def aen (C:af) (q tm tn:Int) (qU tp:LV):Option LV:=
 (idx qU q).bind fun x1=>
 some [.bool x1.toBool,V.int .i64 tm,V.int .i64 tn,.list ak qU,.list ag tp]
theorem arf {q tm tn:Int} {qU tp:LV} {r:Option LV} (h:aen CC q tm tn qU tp=r):CC wh [V.int .i64 q,V.int .i64 tm,V.int .i64 tn,.list ak qU,.list ag tp]=r:=bC (L:=bB) au h
noncomputable def aeo (C:af) (x:Int) (ba:LV):Option LV:=
 bif eF .i64 x&&true then
  bif eF .i64 x&&true then
  bif Nat.ble ((ba.length+([V.int .i64 x]:LV).length)*8) aX then
   some [V.int .i64 (ba.length:Int),.list ab (ba++([V.int .i64 x]:LV)),.list jW (iH (V.int .i64 x) (V.int .i64 (ba.length:Int)) ([]:LV))]
  else none
  else none
 else none
theorem arh {x:Int} {ba:LV} {r:Option LV} (h:aeo CC x ba=r):CC Gt [V.int .i64 x,.list ab ba]=r:=bC (L:=bB) au h
noncomputable def aep (C:af) (x:Int) (ba aI:LV):Option LV:=
 bif eF .i64 x&&true then
  bif !(fZ (V.int .i64 x) aI) then
  bif eF .i64 x&&true then
   bif Nat.ble ((ba.length+([V.int .i64 x]:LV).length)*8) aX then
   some [V.int .i64 (ba.length:Int),.list jW (iH (V.int .i64 x) (V.int .i64 (ba.length:Int)) aI),.list ab (ba++([V.int .i64 x]:LV))]
   else none
  else none
  else
  some [V.int .i64 ((jO (V.int .i64 x) aI (V.int .i64 0)).toInt),.list jW aI,.list ab ba]
 else none
theorem ari {x:Int} {ba aI:LV} {r:Option LV} (h:aep CC x ba aI=r):CC Sw [V.int .i64 x,.list ab ba,.list jW aI]=r:=bC (L:=bB) au h
noncomputable def Hs (C:af) (aO i state t36 qV qW bj bt:Int) (aU aF bR bL:LV) (t37 g9 hY:Int) (ia ib rows aP bm:LV) {β:Type} (kn:(Int×Int×Int×LV×LV×LV×LV×LV)→Option β) (kr:(Int×Bool×Int×Int×LV×LV×LV×LV×LV)→Option β):Option β:=
 bif decide (t37<t36) then
  (C wg [V.int .i64 state,V.int .i64 t37,V.int .i64 g9,V.int .i64 hY,.list ak ia,.list ag ib]).bind fun r3=>
  (C Sw [V.int .i64 ((V.nth r3 0).toInt),.list ab aP,.list jW bm]).bind fun r4=>
  aM rows t37 fun x5=>
  kn (wrap .i64 (t37+1),(V.nth (r3.drop 1) 0).toInt,(V.nth ((r3.drop 1).drop 1) 0).toInt,(V.nth (((r3.drop 1).drop 1).drop 1) 0).toList,(V.nth ((((r3.drop 1).drop 1).drop 1).drop 1) 0).toList,bn rows t37 (V.int .i64 ((V.nth r4 0).toInt)),(V.nth ((r4.drop 1).drop 1) 0).toList,(V.nth (r4.drop 1) 0).toList)
 else
  kr (t37,decide (t37<t36),g9,hY,ia,ib,rows,aP,bm)
noncomputable def Ny (C:af) (aO i state t36 qV qW bj bt:Int) (aU aF bR bL:LV):=un fun t37=>un fun g9=>un fun hY=>un fun ia=>un fun ib=>un fun rows=>un fun aP bm=>Hs C aO i state t36 qV qW bj bt aU aF bR bL t37 g9 hY ia ib rows aP bm (fun y=>some (Sum.inl y)) (fun r=>some (Sum.inr r))
noncomputable def Ht (C:af) (aO qV qW bj bt:Int) (aW aU:LV) (i g9 hY:Int) (ia ib aF aP bm bR:LV) {β:Type} (kn:(Int×Int×Int×LV×LV×LV×LV×LV×LV)→Option β) (kr:((Int×Int×Int×LV×LV×Int×Int×LV×LV×LV) ⊕ (Int×Bool×Int×Int×LV×LV×LV×LV×LV×LV))→Option β):Option β:=
 bif decide (i<(aF.length:Int)) then
  aM aF i fun x2=>
  bif (decide (0≤aO))&&((decide (aO≤aO))&&(Nat.ble ((aO.toNat)*8) aX)) then
  (Loop (Ny C aO i x2.toInt ((List.replicate (aO.toNat) (V.int .i64 0)).length:Int) qV qW bj bt aW aU bm bR) (0,g9,hY,ia,ib,List.replicate (aO.toNat) (V.int .i64 0),aF,aP)).bind (un fun jz=>un fun (mL:Bool)=>un fun Hu=>un fun Hv=>un fun (Hw:LV)=>un fun (Hy:LV)=>un fun (aeq:LV)=>un fun (DC:LV) (pE:LV)=>
   bif decide ((DC.length:Int)>512) then
    kr (.inl (3,Hu,Hv,Hw,Hy,0,0,([]:LV),([]:LV),([]:LV)))
   else
    bif Nat.ble ((bR.length+([.list ab aeq]:LV).length)*24) aX then
    (C wh [V.int .i64 x2.toInt,V.int .i64 Hu,V.int .i64 Hv,.list ak Hw,.list ag Hy]).bind fun xB=>
    bif Nat.ble ((bm.length+([.bool ((V.nth xB 0).toBool)]:LV).length)*1) aX then
     kn (wrap .i64 (i+1),(V.nth (xB.drop 1) 0).toInt,(V.nth ((xB.drop 1).drop 1) 0).toInt,(V.nth (((xB.drop 1).drop 1).drop 1) 0).toList,(V.nth ((((xB.drop 1).drop 1).drop 1).drop 1) 0).toList,DC,pE,bm++([.bool ((V.nth xB 0).toBool)]:LV),bR++([.list ab aeq]:LV))
    else none
    else none)
  else none
 else
  kr (.inr (i,decide (i<(aF.length:Int)),g9,hY,ia,ib,aF,aP,bm,bR))
noncomputable def Nz (C:af) (aO qV qW bj bt:Int) (aW aU:LV):=un fun i=>un fun g9=>un fun hY=>un fun ia=>un fun ib=>un fun aF=>un fun aP=>un fun bm bR=>Ht C aO qV qW bj bt aW aU i g9 hY ia ib aF aP bm bR (fun y=>some (Sum.inl y)) (fun r=>some (Sum.inr r))
noncomputable def aer (C:af):cD:=bI 161 TQ [EQ,EQ,EQ,EQ,H1,H1,H1,H1,H1,EQ,EQ,EQ,EQ,H1,EQ,EQ,H1,H1,EQ,EQ] [[1,2,3,4,0,0,0,0,0,0,10,11,12,13,0,15,16,0,0,19,20]] (@Hs C) (bI 81 TR [EQ,H1,H1,H1,H1,H1,EQ,EQ,EQ,EQ,EQ,EQ,H1,H1,H1,H1] [[0,0,0,0,0,0,0,0,0,0],[1,0,0,0,0,0,0,7,8,9,10,11,12,0,0,0,0]] (@Ht C) bB)
theorem arj (C:af):bD C (aer C) 73 (Lp [1,1,1,1,0,1,0,0,1,0,0,1,1,0,1,0,0] 73):=bJ TQ [EQ,EQ,EQ,EQ,H1,H1,H1,H1,H1,EQ,EQ,EQ,EQ,H1,EQ,EQ,H1,H1,EQ,EQ] [[1,2,3,4,0,0,0,0,0,0,10,11,12,13,0,15,16,0,0,19,20]] (@Hs C) (bq au)
theorem ark (C:af):bD C (aer C) 73 (Lp [1,1,1,1,0,1,0,0] 73):=bJ TR [EQ,H1,H1,H1,H1,H1,EQ,EQ,EQ,EQ,EQ,EQ,H1,H1,H1,H1] [[0,0,0,0,0,0,0,0,0,0],[1,0,0,0,0,0,0,7,8,9,10,11,12,0,0,0,0]] (@Ht C) (bq (bE (arj C) au))
noncomputable def aes (C:af) (aO start g9 hY:Int) (ia ib:LV):Option LV:=
 (C Gt [V.int .i64 start,.list ab ([]:LV)]).bind fun r1=>
 (Loop (Nz C aO 0 0 aO 0 ([]:LV) ([]:LV)) (0,g9,hY,ia,ib,(V.nth (r1.drop 1) 0).toList,(V.nth ((r1.drop 1).drop 1) 0).toList,([]:LV),([]:LV))).bind (fg (un fun zf=>un fun pY=>un fun tq=>un fun (qw:LV)=>un fun (pG:LV)=>un fun arl=>un fun arn=>un fun (rY:LV)=>un fun (sL:LV) (aro:LV)=>
  some [V.int .i64 arl,V.int .i64 arn,V.int .i64 zf,V.int .i64 pY,V.int .i64 tq,.list ak qw,.list ag pG,.list ak rY,.list ag sL,.list ab aro]) (un fun azE=>un fun (azF:Bool)=>un fun arp=>un fun arq=>un fun (ars:LV)=>un fun (art:LV)=>un fun (Hz:LV)=>un fun (NA:LV)=>un fun (Ar:LV) (HA:LV)=>
  some [V.int .i64 aO,V.int .i64 0,V.int .i64 0,V.int .i64 arp,V.int .i64 arq,.list ak ars,.list ag art,.list ak Ar,.list ag HA,.list ab Hz]))
theorem aru {aO start g9 hY:Int} {ia ib:LV} {r:Option LV} (h:aes CC aO start g9 hY ia ib=r):CC Mn [V.int .i64 aO,V.int .i64 start,V.int .i64 g9,V.int .i64 hY,.list ak ia,.list ag ib]=r:=bC (bE (ark CC) au) h
noncomputable def HB (C:af) (t31 ed ee bO bP:Int) (uK aW aU aF aP:LV) (t32:Int) (numbers:LV) {β:Type} (kn:(Int×LV)→Option β) (kr:(Int×Bool×LV)→Option β):Option β:=
 bif decide (t32<t31) then
  aM numbers t32 fun x3=>
  kn (wrap .i64 (t32+1),bn numbers t32 (V.int .i64 (-1)))
 else
  kr (t32,decide (t32<t31),numbers)
noncomputable def NB (C:af) (t31 ed ee bO bP:Int) (uK aW aU aF aP:LV):=un fun t32 numbers=>HB C t31 ed ee bO bP uK aW aU aF aP t32 numbers (fun y=>some (Sum.inl y)) (fun r=>some (Sum.inr r))
noncomputable def HC (C:af) (t40 ed ee bO bP:Int) (As aW aU aF aP:LV) (t41:Int) (numbers:LV) {β:Type} (kn:(Int×LV)→Option β) (kr:(Int×Bool×LV)→Option β):Option β:=
 bif decide (t41<t40) then
  aM As t41 fun x7=>
  bif (decide (0≤x7.toInt))&&(decide (x7.toInt<(numbers.length:Int))) then
  (numbers[(x7.toInt:Int).toNat]?).bind fun x8=>
  kn (wrap .i64 (t41+1),bn numbers (x7.toInt) (V.int .i64 t41))
  else none
 else
  kr (t41,decide (t41<t40),numbers)
noncomputable def NC (C:af) (t40 ed ee bO bP:Int) (As aW aU aF aP:LV):=un fun t41 numbers=>HC C t40 ed ee bO bP As aW aU aF aP t41 numbers (fun y=>some (Sum.inl y)) (fun r=>some (Sum.inr r))
noncomputable def aet (C:af):cD:=bI 97 TB [EQ,H1,EQ,EQ,EQ,EQ,EQ,H1,EQ,EQ,EQ,EQ] [[1,0,0,3,4,5,6,7,0,9,10,11,12]] (@HB C) (bI 177 TC [EQ,H1,EQ,EQ,EQ,EQ,H1,EQ,EQ,EQ,EQ,EQ] [[1,0,0,3,4,5,6,0,8,9,10,11,12]] (@HC C) bB)
theorem arv (C:af):bD C (aet C) 52 (Lp [1,1,1,1,0,1,0,0] 52):=bJ TB [EQ,H1,EQ,EQ,EQ,EQ,EQ,H1,EQ,EQ,EQ,EQ] [[1,0,0,3,4,5,6,7,0,9,10,11,12]] (@HB C) (bq au)
theorem arw (C:af):bD C (aet C) 52 (Lp [1,1,1,1,1,0,1,0,0] 52):=bJ TC [EQ,H1,EQ,EQ,EQ,EQ,H1,EQ,EQ,EQ,EQ,EQ] [[1,0,0,3,4,5,6,0,8,9,10,11,12]] (@HC C) (bq au)
noncomputable def aeu (C:af) (c6 db:Int) (cE c7:LV):Option LV:=
 (C qs [V.int .i64 c6,V.int .i64 db,.list ak cE,.list ag c7]).bind fun r1=>
 bif (((V.nth r1 0).toInt):Int) != 0 then
  some [V.int .i64 0,V.int .i64 0,.list ak ([]:LV),.list ag ([]:LV),.list ab ([]:LV)]
 else
  (C Mn [V.int .i64 c6,V.int .i64 db,V.int .i64 c6,V.int .i64 db,.list ak cE,.list ag c7]).bind fun r2=>
  bif (decide (0≤(((V.nth (((r2.drop 3).drop 1).drop 1) 0).toList).length:Int)))&&((decide ((((V.nth (((r2.drop 3).drop 1).drop 1) 0).toList).length:Int)≤(((V.nth (((r2.drop 3).drop 1).drop 1) 0).toList).length:Int)))&&(Nat.ble ((((((V.nth (((r2.drop 3).drop 1).drop 1) 0).toList).length:Int):Int).toNat)*8) aX)) then
  (Loop (NB C ((List.replicate (((((V.nth (((r2.drop 3).drop 1).drop 1) 0).toList).length:Int):Int).toNat) (V.int .i64 0)).length:Int) 0 0 ((V.nth r2 0).toInt) ((V.nth (r2.drop 1) 0).toInt) ((V.nth ((((r2.drop 3).drop 4).drop 1).drop 1) 0).toList) ([]:LV) ([]:LV) ((V.nth ((r2.drop 3).drop 4) 0).toList) ((V.nth (((r2.drop 3).drop 4).drop 1) 0).toList)) (0,List.replicate (((((V.nth (((r2.drop 3).drop 1).drop 1) 0).toList).length:Int):Int).toNat) (V.int .i64 0))).bind (un fun lx=>un fun (kC:Bool) (arx:LV)=>
   (Loop (NC C (((V.nth ((((r2.drop 3).drop 4).drop 1).drop 1) 0).toList).length:Int) 0 0 ((V.nth r2 0).toInt) ((V.nth (r2.drop 1) 0).toInt) ((V.nth ((((r2.drop 3).drop 4).drop 1).drop 1) 0).toList) ([]:LV) ([]:LV) ((V.nth ((r2.drop 3).drop 4) 0).toList) ((V.nth (((r2.drop 3).drop 4).drop 1) 0).toList)) (0,arx)).bind (un fun uJ=>un fun (U0:Bool) (ary:LV)=>
    some [V.int .i64 ((V.nth r2 0).toInt),V.int .i64 ((V.nth (r2.drop 1) 0).toInt),.list ak ((V.nth ((r2.drop 3).drop 4) 0).toList),.list ag ((V.nth (((r2.drop 3).drop 4).drop 1) 0).toList),.list ab ary]))
  else none
theorem arz {c6 db:Int} {cE c7:LV} {r:Option LV} (h:aeu CC c6 db cE c7=r):CC CT [V.int .i64 c6,V.int .i64 db,.list ak cE,.list ag c7]=r:=bC (bE (arv CC) (bE (arw CC) au)) h
def nV (q:Nat):V:= .int .i64 (q:Int)
def nS (S:List Nat):List V:=S.map nV
def mS (S:List Nat):List V:=fK nV 0 S
theorem U3 (a b:Nat):iG (nV a) (nV b)=decide (a=b):=arc a b
theorem dC {S:List Nat}:(nS S).length=S.length:=by simp[nS]
theorem xx {S:List Nat} {i:Nat} (h:i<S.length):(nS S)[i]? =some (nV S[i]):=by simp[nS,h]
theorem arA {x:Nat} (hx:x≤1000000):CC Gt [nV x,.list ab []]=some [nV 0,.list ab (nS [x]),.list jW (mS [x])]:=by
 refine arh ?_;unfold aeo;rw[Aq (by omega)];exact bT rfl (bT rfl (bT (cap (by simp) (by omega)) rfl))
theorem arB {S:List Nat} {x:Nat} (hx:x≤1000000) (hl:S.length≤1000000):CC Sw [nV x,.list ab (nS S),.list jW (mS S)]=some [nV ((cJ S x).idxOf x),.list jW (mS (cJ S x)),.list ab (nS (cJ S x))]:=by
 refine ari ?_;unfold aep;have e1:=Nv U3 x S 0;rw[Aq (by omega)];refine bT rfl ?_;rw[ael];by_cases h:x∈S
 ·refine bF (by rw[show fZ (.int .i64 (x:Int)) (mS S)=true from e1.trans (cq h)];rfl) ?_;have e2:=Nw U3 x (.int .i64 0) S 0 h;rw[show jO (.int .i64 (x:Int)) (mS S) (.int .i64 0)=_ from e2,aB h,dq,show cJ S x=S by unfold cJ;rw[aB h]];rfl
 ·refine bT (by rw[show fZ (.int .i64 (x:Int)) (mS S)=false from e1.trans (c8 h)];rfl) ?_;refine bT rfl ?_;refine bT (cap (by rw[dC];simp;omega) (by omega)) ?_;have e2:=Nx U3 x S 0 h;rw[dq] at e2;rw[dC,show iH (.int .i64 (x:Int)) (.int .i64 (S.length:Int)) (mS S)=_ from e2,aC h,show cJ S x=S++[x] by unfold cJ;rw[aC h]];simp[nS,nV,mS]
theorem arC {a:Da} {q x:Nat} (hq:q<a.n) (hx:x<a.L):CC wg (nV q::nV x::eY a)=some (nV (a.nx q x)::eY a):=by
 refine are ?_;unfold aem;refine bs (Da.Hq hq) ?_;rw[Dz];exact bs (DB hx) rfl
theorem arD {a:Da} {q:Nat} (hq:q<a.n):CC wh (nV q::eY a)=some (.bool (a.fin q)::eY a):=by
 refine arf ?_;unfold aen;exact bs (Da.DA hq) rfl
section
variable {a:Da} (h:a.Ok)
include h
theorem arE {S U:List Nat} {q:Nat} (hq:q<a.n) (hS: ∀s∈S,s<a.n) (hSn:S.length≤1000) (hp:b9 a.nx S q a.L <+: U) {i c1 c2:Int} {l1 l2 l3 l4:List V}:
  Loop (Ny CC (a.L:Int) i (q:Int) ((List.replicate (((a.L:Nat):Int).toNat) (V.int .i64 0)).length:Int) c1 c2 (a.L:Int) 0 l1 l2 l3 l4) (0,(a.L:Int),(a.st:Int),a.cM,a.cW,List.replicate (((a.L:Nat):Int).toNat) (V.int .i64 0),nS S,mS S)=
   some ((a.L:Int),false,(a.L:Int),(a.st:Int),a.cM,a.cW,(tab a.L fun x=>nV (U.idxOf (a.nx q x))),nS (b9 a.nx S q a.L),mS (b9 a.nx S q a.L)):=by
 have h6:=h.l6;rw[Int.toNat_natCast,p5,fT];refine (gz a.L (fun x=>((x:Int),(a.L:Int),(a.st:Int),a.cM,a.cW,(tab a.L fun j=>if j<x then nV (U.idxOf (a.nx q j)) else nV 0),nS (b9 a.nx S q x),mS (b9 a.nx S q x))) _ (fun x hx=> ?_) ?_)
 ·simp only[Ny,Hs,un,aM,bn];refine bT (bp hx) ?_;refine bs (arC hq hx) ?_;have hT:(b9 a.nx S q x).length≤1000000:=by
   have: ∀x,(b9 a.nx S q x).length≤S.length+x:=by
    intro x
    induction x with
    | zero=>exact aw _
    | succ x ih=>rw[b9,Dw];split<;>omega
   have:=this x;omega
  refine bs (arB (S:=b9 a.nx S q x) (by have:=h.kR hq hx;have:=h.dH;omega) hT) ?_;refine (mR hx).trans ?_;rw[bz (by omega),Int.toNat_natCast,mn];have e:(cJ (b9 a.nx S q x) (a.nx q x)).idxOf (a.nx q x)=U.idxOf (a.nx q x):=(Am ((Al S q (show x+1≤a.L by omega)).trans hp) Ak).symm;show some (Sum.inl _)=some (Sum.inl _);refine congrArg (fun x=>some (Sum.inl x)) ?_;refine cx rfl (cx rfl (cx rfl (cx rfl (cx rfl (cx ?_ (cx rfl rfl))))));refine dy fun j _=> ?_;by_cases hj:j=x
  ·rw[aB hj,da,hj,←e];rfl
  ·rw[aC hj];by_cases dF:j<x
   ·rw[aB dF,da]
   ·rw[aC dF,dh]
 ·simp only[Ny,Hs,un,aM,bn];refine bF (aV (aw _)) ?_;rw[aV (aw _)];have:(tab a.L fun j=>if j<a.L then nV (U.idxOf (a.nx q j)) else nV 0)=tab a.L fun j=>nV (U.idxOf (a.nx q j)):=dy fun j hj=>aB hj;rw[this]
theorem arF:CC Mn ([nV a.L,nV a.st]++eY a)=some ([nV a.L,nV 0,.int .i64 0]++(eY a++[.list ak a.trim.cM,.list ag a.trim.cW,.list ab (nS (aA a.L a.nx a.st a.n))])):=by
 have h6:=h.l6;have hm:=h.dH;have hd:=h.wA a.n;refine aru ?_;unfold aes;refine bs (arA (by have:=h.s;omega)) ?_;have key:Loop (Nz CC (a.L:Int) 0 0 (a.L:Int) 0 ([]:List V) ([]:List V)) (0,(a.L:Int),(a.st:Int),a.cM,a.cW,nS [a.st],mS [a.st],([]:List V),([]:List V))=
   some (.inr (((aA a.L a.nx a.st a.n).length:Int),false,(a.L:Int),(a.st:Int),a.cM,a.cW,nS (aA a.L a.nx a.st a.n),mS (aA a.L a.nx a.st a.n),a.trim.cM,a.trim.cW)):=by
  refine (gz (aA a.L a.nx a.st a.n).length (fun i=>((i:Int),(a.L:Int),(a.st:Int),a.cM,a.cW,nS (aA a.L a.nx a.st i),mS (aA a.L a.nx a.st i),(tab i fun j=>V.bool (a.trim.fin j)),(tab i fun j=>nH a.L (a.trim.nx j)))) _ (fun i hi=> ?_) ?_)
  ·have qB:=Np hd hi;have U4:(aA a.L a.nx a.st i)[i]=(aA a.L a.nx a.st a.n)[i]:=(rX (show i≤a.n by omega)).getElem qB;have hq:(aA a.L a.nx a.st a.n)[i]<a.n:=h.Hj _ _ (dr hi);have hlen:(aA a.L a.nx a.st i).length≤512:=mX (h.wA i) hm;have azG:(aA a.L a.nx a.st (i+1)).length≤512:=mX (h.wA (i+1)) hm;have rA:=Hh hd hi;simp only[Nz,Ht,un,aM];refine bT (cq (by rw[dC];omega)) ?_;refine (bY (xx qB)).trans ?_;refine bT (gB (by omega) (by omega)) ?_;rw[U4];refine bs (arE h hq (h.Hj i) (by omega) (U:=aA a.L a.nx a.st a.n) (by rw[←rA];exact rX (by omega))) ?_;rw[←rA];refine bF (c8 (by rw[dC];omega)) ?_;refine bT (cap (by rw[fT];simp;omega) (by omega)) ?_;refine bs (arD hq) ?_;refine bT (cap (by rw[fT];simp;omega) (by omega)) ?_;rw[bz (by omega),Dy,Dy];have e1:a.trim.fin i=a.fin (aA a.L a.nx a.st a.n)[i]:=UU hi;have e2:nH a.L (a.trim.nx i)= .list ab (tab a.L fun x=>nV ((aA a.L a.nx a.st a.n).idxOf (a.nx (aA a.L a.nx a.st a.n)[i] x))):=by
    unfold nH;refine congrArg _ (dy fun x hx=> ?_);rw[show a.trim.nx i x=_ from Hi hi hx];rfl
   rw[e1,e2];rfl
  ·simp only[Nz,Ht,un,aM];rw[UX hd,dC];refine bF (aV (aw _)) ?_;rw[aV (aw _)];have e3:a.trim.n=(aA a.L a.nx a.st a.n).length:=tk;unfold Da.cM Da.cW;rw[e3];rfl
 refine bs key ?_;rfl
end
def oW (U:List Nat) (n:Nat):List V:=tab n fun q=>if q∈U then nV (U.idxOf q) else .int .i64 (-1)
theorem arG {U:List Nat} {n i:Nat} (hU:U.Nodup) (hi:i<U.length):(tab n fun q=>if q∈U.take i then nV (U.idxOf q) else V.int .i64 (-1)).set U[i] (.int .i64 (i:Int))=tab n fun q=>if q∈U.take (i+1) then nV (U.idxOf q) else V.int .i64 (-1):=by
 rw[mn];refine dy fun q _=> ?_;have e:q∈U.take (i+1)↔q∈U.take i∨q=U[i]:=by rw[Pg hi,eD,fx]
 by_cases hq:q=U[i]
 ·rw[aB hq,aB (e.2 (.inr hq)),hq,hU.idxOf_getElem i hi];rfl
 ·rw[aC hq];by_cases h2:q∈U.take i
  ·rw[aB h2,aB (e.2 (.inl h2))]
  ·rw[aC h2,aC fun h3=>(e.1 h3).elim h2 hq]
theorem aev {a:Da} (h:a.Ok):CC CT (eY a)=some (eY a.trim++[.list ab (oW (aA a.L a.nx a.st a.n) a.n)]):=by
 have hm:=h.dH;have hU:=h.Hj a.n;have hle:=h.wA a.n;refine arz ?_;unfold aeu;refine bs (oM h) ?_;refine bF rfl ?_;refine bs (arF h) ?_;have e0:((V.nth (((([nV a.L,nV 0,V.int .i64 0]++(eY a++[V.list ak a.trim.cM,V.list ag a.trim.cW,V.list ab (nS (aA a.L a.nx a.st a.n))])).drop 3).drop 1).drop 1) 0).toList)=a.cM:=rfl;rw[e0,Da.Nu];refine bT (gB (by omega) (by omega)) ?_;rw[Int.toNat_natCast,p5,fT];generalize hUd:aA a.L a.nx a.st a.n=U at*
 have l1: ∀{c1 c2 c3 c4:Int} {s1 s2 s3 s4 s5:List V},Loop (NB CC (a.n:Int) c1 c2 c3 c4 s1 s2 s3 s4 s5) (0,tab a.n fun _=>V.int .i64 0)=some ((a.n:Int),false,tab a.n fun q=>if q∈U.take 0 then nV (U.idxOf q) else V.int .i64 (-1)):=by
  intro c1 c2 c3 c4 s1 s2 s3 s4 s5;refine (gz a.n (fun i=>((i:Int),(tab a.n fun j=>if j<i then V.int .i64 (-1) else V.int .i64 0))) _ (fun i hi=> ?_) ?_)
  ·simp only[NB,HB,un,aM,bn];refine bT (bp hi) ?_;refine (mR hi).trans ?_;rw[bz (by omega),Int.toNat_natCast,mn];refine congrArg (fun x=>some (Sum.inl (((i+1:Nat):Int),x))) (dy fun j _=> ?_);by_cases hj:j=i
   ·rw[aB hj,da]
   ·rw[aC hj];by_cases dF:j<i
    ·rw[aB dF,da]
    ·rw[aC dF,dh]
  ·simp only[NB,HB,un,aM,bn];refine bF (aV (aw _)) ?_;rw[aV (aw _)];refine congrArg (fun x=>some (Sum.inr ((a.n:Int),false,x))) (dy fun j hj=> ?_);rw[aB hj,List.take_zero,aC (by simp)]
 refine bs l1 ?_;simp only[un];have hUn:U.Nodup:=by rw[←hUd];exact Dx _
 have l2: ∀{c1 c2 c3 c4:Int} {s2 s3 s4 s5:List V},Loop (NC CC ((nS U).length:Int) c1 c2 c3 c4 (nS U) s2 s3 s4 s5) (0,tab a.n fun q=>if q∈U.take 0 then nV (U.idxOf q) else V.int .i64 (-1))=some ((U.length:Int),false,oW U a.n):=by
  intro c1 c2 c3 c4 s2 s3 s4 s5;rw[dC];refine (gz U.length (fun i=>((i:Int),(tab a.n fun q=>if q∈U.take i then nV (U.idxOf q) else V.int .i64 (-1)))) _ (fun i hi=> ?_) ?_)
  ·have hq:=hU U[i] (dr hi);simp only[NC,HC,un,aM,bn];refine bT (bp hi) ?_;refine (bY (xx hi)).trans ?_;refine (mR (i:=U[i]) hq).trans ?_;rw[bz (by omega)];refine congrArg (fun x=>some (Sum.inl (((i+1:Nat):Int),x))) ?_;exact arG hUn hi
  ·simp only[NC,HC,un,aM,bn];refine bF (aV (aw _)) ?_;rw[aV (aw _),wR];rfl
 refine bs l2 ?_;rfl
end Go.AM
