/-
  Functions of the program, lifted to plain data.
-/
import Derived.Test.YtbpldbfoleicgaaGreatDoorProg
import Derived.Tactics
import Derived.Tactics2
import Derived.StillTactics
import Derived.Laws.Pointers
import Derived.Lib.LazyBuf
import Derived.RegionTactic
import Derived.LoopTactic
import Derived.WalkKit
import Derived.Laws.Externs
import Derived.Lib.Builder
import Derived.Recover
import Derived.Test.YtbpldbfoleicgaaGreatDoorRows
import Derived.Lib.LaidTab
import Derived.LaidHandle
import Derived.MakeChecks
import Derived.Lay
import Derived.Test.YtbpldbfoleicgaaGreatDoorP4
set_option linter.unusedVariables false
set_option linter.unusedSimpArgs false
set_option linter.unusedSectionVars false
set_option maxRecDepth 100000
namespace Go.AM
open Go.IntKind (wrap)
open Go.Proofs
abbrev Px:FuncId:=3
abbrev J9:FuncId:=4
abbrev wI:FuncId:=5
abbrev Bv:FuncId:=6
abbrev yl:FuncId:=7
abbrev yF:FuncId:=8
abbrev JP:FuncId:=9
abbrev E6:FuncId:=10
abbrev J8:FuncId:=11
abbrev s7:FuncId:=12
abbrev s6:FuncId:=13
abbrev OZ:FuncId:=15
abbrev Lo:FuncId:=16
abbrev Lq:FuncId:=17
abbrev Cn:FuncId:=18
abbrev zh:FuncId:=19
abbrev Rh:FuncId:=20
abbrev ot:FuncId:=21
abbrev JV:FuncId:=22
abbrev J5:FuncId:=23
abbrev J7:FuncId:=24
abbrev EN:FuncId:=25
abbrev Ev:FuncId:=26
abbrev kG:FuncId:=27
abbrev JB:FuncId:=28
abbrev wG:FuncId:=29
abbrev Ri:FuncId:=30
abbrev Rj:FuncId:=31
abbrev Rk:FuncId:=32
abbrev Rl:FuncId:=33
abbrev Co:FuncId:=34
abbrev Rm:FuncId:=35
abbrev Lr:FuncId:=36
abbrev ak8:FuncId:=37
abbrev ak9:FuncId:=38
abbrev ala:FuncId:=39
abbrev aaA:FuncId:=40
abbrev alb:FuncId:=41
abbrev alc:FuncId:=42
abbrev JO:FuncId:=43
abbrev yD:FuncId:=44
abbrev Ls:FuncId:=45
abbrev pV:FuncId:=46
abbrev Bq:FuncId:=47
abbrev jC:FuncId:=48
abbrev uP:FuncId:=49
abbrev FT:FuncId:=50
abbrev ald:FuncId:=51
abbrev ale:FuncId:=52
abbrev Lt:FuncId:=53
abbrev alf:FuncId:=54
abbrev xe:FuncId:=55
abbrev xf:FuncId:=56
abbrev FU:FuncId:=57
abbrev Cp:FuncId:=58
abbrev Lu:FuncId:=59
abbrev alg:FuncId:=60
abbrev alh:FuncId:=61
abbrev ali:FuncId:=62
abbrev alj:FuncId:=63
abbrev xg:FuncId:=64
abbrev Cq:FuncId:=65
abbrev Bt:FuncId:=66
abbrev Lv:FuncId:=67
abbrev Lw:FuncId:=68
abbrev Bp:FuncId:=69
abbrev wO:FuncId:=70
abbrev Cr:FuncId:=71
abbrev Cs:FuncId:=72
abbrev FV:FuncId:=73
abbrev FW:FuncId:=74
abbrev alk:FuncId:=75
abbrev alm:FuncId:=76
abbrev aln:FuncId:=77
abbrev alo:FuncId:=78
abbrev alp:FuncId:=79
abbrev alq:FuncId:=80
abbrev Rn:FuncId:=81
abbrev Lx:FuncId:=82
abbrev vu:FuncId:=83
abbrev vw:FuncId:=84
abbrev Ct:FuncId:=85
abbrev alr:FuncId:=86
abbrev xh:FuncId:=87
abbrev Cu:FuncId:=88
abbrev Cv:FuncId:=89
abbrev Cw:FuncId:=90
abbrev Cx:FuncId:=91
abbrev Cy:FuncId:=92
abbrev Cz:FuncId:=93
abbrev als:FuncId:=94
abbrev Ly:FuncId:=95
abbrev LA:FuncId:=96
abbrev FX:FuncId:=97
abbrev LB:FuncId:=98
abbrev ga:FuncId:=99
abbrev na:FuncId:=100
abbrev lU:FuncId:=101
abbrev LC:FuncId:=102
abbrev LD:FuncId:=103
abbrev FY:FuncId:=104
abbrev LF:FuncId:=105
abbrev FZ:FuncId:=106
abbrev F0:FuncId:=107
abbrev F3:FuncId:=108
abbrev LG:FuncId:=109
abbrev aaB:FuncId:=110
abbrev fF:FuncId:=111
abbrev CA:FuncId:=112
abbrev F4:FuncId:=113
abbrev LH:FuncId:=114
abbrev xi:FuncId:=115
abbrev F5:FuncId:=116
abbrev F6:FuncId:=117
abbrev alu:FuncId:=118
abbrev alv:FuncId:=119
abbrev alw:FuncId:=120
abbrev alx:FuncId:=121
abbrev aly:FuncId:=122
abbrev alz:FuncId:=123
abbrev alA:FuncId:=124
abbrev alB:FuncId:=125
abbrev LI:FuncId:=126
abbrev F7:FuncId:=127
abbrev xj:FuncId:=128
abbrev CB:FuncId:=129
abbrev CD:FuncId:=130
abbrev LJ:FuncId:=131
abbrev xk:FuncId:=132
abbrev F8:FuncId:=133
abbrev F9:FuncId:=134
abbrev Ga:FuncId:=135
abbrev alC:FuncId:=136
abbrev alD:FuncId:=137
abbrev alE:FuncId:=138
abbrev alF:FuncId:=139
abbrev alG:FuncId:=140
abbrev Gb:FuncId:=141
abbrev LL:FuncId:=143
abbrev LM:FuncId:=144
abbrev LN:FuncId:=145
abbrev LO:FuncId:=146
abbrev Ro:FuncId:=147
abbrev LP:FuncId:=148
abbrev zi:FuncId:=149
abbrev aaC:FuncId:=150
abbrev LQ:FuncId:=152
abbrev mZ:FuncId:=153
abbrev Gc:FuncId:=154
abbrev Rp:FuncId:=155
abbrev alH:FuncId:=156
abbrev Rq:FuncId:=157
abbrev alI:FuncId:=158
abbrev alJ:FuncId:=159
abbrev alK:FuncId:=160
abbrev alL:FuncId:=161
abbrev zj:FuncId:=162
abbrev alM:FuncId:=163
abbrev alN:FuncId:=165
abbrev alO:FuncId:=166
abbrev alP:FuncId:=167
abbrev alQ:FuncId:=168
abbrev alR:FuncId:=169
abbrev alS:FuncId:=170
abbrev qX:FuncId:=171
abbrev LR:FuncId:=172
abbrev alT:FuncId:=173
abbrev cC:FuncId:=174
abbrev alU:FuncId:=175
abbrev CE:FuncId:=176
abbrev alV:FuncId:=178
abbrev alW:FuncId:=179
abbrev alX:FuncId:=180
abbrev alY:FuncId:=181
abbrev alZ:FuncId:=182
abbrev al0:FuncId:=183
abbrev al1:FuncId:=185
abbrev al2:FuncId:=186
abbrev al3:FuncId:=187
abbrev al4:FuncId:=188
abbrev al5:FuncId:=189
abbrev al6:FuncId:=190
abbrev al7:FuncId:=191
abbrev al8:FuncId:=192
abbrev al9:FuncId:=194
abbrev ama:FuncId:=195
abbrev amb:FuncId:=196
abbrev amc:FuncId:=197
abbrev amd:FuncId:=198
abbrev ame:FuncId:=199
abbrev amf:FuncId:=200
abbrev amg:FuncId:=201
abbrev ab:TypeId:=3
abbrev ar:TypeId:=4
abbrev Gd:TypeId:=5
abbrev bZ:TypeId:=9
abbrev ag:TypeId:=22
abbrev kH:TypeId:=23
abbrev cq:TypeId:=47
abbrev CF:TypeId:=78
abbrev Et:TypeId:=95
abbrev yj:TypeId:=98
abbrev ai:TypeId:=103
abbrev iq:TypeId:=105
abbrev cD:TypeId:=109
abbrev vy:TypeId:=121
abbrev fN:TypeId:=126
abbrev Ge:TypeId:=159
abbrev Gf:TypeId:=185
abbrev kP:TypeId:=202
abbrev dY:TypeId:=210
abbrev bA:TypeId:=223
abbrev Rr:Nat:=223
abbrev gv:Nat:=239
def LU:List V:=[.int .u8 0,.int .u8 1,.int .u8 56,.int .u8 2,.int .u8 57,.int .u8 49,.int .u8 28,.int .u8 3,.int .u8 61,.int .u8 58,.int .u8 42,.int .u8 50,.int .u8 38,.int .u8 29,.int .u8 17,.int .u8 4,.int .u8 62,.int .u8 47,.int .u8 59,.int .u8 36,.int .u8 45,.int .u8 43,.int .u8 51,.int .u8 22,.int .u8 53,.int .u8 39,.int .u8 33,.int .u8 30,.int .u8 24,.int .u8 18,.int .u8 12,.int .u8 5,.int .u8 63,.int .u8 55,.int .u8 48,.int .u8 27,.int .u8 60,.int .u8 41,.int .u8 37,.int .u8 16,.int .u8 46,.int .u8 35,.int .u8 44,.int .u8 21,.int .u8 52,.int .u8 32,.int .u8 23,.int .u8 11,.int .u8 54,.int .u8 26,.int .u8 40,.int .u8 15,.int .u8 34,.int .u8 20,.int .u8 31,.int .u8 10,.int .u8 25,.int .u8 14,.int .u8 19,.int .u8 9,.int .u8 13,.int .u8 8,.int .u8 7,.int .u8 6]
abbrev aa:VS:= .one (.int .i64)
abbrev ak:VS:= .one (.bool)
abbrev sq:VS:= .one (.nl ab)
abbrev aU:VS:= .one (.aC 0 0 0)
abbrev cY:VS:= .one (.list ag)
abbrev dr:VS:= .one (.list ab)
abbrev cv:VS:= .one (.aC 1 0 0)
abbrev dC:VS:= .one (.list cq)
abbrev iN:VS:= .one (.str)
abbrev cf:VS:= .one (.whole cq 0)
abbrev dk:VS:= .one (.aC 2 0 0)
abbrev qY:VS:= .one (.list ar)
abbrev me:VS:= .one (.whole ab 4)
abbrev dL:VS:= .one (.list vy)
abbrev lE:VS:= .one (.whole ab 3)
abbrev amh:VS:= .one (.whole CF 3)
abbrev qZ:VS:= .one (.list bA)
abbrev CG:VS:= .one (.whole ag 5)
abbrev po:VS:= .one (.whole ag 1)
abbrev jn:VS:= .one (.int .u64)
abbrev zk:VS:= .one (.whole ag 6)
abbrev xl:VS:= .one (.whole ag 2)
abbrev ami:VS:= .one (.whole CF 4)
abbrev zl:VS:= .one (.um)
abbrev np:VS:= .one (.whole ab 0)
abbrev Gg:VS:= .one (.cO cD 7)
abbrev sr:VS:= .one (.list ai)
abbrev amj:VS:= .one (.whole ar 5)
abbrev pq:VS:= .one (.whole ab 1)
abbrev zm:VS:= .one (.whole ag 7)
abbrev oB:VS:= .one (.aC 3 0 0)
abbrev Rs:VS:= .one (.whole ab 10)
abbrev aaD:VS:= .one (.whole ar 3)
abbrev Gh:VS:= .one (.list bZ)
abbrev Rt:VS:= .one (.whole ar 6)
abbrev vz:VS:= .one (.whole bZ 3)
abbrev aaE:VS:= .one (.whole ar 4)
abbrev Ru:VS:= .one (.whole ag 8)
abbrev xm:VS:= .one (.aC 5 0 0)
abbrev Rv:VS:= .one (.whole bZ 8)
abbrev Rw:VS:= .one (.whole ab 9)
abbrev xn:VS:= .one (.whole ag 12)
abbrev aaF:VS:= .one (.whole dY 6)
abbrev amk:VS:= .one (.whole ag 4)
abbrev Gi:VS:= .one (.whole cq 4)
abbrev zn:VS:= .one (.cO cD 3)
abbrev zo:VS:= .one (.aC 4 0 0)
abbrev LW:VS:= .one (.whole ag 9)
abbrev zp:VS:= .one (.whole ab 2)
abbrev aaG:VS:= .one (.whole vy 4)
abbrev CH:VS:= .one (.whole ag 13)
abbrev LX:VS:= .one (.whole cq 1)
abbrev Gj:VS:= .one (.whole ab 15)
abbrev CI:VS:= .one (.whole ar 0)
abbrev Gk:VS:= .one (.whole ab 16)
abbrev aml:VS:= .one (.whole Gd 2)
abbrev CJ:VS:= .one (.whole cq 5)
abbrev Gl:VS:= .one (.whole ar 11)
abbrev Rx:VS:= .one (.whole ab 20)
abbrev LY:VS:= .one (.whole ag 14)
abbrev Ry:VS:= .one (.whole dY 17)
abbrev CK:VS:= .one (.whole cq 3)
abbrev amm:VS:= .one (.whole ar 7)
abbrev zq:VS:= .one (.whole cq 6)
abbrev amn:VS:= .one (.whole ar 8)
abbrev LZ:VS:= .one (.whole ag 11)
abbrev Rz:VS:= .one (.whole ab 14)
abbrev aaH:VS:= .one (.whole ag 18)
abbrev aaI:VS:= .one (.whole ar 22)
abbrev aaJ:VS:= .one (.whole fN 7)
abbrev amo:VS:= .one (.whole CF 5)
abbrev L0:VS:= .one (.whole ag 3)
abbrev aaK:VS:= .one (.whole bZ 19)
abbrev RA:VS:= .one (.whole ab 17)
abbrev amp:VS:= .one (.whole Gd 3)
abbrev L3:VS:= .one (.list Gf)
abbrev CL:VS:= .one (.whole ar 10)
abbrev aaL:VS:= .one (.whole ag 10)
abbrev amq:VS:= .one (.whole ar 21)
abbrev amr:VS:= .one (.whole bZ 9)
abbrev ams:VS:= .one (.whole ar 12)
abbrev RB:VS:= .one (.whole ab 12)
abbrev RC:VS:= .one (.whole cq 2)
abbrev aaM:VS:= .one (.whole vy 2)
abbrev L4:VS:= .one (.whole ab 11)
abbrev aaN:VS:= .one (.whole ab 19)
abbrev aaO:VS:= .one (.whole ab 13)
abbrev aaP:VS:= .one (.whole ab 18)
abbrev amt:VS:= .one (.whole vy 5)
abbrev CM:VS:= .one (.int .u8)
abbrev RD:VS:= .one (.whole ab 5)
abbrev RE:VS:= .one (.whole bZ 0)
abbrev aaQ:VS:= .one (.nilS fN)
abbrev aaR:VS:= .one (.whole ag 16)
abbrev aaS:VS:= .one (.whole ag 15)
abbrev L5:VS:= .one (.whole vy 0)
abbrev amu:VS:= .one (.whole Gd 1)
abbrev amv:VS:= .one (.whole CF 0)
abbrev aaT:VS:= .one (.whole ar 2)
abbrev RF:VS:= .one (.whole iq 2)
abbrev RH:VS:= .one (.whole ab 6)
abbrev amw:VS:= .one (.whole ar 9)
abbrev aaU:VS:= .one (.whole kH 6)
abbrev RI:VS:= .one (.whole fN 8)
abbrev aaV:VS:= .one (.whole ar 23)
abbrev aaW:VS:= .one (.cO Ge 2)
abbrev RJ:VS:= .one (.whole CF 2)
abbrev RK:VS:= .one (.whole ai 2)
abbrev amx:VS:= .one (.whole ai 3)
abbrev aaX:VS:= .one (.whole yj 0)
abbrev aaY:VS:= .one (.whole ag 17)
abbrev aaZ:VS:= .one (.whole dY 18)
abbrev aa0:VS:= .one (.whole ab 21)
abbrev aa1:VS:= .one (.whole Et 0)
abbrev amy:VS:= .one (.whole bZ 18)
abbrev amz:VS:= .one (.whole dY 16)
abbrev amA:VS:= .one (.whole bZ 17)
abbrev amB:VS:= .one (.whole dY 15)
abbrev amC:VS:= .one (.whole bZ 16)
abbrev qh:VS:= .agg [.int .i64,.int .i64,.list cq]
abbrev qi:VS:= .agg [.int .i64,.int .i64,.list ai]
abbrev RL:VS:= .agg [.int .i64,.int .i64,.list ar,.list ag]
abbrev zr:VS:= .agg [.int .i64,.list ag,.list bZ,.list ab,.list ar,.list ar]
abbrev L6:VS:= .agg [.int .i64,.int .i64,.whole ar 0,.whole ag 1]
abbrev RM:VS:= .agg [.str]
abbrev aa2:VS:= .agg [.int .i64,.int .i64,.whole ar 1,.whole ag 2]
abbrev Gm:VS:= .agg [.int .i64,.int .i64,.list ai,.int .i64,.int .i64,.list ai]
abbrev amD:VS:= .agg [.int .i64,.int .i64,.list cq,.int .i64,.int .i64,.list cq,.bool]
abbrev amE:VS:= .agg [.int .i64,.bool]
abbrev amF:VS:= .agg [.int .i64,.int .i64,.whole cq 0]
abbrev vA:BS:= .var 81 [amh]
abbrev tK:BS:= .var 3 [aa]
abbrev xo:BS:= .var 52 [dr,aa]
abbrev qj:BS:= .var 47 [aa,aa,dC]
abbrev qk:BS:= .var 76 [iN]
abbrev lF:BS:= .var 26 [aa,aa,qY,cY]
abbrev py:BS:= .var 229 [cY,aa,sq,sq,sq,sq,sq,sq,sq,sq,sq,sq,sq]
abbrev zs:BS:= .var 81 [ami]
abbrev tL:BS:= .var 224 [ak,ak,ak,ak,ak,ak]
abbrev CN:BS:= .var 26 [aa,aa,amj,zk]
abbrev zt:BS:= .var 171 [iN,aa]
abbrev CO:BS:= .var 4 [ak]
abbrev zu:BS:= .var 26 [aa,aa,aaE,CG]
abbrev CP:BS:= .var 26 [aa,aa,Rt,zm]
abbrev L7:BS:= .var 26 [aa,aa,aaD,amk]
abbrev su:BS:= .var 58 [aa,cY,Gh,dr,qY,qY]
abbrev amG:BS:= .var 168 [aa,ak,po,xl,lE,me,CG,aaF,aa,Gg,Rv,Rw,Rs]
abbrev amH:BS:= .var 78 [aaG]
abbrev amI:BS:= .var 153 [zl,aml]
abbrev tM:BS:= .var 103 [aa,aa,sr]
abbrev amJ:BS:= .var 24 [cY]
abbrev RN:BS:= .var 26 [aa,aa,amm,Ru]
abbrev zw:BS:= .var 26 [aa,aa,amn,LW]
abbrev amK:BS:= .var 81 [amo]
abbrev amL:BS:= .var 190 [cv,qZ,qZ,cY,me]
abbrev amM:BS:= .var 190 [cv,qZ,qZ,cY,lE]
abbrev amN:BS:= .var 153 [zl,amp]
abbrev RO:BS:= .var 58 [aa,aaH,aaK,Rx,amq,aaI]
abbrev aa3:BS:= .var 88 [po,aaJ,aa]
abbrev aa4:BS:= .var 58 [aa,Ru,amr,Rs,Gl,ams]
abbrev amO:BS:= .var 22 [me]
abbrev amP:BS:= .var 23 [aaD]
abbrev RP:BS:= .var 262 [jn]
abbrev amQ:BS:= .var 78 [amt]
abbrev Gn:BS:= .var 147 [aa,aa,Gi,aa,aa,CJ,ak]
abbrev amR:BS:= .var 113 [aa,LX,xl,aa,zn]
abbrev amS:BS:= .var 190 [cv,qZ,qZ,cY,zp]
abbrev amT:BS:= .var 153 [zl,amu]
abbrev amU:BS:= .var 113 [aa,Gi,CG,aa,zn]
abbrev RQ:BS:= .var 26 [aa,aa,amw,aaL]
abbrev amV:BS:= .var 88 [xl,aaQ,aa]
abbrev amW:BS:= .var 129 [aa,ak,CH,LY,Gj,Gk,zk,Ry,aa]
abbrev L8:BS:= .var 103 [aa,aa,amx]
abbrev L9:BS:= .var 149 [aa,ak]
abbrev amX:BS:= .var 78 [aaM]
abbrev aa5:BS:= .var 26 [aa,aa,aaT,L0]
abbrev amY:BS:= .var 168 [aa,ak,xn,CH,Rz,Gj,aaR,Ry,aa,Gg,amy,aaN,Rx]
abbrev amZ:BS:= .var 168 [aa,ak,LZ,xn,aaO,Rz,aaS,amz,aa,Gg,amA,aaP,aaN]
abbrev RR:BS:= .var 223 [aa,aa]
abbrev am0:BS:= .var 168 [aa,ak,po,LZ,RB,aaO,LY,amB,aa,Gg,amC,RA,aaP]
abbrev am1:BS:= .var 113 [aa,Gi,CG,aa,.one (.cO cD 6)]
abbrev aa6:BS:= .var 129 [aa,ak,xn,CH,Rz,Gj,aaR,Ry,aa]
abbrev aa7:BS:= .var 58 [aa,aaL,.one (.whole bZ 11),RB,.one (.whole ar 13),.one (.whole ar 14)]
abbrev aa8:BS:= .var 129 [aa,ak,aaS,LW,Gk,RA,aaH,.one (.whole dY 19),aa]
abbrev aa9:BS:= .var 58 [aa,.one (.whole ag 20),.one (.whole bZ 21),.one (.whole ab 22),aaV,.one (.whole ar 24)]
abbrev am2:BS:= .var 129 [aa,ak,CH,LY,Gj,Gk,aaY,aaZ,aa]
abbrev am3:BS:= .var 58 [aa,.one (.whole ag 19),.one (.whole bZ 20),aa0,aaI,aaV]
abbrev aba:BS:= .var 98 [iN,ak,.one (.whole iq 3),aa,aa]
abbrev am4:BS:= .var 129 [aa,ak,xl,L0,me,RD,zk,.one (.whole dY 7),aa]
abbrev am5:BS:= .var 168 [aa,ak,Ru,LW,Rs,L4,xn,.one (.whole dY 13),aa,.one (.cO cD 14),.one (.whole bZ 15),Gk,RA]
abbrev am6:BS:= .var 204 [.one (.whole ab 7),.one (.cO kP 8)]
abbrev aX:BS:= .arr ab false
abbrev bf:BS:= .arr ag false
abbrev bS:BS:= .arr ar false
abbrev dG:BS:= .arr cq false
abbrev jo:BS:= .arr bZ false
abbrev oC:BS:= .arr dY false
abbrev n0:BS:= .arr vy false
abbrev Gp:BS:= .arr Gd false
abbrev vB:BS:= .arr fN false
abbrev zx:BS:= .arr ag true
abbrev xp:BS:= .arr ai false
abbrev RS:BS:= .arr ab true
abbrev zy:BS:= .arr iq false
abbrev Gq:BS:= .arr Et false
abbrev RT:BS:= .arr yj false
abbrev RU:BS:= .arr bA false
abbrev iv:BS:= .nest CF
abbrev lG:BS:= .nest ag
abbrev RW:BS:= .nest kH
abbrev bq:List BS:=[dG]
abbrev ib:List BS:=[tK]
abbrev mf:List BS:=[aX]
abbrev n7:List BS:=[zt]
abbrev pz:List BS:=[amG,bf,bf,aX,aX,bf,oC,.map cD,jo,aX,aX]
abbrev ra:List BS:=[bS]
abbrev rb:List BS:=[amH,vA,.dead,iv,n0]
abbrev sw:List BS:=[amI,.dead,Gp]
abbrev tN:List BS:=[qk,vA,qj,iv]
abbrev tO:List BS:=[vA,qj,zs,iv,iv]
abbrev tP:List BS:=[amJ]
abbrev tQ:List BS:=[xo]
abbrev vC:List BS:=[lF]
abbrev xq:List BS:=[xo,L7,CN,bS,bf,bS,lG]
abbrev xr:List BS:=[qk,tK,vA,iv]
abbrev xt:List BS:=[qk,zs,CO,amK,iv,iv]
abbrev zz:List BS:=[amL,py,.dead,aX,aX]
abbrev zA:List BS:=[amM,py,.dead,aX]
abbrev zB:List BS:=[amN,.dead,qj,Gp]
abbrev CQ:List BS:=[xo,zu,CP,aX,bS,bf,bS,lG]
abbrev CR:List BS:=[xo,CN,RN,jo,aX,bS,bf,bS,lG]
abbrev CS:List BS:=[aX,amO,amP,bS,RS]
abbrev CT:List BS:=[.dead,dG]
abbrev CU:List BS:=[CO,amQ,zs,.dead,iv,n0]
abbrev Gr:List BS:=[tL,tL]
abbrev Gs:List BS:=[amR,dG,bf,.map cD]
abbrev Gt:List BS:=[amS,py,aX]
abbrev Gu:List BS:=[amT,Gp]
abbrev Gv:List BS:=[xo,bS,lG]
abbrev Ma:List BS:=[amU,.dead,.dead,.map cD,dG,bf]
abbrev Mb:List BS:=[amV,lF,lG]
abbrev Mc:List BS:=[aa3,zx,.dead,aa4,amW,RO,bf,vB,bf,jo,aX,bS,bS,bf,bf,aX,aX,oC,lG,jo,aX,bS,bS]
abbrev Md:List BS:=[zu,CP,aX,aX,bS,bf,bS,bf]
abbrev Me:List BS:=[su,L7,CN,bS,bf,bS,lG]
abbrev Mf:List BS:=[tL,tL,lG]
abbrev Mg:List BS:=[dG,RP]
abbrev Mh:List BS:=[amX,vA,n0,iv]
abbrev RX:List BS:=[amY,.dead,.dead,.dead,.dead,.dead,.dead,.map cD,.dead,.dead,.dead,aX,bf,bf,aX,aX,bf,oC,jo,aX,aX]
abbrev RY:List BS:=[amZ,.dead,.dead,.dead,.dead,.dead,.dead,.map cD,.dead,.dead,.dead,bf,bf,aX,aX,bf,oC,jo,aX,aX]
abbrev RZ:List BS:=[py,aX,aX]
abbrev R0:List BS:=[am0,bf,.dead,.dead,.dead,.dead,.dead,.map cD,.dead,.dead,.dead,bf,aX,aX,bf,oC,jo,aX,aX]
abbrev abb:List BS:=[aa5,am1,bS,bf,dG,bf,.map cD]
abbrev abc:List BS:=[xo,zu,CP,jo,bS,bf,bS,lG]
abbrev abd:List BS:=[CP,aX,zw,aX,aX,aX,bS,bf,bS,bf]
abbrev abe:List BS:=[aa3,zx,.dead,aa4,am2,am3,RW,vB,bf,jo,aX,bS,bS,bf,bf,aX,aX,bf,oC,lG,jo,aX,bS,bS]
abbrev abf:List BS:=[am4,am5,bf,bf,aX,aX,bf,oC,bf,bf,aX,aX,bf,oC,.map cD,jo,aX,aX]
abbrev abg:List BS:=[lF,CN,am6,RQ,aX,bS,bf,aX,.map kP,bS,bf]
abbrev dF:List (Nat×VS):=[(0,aa)]
abbrev dQ:List (Nat×VS):=[(0,ak)]
abbrev kf:List (Nat×VS):=[(0,aU)]
abbrev mG:List (Nat×VS):=[(0,qh)]
abbrev ql:List (Nat×VS):=[(4,ak)]
abbrev xu:List (Nat×VS):=[(0,RL)]
abbrev zC:List (Nat×VS):=[(2,aa)]
abbrev zD:List (Nat×VS):=[(4,aa)]
abbrev zE:List (Nat×VS):=[(0,qh),(1,aa)]
abbrev zF:List (Nat×VS):=[(0,cY)]
abbrev zG:List (Nat×VS):=[(0,cf)]
abbrev CV:List (Nat×VS):=[(0,aU),(1,aa),(2,aa)]
abbrev Gw:List (Nat×VS):=[(0,dr)]
abbrev Gx:List (Nat×VS):=[(0,aU),(1,aa)]
abbrev Gy:List (Nat×VS):=[(0,aa),(1,aa)]
abbrev Gz:List (Nat×VS):=[(0,jn)]
abbrev GA:List (Nat×VS):=[(0,aa2)]
abbrev GB:List (Nat×VS):=[(0,amv)]
abbrev GC:List (Nat×VS):=[(0,np)]
abbrev GD:List (Nat×VS):=[(0,LX)]
abbrev Mi:List (Nat×VS):=[(0,dr),(1,aa)]
abbrev Mj:List (Nat×VS):=[(0,dr),(1,dr)]
abbrev Mk:List (Nat×VS):=[(0,RM),(1,qh),(2,dL)]
abbrev Ml:List (Nat×VS):=[(0,aa),(1,aU),(2,cv),(3,dk)]
abbrev Mm:List (Nat×VS):=[(0,amD)]
abbrev Mn:List (Nat×VS):=[(0,amE),(1,qh)]
abbrev Mo:List (Nat×VS):=[(0,L6)]
abbrev Mp:List (Nat×VS):=[(0,amF)]
abbrev R3:List (Nat×VS):=[(0,aa),(1,dC)]
abbrev R4:List (Nat×VS):=[(0,aa),(1,aU)]
abbrev R5:List (Nat×VS):=[(0,aa),(1,aU),(2,cv)]
abbrev R6:List (Nat×VS):=[(0,qi),(1,ak)]
abbrev abh:List (Nat×VS):=[(0,aU),(1,aa),(6,cv),(7,dk),(8,aa),(9,aa)]
abbrev abi:List (Nat×VS):=[(0,aU),(2,pq),(7,dk),(8,aa),(11,qZ),(12,aa),(13,aa)]
abbrev abj:List (Nat×VS):=[(1,aU),(2,cv),(3,dk),(16,qY),(17,aa),(18,aa)]
def O6:Shape×List (Out×Shape):=(⟨abj,[lF,L7,CN,bS,bf,bS,bf]⟩,[(.exit 0,⟨abj++[(19,ak)],[lF,L7,CN,bS,bf,bS,bf]⟩)])
abbrev abk:List (Nat×VS):=[(1,aa),(7,aU),(9,pq),(33,aa),(34,aa)]
def OX:Shape×List (Out×Shape):=(⟨abk,[su,aX]⟩,[(.exit 0,⟨abk++[(35,ak)],[su,aX]⟩)])
abbrev abl:List (Nat×VS):=[(1,aU),(3,aa),(38,cY),(39,aa),(40,aa),(49,dr),(50,aa),(51,aa)]
def R7:Shape×List (Out×Shape):=(⟨abl,vC⟩,[(.ret,⟨zC,[]⟩),(.exit 2,⟨abl++[(52,ak)],vC⟩)])
abbrev abm:List (Nat×VS):=[(1,aU),(3,aa),(38,cY),(39,aa),(40,aa)]
def R8:Shape×List (Out×Shape):=(⟨abm,vC⟩,[(.ret,⟨zC,[]⟩),(.exit 0,⟨abm++[(41,ak)],vC⟩)])
abbrev abn:List (Nat×VS):=[(0,dr),(1,dr),(12,aa),(13,aa)]
def R9:Shape×List (Out×Shape):=(⟨abn,[]⟩,[(.ret,⟨ql,[]⟩),(.exit 0,⟨abn++[(14,ak)],[]⟩)])
def Sa:Shape×List (Out×Shape):=(⟨[(4,aU),(7,cv)],abb⟩,[(.ret,⟨[(4,aU),(5,aa)],[.var 26 [aa,aa,.one (.whole ar 1),xl],bS,bf]⟩),(.exit 0,⟨[(4,aU),(7,cv),(22,ak)],abb⟩)])
def Pj:Shape×List (Out×Shape):=(⟨[(6,cv),(7,dk),(8,aa),(17,aa),(18,aa),(25,.one (.row ab 3 [0])),(26,aa),(27,aa)],[xo,zu,.var 26 [aa,aa,Rt,L0],lG,bS,bf,bS]⟩,[(.exit 2,⟨[(6,cv),(7,dk),(8,aa),(17,aa),(18,aa),(25,.one (.row ab 3 [0])),(26,aa),(27,aa),(28,ak)],[xo,zu,.var 26 [aa,aa,Rt,L0],lG,bS,bf,bS]⟩)])
abbrev abo:List (Nat×VS):=[(6,cv),(7,dk),(17,aa),(18,aa)]
def Pk:Shape×List (Out×Shape):=(⟨abo,xq⟩,[(.exit 0,⟨abo++[(19,ak)],xq⟩)])
def Pn:Shape×List (Out×Shape):=(⟨abh,xq⟩,[(.exit 0,⟨[(0,aU),(1,aa),(6,cv),(7,dk),(8,aa),(9,aa),(27,ak)],xq⟩)])
abbrev abp:List (Nat×VS):=[(0,aU),(1,aa),(6,cv),(7,dk),(8,aa),(10,aa),(11,lE),(12,aa)]
def Po:Shape×List (Out×Shape):=(⟨abp,CQ⟩,[(.exit 4,⟨abp++[(52,ak)],CQ⟩)])
abbrev abq:List (Nat×VS):=[(0,aU),(1,aa),(6,cv),(7,dk),(8,aa),(10,aa),(11,lE),(13,aa)]
def Pp:Shape×List (Out×Shape):=(⟨abq,CQ⟩,[(.exit 6,⟨abq++[(61,ak)],CQ⟩)])
abbrev abr:List (Nat×VS):=[(0,aU),(1,aa),(6,cv),(7,dk),(8,aa),(10,aa)]
def Pq:Shape×List (Out×Shape):=(⟨abr,xq⟩,[(.exit 2,⟨abr++[(47,ak)],xq⟩)])
abbrev abt:List (Nat×VS):=[(0,aU),(1,aa),(4,cv),(5,dk),(6,vz),(8,iN),(9,me),(10,aa),(11,iN),(12,aa),(22,vz),(23,aa),(24,aa),(50,vz),(51,aa),(52,aa)]
def Ps:Shape×List (Out×Shape):=(⟨abt,CR⟩,[(.exit 6,⟨abt++[(53,ak)],CR⟩)])
abbrev abu:List (Nat×VS):=[(0,aU),(1,aa),(4,cv),(5,dk),(6,vz),(8,iN),(9,me),(10,aa),(11,iN),(12,aa),(22,vz),(23,aa),(24,aa)]
def Pt:Shape×List (Out×Shape):=(⟨abu,CR⟩,[(.exit 4,⟨abu++[(49,ak)],CR⟩)])
abbrev abv:List (Nat×VS):=[(0,aU),(1,aa),(4,cv),(5,dk),(6,vz),(8,iN),(9,me),(10,aa),(22,vz),(23,aa),(24,aa)]
def Pu:Shape×List (Out×Shape):=(⟨abv,CR⟩,[(.exit 2,⟨abv++[(38,ak)],CR⟩)])
abbrev abw:List (Nat×VS):=[(0,aU),(1,aa),(4,cv),(5,dk),(6,vz),(22,vz),(23,aa),(24,aa)]
def Pv:Shape×List (Out×Shape):=(⟨abw,abc⟩,[(.exit 0,⟨abw++[(25,ak)],abc⟩)])
abbrev abx:List (Nat×VS):=[(0,aU),(1,aa),(6,cv),(7,dk),(8,aa),(9,aa),(10,lE),(11,aa)]
def Pg:Shape×List (Out×Shape):=(⟨abx,CQ⟩,[(.exit 2,⟨abx++[(37,ak)],CQ⟩)])
def Ph:Shape×List (Out×Shape):=(⟨abh,xq⟩,[(.exit 0,⟨[(0,aU),(1,aa),(6,cv),(7,dk),(8,aa),(9,aa),(24,ak)],xq⟩)])
abbrev aby:List (Nat×VS):=[(1,aaX),(4,.one (.whole Et 1)),(5,aa),(6,aa)]
def OW:Shape×List (Out×Shape):=(⟨aby,[RT,Gq]⟩,[(.exit 0,⟨aby++[(7,ak)],[RT,Gq]⟩)])
abbrev abz:List (Nat×VS):=[(2,aa),(3,aU),(11,pq),(13,aa),(39,RF),(40,aa),(41,aa)]
def Sb:Shape×List (Out×Shape):=(⟨abz,[su,aX,zy]⟩,[(.ret,⟨[(6,ak),(7,aa),(8,np),(9,aa),(10,aa)],mf⟩),(.exit 0,⟨abz++[(42,ak)],[su,aX,zy]⟩)])
abbrev abA:List (Nat×VS):=[(0,aU),(3,me),(16,aa),(17,aa)]
def Sd:Shape×List (Out×Shape):=(⟨abA,[.var 113 [aa,CJ,zk,aa,zn],.dead,.dead,.map cD,aX,dG,bf]⟩,[(.ret,⟨zC,Ma⟩),(.exit 0,⟨abA++[(18,ak)],[.var 113 [aa,CJ,zk,aa,zn],.dead,.dead,.map cD,aX,dG,bf]⟩)])
abbrev abB:List (Nat×VS):=[(2,zo),(3,xm),(21,zq),(22,aa),(23,aa)]
def am7:Shape×List (Out×Shape):=(⟨abB,[.var 113 [aa,zq,zm,aa,zn],.dead,.dead,.map cD,zw,.var 26 [aa,aa,CL,zm],dG,bf,bS,bf,bS]⟩,[(.exit 0,⟨abB++[(24,ak)],[.var 113 [aa,zq,zm,aa,zn],.dead,.dead,.map cD,zw,.var 26 [aa,aa,CL,zm],dG,bf,bS,bf,bS]⟩)])
abbrev abC:List (Nat×VS):=[(1,aU),(2,cv),(4,dk),(5,lE),(6,me),(7,xm),(8,aa),(10,RH),(28,me),(29,aa),(30,aa),(47,dr),(48,aa),(49,aa)]
def Se:Shape×List (Out×Shape):=(⟨abC,[lF,RN,RQ,aX,aX,.var 26 [aa,aa,Gl,xn],aX,bS,bf,bS,bf,bS,bf]⟩,[(.exit 2,⟨abC++[(50,ak)],[lF,RN,RQ,aX,aX,.var 26 [aa,aa,Gl,xn],aX,bS,bf,bS,bf,bS,bf]⟩)])
abbrev abD:List (Nat×VS):=[(1,aU),(2,cv),(4,dk),(5,lE),(6,me),(7,xm),(28,me),(29,aa),(30,aa)]
def Sf:Shape×List (Out×Shape):=(⟨abD,[lF,CP,zw,aX,aX,.var 26 [aa,aa,CL,LZ],bS,bf,bS,bf,bS,bf]⟩,[(.exit 0,⟨abD++[(31,ak)],[lF,CP,zw,aX,aX,.var 26 [aa,aa,CL,LZ],bS,bf,bS,bf,bS,bf]⟩)])
abbrev abE:List (Nat×VS):=[(2,aU),(6,pq),(13,dk),(14,lE),(15,me),(87,RD),(88,aa),(89,aa)]
def Sg:Shape×List (Out×Shape):=(⟨abE,abd⟩,[(.exit 4,⟨abE++[(90,ak)],abd⟩)])
abbrev abF:List (Nat×VS):=[(0,iN),(1,aa),(18,aa),(19,aa)]
def am8:Shape×List (Out×Shape):=(⟨abF,[]⟩,[(.ret,⟨ql,[]⟩),(.exit 0,⟨abF++[(20,ak)],[]⟩)])
abbrev abG:List (Nat×VS):=[(0,aa),(1,aa),(5,RE),(6,aa),(7,aa)]
def am9:Shape×List (Out×Shape):=(⟨abG,[jo]⟩,[(.exit 2,⟨abG++[(26,ak)],[jo]⟩)])
abbrev abH:List (Nat×VS):=[(0,aa),(1,aa),(5,RE),(6,aa)]
def ana:Shape×List (Out×Shape):=(⟨abH,[jo]⟩,[(.exit 0,⟨abH++[(12,ak)],[jo]⟩)])
abbrev abI:List (Nat×VS):=[(0,aU),(3,cv),(5,aa),(6,aa),(33,aa),(34,aa),(37,aa),(38,aa)]
def Sh:Shape×List (Out×Shape):=(⟨abI,Mb⟩,[(.exit 2,⟨abI++[(39,ak)],Mb⟩)])
abbrev abJ:List (Nat×VS):=[(0,aU),(3,cv),(5,aa),(33,aa),(34,aa)]
def Si:Shape×List (Out×Shape):=(⟨abJ,Mb⟩,[(.exit 0,⟨abJ++[(35,ak)],Mb⟩)])
abbrev abK:List (Nat×VS):=[(0,aU),(2,oB),(5,zo),(7,aa),(8,xm),(9,aa)]
def Sj:Shape×List (Out×Shape):=(⟨abK,[.var 88 [po,.one (.whole fN 6),aa],zx,.dead,.var 58 [aa,zm,Rv,Rw,CL,Gl],aa6,RO,vB,bf,jo,aX,bS,bS,bf,bf,aX,aX,bf,oC,lG,jo,aX,bS,bS]⟩,[(.exit 0,⟨abK++[(55,ak)],[.var 88 [po,.one (.whole fN 6),aa],zx,.dead,.var 58 [aa,zm,Rv,Rw,CL,Gl],aa6,RO,vB,bf,jo,aX,bS,bS,bf,bf,aX,aX,bf,oC,lG,jo,aX,bS,bS]⟩)])
abbrev abL:List (Nat×VS):=[(0,aU),(2,oB),(5,zo),(7,aa),(8,xm),(10,aa),(12,aa),(86,zk),(87,aa),(88,aa)]
def Sk:Shape×List (Out×Shape):=(⟨abL,Mc⟩,[(.exit 4,⟨abL++[(119,ak)],Mc⟩)])
abbrev abM:List (Nat×VS):=[(0,aU),(2,oB),(5,zo),(7,aa),(8,xm),(86,zk),(87,aa),(88,aa)]
def Sl:Shape×List (Out×Shape):=(⟨abM,Mc⟩,[(.exit 2,⟨abM++[(89,ak)],Mc⟩)])
abbrev abN:List (Nat×VS):=[(2,oB),(5,zo),(7,aa),(8,xm),(13,aaU),(14,aa),(15,.one (.aC 7 0 0)),(162,RI),(163,aa),(164,aa),(175,LW),(176,aa),(177,aa)]
def Sm:Shape×List (Out×Shape):=(⟨abN,[.var 88 [po,RI,aa],zx,.dead,aa7,aa8,aa9,RW,.var 126 [aa,qY,aa],vB,bf,bf,jo,aX,bS,bS,bf,aX,aX,bf,oC,lG,jo,aX,bS,bS]⟩,[(.exit 8,⟨abN++[(178,ak)],[.var 88 [po,RI,aa],zx,.dead,aa7,aa8,aa9,RW,.var 126 [aa,qY,aa],vB,bf,bf,jo,aX,bS,bS,bf,aX,aX,bf,oC,lG,jo,aX,bS,bS]⟩)])
abbrev abO:List (Nat×VS):=[(2,oB),(5,zo),(7,aa),(8,xm),(13,aaU),(162,aaJ),(163,aa),(164,aa)]
def Sn:Shape×List (Out×Shape):=(⟨abO,abe⟩,[(.exit 6,⟨abO++[(165,ak)],abe⟩)])
def So:Shape×List (Out×Shape):=(⟨[(2,aU),(3,cv),(22,.agg [.str,.str]),(23,aa)],[.var 98 [iN,ak,RF,aa,aa],aba,zy,zy]⟩,[(.exit 0,⟨[(2,aU),(3,cv),(22,.agg [.str,.str]),(23,aa),(24,ak)],[.var 98 [iN,ak,RF,aa,aa],aba,zy,zy]⟩)])
abbrev abP:List (Nat×VS):=[(1,aa),(7,aa1),(8,pq),(26,qY),(27,aa),(28,aa)]
def Sp:Shape×List (Out×Shape):=(⟨abP,[Gq,aX]⟩,[(.exit 0,⟨abP++[(29,ak)],[Gq,aX]⟩)])
abbrev abQ:List (Nat×VS):=[(1,aa),(53,dC),(54,aa),(55,aa)]
def anb:Shape×List (Out×Shape):=(⟨abQ,[]⟩,[(.ret,⟨ql,[]⟩),(.exit 1,⟨abQ++[(56,ak)],[]⟩)])
abbrev abR:List (Nat×VS):=[(1,aU),(2,cv),(3,RC),(20,dC),(21,aa),(22,aa)]
def anc:Shape×List (Out×Shape):=(⟨abR,[qj,.var 47 [aa,aa,CK],dG,dG]⟩,[(.exit 0,⟨abR++[(23,ak)],[qj,.var 47 [aa,aa,CK],dG,dG]⟩)])
abbrev abS:List (Nat×VS):=[(19,dC),(20,aa),(21,aa)]
def ane:Shape×List (Out×Shape):=(⟨abS,[]⟩,[(.ret,⟨[(2,ak)],[]⟩),(.exit 1,⟨abS++[(22,ak)],[]⟩)])
abbrev abT:List (Nat×VS):=[(2,aU),(4,cv),(5,zp),(7,lE),(31,aa),(32,aa)]
def Sq:Shape×List (Out×Shape):=(⟨abT,Md⟩,[(.exit 0,⟨abT++[(33,ak)],Md⟩)])
abbrev abU:List (Nat×VS):=[(2,aU),(4,cv),(7,zp),(39,lE),(40,aa),(41,aa)]
def Sr:Shape×List (Out×Shape):=(⟨abU,Md⟩,[(.exit 2,⟨abU++[(42,ak)],Md⟩)])
abbrev abV:List (Nat×VS):=[(1,aU),(3,pq),(4,aa),(24,qY),(25,aa),(26,aa)]
def Ss:Shape×List (Out×Shape):=(⟨abV,[lF,aX]⟩,[(.exit 0,⟨abV++[(27,ak)],[lF,aX]⟩)])
abbrev abW:List (Nat×VS):=[(1,aU),(3,pq),(4,aa),(7,aaW),(8,lE),(9,aa),(11,zo),(46,cY),(47,aa),(48,aa),(58,dr),(59,aa),(60,aa)]
def Su:Shape×List (Out×Shape):=(⟨abW,[lF,aX,.map Ge,aX,.var 161 [aa,aa,aa,aa,aa,aa,aa]]⟩,[(.exit 6,⟨abW++[(61,ak)],[lF,aX,.map Ge,aX,.var 161 [aa,aa,aa,aa,aa,aa,aa]]⟩)])
abbrev abX:List (Nat×VS):=[(1,aU),(3,pq),(4,aa),(7,aaW),(8,lE),(46,cY),(47,aa),(48,aa)]
def Sv:Shape×List (Out×Shape):=(⟨abX,[lF,aX,.map Ge,aX]⟩,[(.exit 4,⟨abX++[(49,ak)],[lF,aX,.map Ge,aX]⟩)])
def Sw:Shape×List (Out×Shape):=(⟨[(1,aU),(3,pq),(4,aa)],[lF,aX]⟩,[(.ret,⟨[(2,np)],mf⟩)])
abbrev abY:List (Nat×VS):=[(2,dL),(3,aU),(7,cv),(20,dC),(21,aa),(22,aa)]
def anf:Shape×List (Out×Shape):=(⟨abY,[qk,.var 81 [RJ],iv]⟩,[(.exit 0,⟨abY++[(23,ak)],[qk,.var 81 [RJ],iv]⟩)])
abbrev abZ:List (Nat×VS):=[(3,aU),(4,cv),(7,aaM),(8,oB),(9,aa)]
def ang:Shape×List (Out×Shape):=(⟨abZ,[qk,qj,n0,tK]⟩,[(.exit 0,⟨abZ++[(28,ak)],[qk,qj,n0,tK]⟩)])
abbrev ab0:List (Nat×VS):=[(3,aU),(8,cv),(10,RJ),(11,oB),(12,aa)]
def anh:Shape×List (Out×Shape):=(⟨ab0,[qk,tK,iv,zs,iv]⟩,[(.exit 2,⟨ab0++[(48,ak)],[qk,tK,iv,zs,iv]⟩)])
abbrev ab1:List (Nat×VS):=[(2,dL),(3,aU),(4,cv),(7,dk),(20,dC),(21,aa),(22,aa)]
def ani:Shape×List (Out×Shape):=(⟨ab1,[qk,qj,vA,iv]⟩,[(.exit 0,⟨ab1++[(23,ak)],[qk,qj,vA,iv]⟩)])
def anj:Shape×List (Out×Shape):=(⟨[(1,.fn Cq [] [.aC 0 0 0,.aC 1 0 0,.aC 2 0 0]),(4,aa),(5,jn),(6,dL),(7,aa),(8,aa)],tN⟩,[(.exit 2,⟨[(1,.fn Cq [] [.aC 0 0 0,.aC 1 0 0,.aC 2 0 0]),(4,aa),(5,jn),(6,dL),(7,aa),(8,aa),(14,ak)],tN⟩)])
def ank:Shape×List (Out×Shape):=(⟨[(1,.fn Cq [] [.aC 0 0 0,.aC 1 0 0,.aC 2 0 0]),(6,dL),(7,aa),(8,aa)],tN⟩,[(.exit 0,⟨[(1,.fn Cq [] [.aC 0 0 0,.aC 1 0 0,.aC 2 0 0]),(6,dL),(7,aa),(8,aa),(9,ak)],tN⟩)])
def anl:Shape×List (Out×Shape):=(⟨[(0,aa),(1,aU),(2,cv),(3,dk),(10,ak)],tN⟩,[(.norm,⟨[],tN⟩)])
def Sy:Shape×List (Out×Shape):=(⟨[(4,aU),(6,cv)],abf⟩,[(.ret,⟨[(4,aU),(5,aa)],[.var 129 [aa,ak,po,xl,lE,me,CG,aaF,aa],bf,bf,aX,aX,bf,oC]⟩),(.exit 0,⟨[(4,aU),(6,cv),(21,ak)],abf⟩)])
abbrev ab2:List (Nat×VS):=[(1,aU),(3,cv),(28,cY),(29,aa),(30,aa)]
def Sz:Shape×List (Out×Shape):=(⟨ab2,[su,su]⟩,[(.ret,⟨zC,[]⟩),(.exit 0,⟨ab2++[(31,ak)],[su,su]⟩)])
abbrev ab3:List (Nat×VS):=[(0,aU),(1,aa),(4,aa),(7,lE),(20,me),(21,aa),(22,aa)]
def SA:Shape×List (Out×Shape):=(⟨ab3,zz⟩,[(.exit 2,⟨ab3++[(23,ak)],zz⟩)])
abbrev ab4:List (Nat×VS):=[(0,aU),(1,aa),(4,aa),(7,lE)]
def SB:Shape×List (Out×Shape):=(⟨ab4,zz⟩,[(.ret,⟨[(4,aa),(5,ak),(6,ak)],zA⟩),(.exit 0,⟨ab4++[(14,ak)],zz⟩)])
abbrev ab5:List (Nat×VS):=[(0,aU),(3,lE),(15,me),(16,aa),(17,aa)]
def SC:Shape×List (Out×Shape):=(⟨ab5,zz⟩,[(.exit 0,⟨ab5++[(18,ak)],zz⟩)])
abbrev ab6:List (Nat×VS):=[(1,aa),(2,aU),(23,dC),(24,aa),(25,aa)]
def anm:Shape×List (Out×Shape):=(⟨ab6,ib⟩,[(.ret,⟨[(6,ak)],ib⟩),(.exit 0,⟨ab6++[(26,ak)],ib⟩)])
def ano:Shape×List (Out×Shape):=(⟨[(3,aU),(4,cv),(5,dk),(6,oB),(24,ak)],[qj,Gn,.var 47 [aa,aa,zq],.var 47 [aa,aa,.one (.whole cq 7)],dG,dG,dG,dG]⟩,[(.norm,⟨[(3,aU),(4,cv),(5,dk)],[qj,.var 147 [aa,aa,CK,aa,aa,Gi,ak],.var 47 [aa,aa,CJ],dG,dG,dG]⟩)])
def anp:Shape×List (Out×Shape):=(⟨[(0,aU),(3,dk),(5,aa),(28,ak)],zB⟩,[(.norm,⟨[],sw⟩)])
def anq:Shape×List (Out×Shape):=(⟨[(0,aU),(3,dk),(5,aa),(22,ak)],zB⟩,[(.norm,⟨[],sw⟩)])
def anr:Shape×List (Out×Shape):=(⟨[(0,aU),(3,dk),(5,aa),(14,ak)],zB⟩,[(.norm,⟨[],sw⟩)])
def ans:Shape×List (Out×Shape):=(⟨[(0,aU),(3,dk),(5,aa),(10,ak)],zB⟩,[(.norm,⟨[],sw⟩)])
def ant:Shape×List (Out×Shape):=(⟨[(0,aU),(3,dk),(5,aa),(6,ak)],zB⟩,[(.norm,⟨[],sw⟩)])
def SD:Shape×List (Out×Shape):=(⟨[(0,aa),(2,.fn vu [] [.aC 0 0 0]),(3,.fn vw [] [.aC 0 0 0]),(8,cv),(11,dk),(12,oB),(13,aa),(14,aa),(15,me),(36,aa),(37,aa)],abg⟩,[(.exit 2,⟨[(0,aa),(2,.fn vu [] [.aC 0 0 0]),(3,.fn vw [] [.aC 0 0 0]),(8,cv),(11,dk),(12,oB),(13,aa),(14,aa),(15,me),(36,aa),(37,aa),(38,ak)],abg⟩)])
def SF:Shape×List (Out×Shape):=(⟨[(0,aa),(2,.fn vu [] [.aC 0 0 0]),(3,.fn vw [] [.aC 0 0 0]),(8,cv),(11,dk),(12,oB),(13,aa)],[lF,zu,.var 204 [RH,.one (.cO kP 7)],zw,bS,bf,aX,.map kP,bS,bf]⟩,[(.ret,⟨[(8,cv),(9,me),(10,aa)],[lF,aa5,bS,bf,aX]⟩),(.exit 0,⟨[(0,aa),(2,.fn vu [] [.aC 0 0 0]),(3,.fn vw [] [.aC 0 0 0]),(8,cv),(11,dk),(12,oB),(13,aa),(25,ak)],[lF,zu,.var 204 [RH,.one (.cO kP 7)],zw,bS,bf,aX,.map kP,bS,bf]⟩)])
abbrev ab7:List (Nat×VS):=[(0,L5),(1,dL),(6,aa)]
def anu:Shape×List (Out×Shape):=(⟨ab7,[n0]⟩,[(.exit 0,⟨ab7++[(12,ak)],[n0]⟩)])
abbrev ab8:List (Nat×VS):=[(0,aa),(1,aU),(2,cv),(3,dk),(10,aa),(11,aa)]
def anv:Shape×List (Out×Shape):=(⟨ab8,tO⟩,[(.exit 0,⟨ab8++[(12,ak)],tO⟩)])
abbrev ab9:List (Nat×VS):=[(0,aa),(1,aU),(2,cv),(3,dk),(5,aaG),(6,aa)]
def anw:Shape×List (Out×Shape):=(⟨ab9,[qk,tK,vA,iv,n0]⟩,[(.exit 0,⟨ab9++[(13,ak)],[qk,tK,vA,iv,n0]⟩)])
abbrev aca:List (Nat×VS):=[(1,ak),(6,aU),(39,cY),(40,aa),(41,aa)]
def SG:Shape×List (Out×Shape):=(⟨aca,pz⟩,[(.ret,⟨[(4,.one (.eB)),(5,aa)],[]⟩),(.exit 0,⟨aca++[(42,ak)],pz⟩)])
def SH:Shape×List (Out×Shape):=(⟨[(6,aU),(9,aa),(72,ak)],pz⟩,[(.norm,⟨[(6,aU),(9,aa)],pz⟩)])
def SJ:Shape×List (Out×Shape):=(⟨[(6,aU),(9,aa),(10,aa),(11,dr),(12,iN),(13,aa),(85,po),(86,aa),(87,aa),(106,ak)],pz⟩,[(.norm,⟨[(6,aU),(9,aa),(13,aa),(85,po),(86,aa),(87,aa)],pz⟩)])
abbrev acb:List (Nat×VS):=[(6,aU),(9,aa),(85,po),(86,aa),(87,aa)]
def SK:Shape×List (Out×Shape):=(⟨acb,pz⟩,[(.exit 2,⟨acb++[(88,ak)],pz⟩)])
def SL:Shape×List (Out×Shape):=(⟨[(0,aU),(3,aa),(4,L4),(5,aa),(7,RB),(8,aa),(10,iN),(27,CH),(28,aa),(29,aa),(78,ak)],[.var 168 [aa,ak,CH,LY,Gj,Gk,aaY,aaZ,aa,Gg,aaK,Rx,aa0],.dead,.dead,.dead,.dead,.dead,.dead,.map cD,.dead,.dead,.dead,aX,aX,bf,bf,aX,aX,bf,oC,jo,aX,aX]⟩,[(.norm,⟨[(0,aU),(3,aa),(4,L4),(5,aa),(8,aa),(27,xn),(28,aa),(29,aa)],RX⟩)])
abbrev acd:List (Nat×VS):=[(0,aU),(3,aa),(4,L4),(27,xn),(28,aa),(29,aa)]
def SM:Shape×List (Out×Shape):=(⟨acd,RX⟩,[(.ret,⟨zC,RY⟩),(.exit 0,⟨acd++[(30,ak)],RX⟩)])
abbrev ace:List (Nat×VS):=[(0,dr),(1,aa),(7,aa),(8,aa)]
def SN:Shape×List (Out×Shape):=(⟨ace,[]⟩,[(.ret,⟨zD,[]⟩),(.exit 0,⟨ace++[(9,ak)],[]⟩)])
abbrev acf:List (Nat×VS):=[(0,aU),(2,cv),(4,RK)]
def anx:Shape×List (Out×Shape):=(⟨acf,[zt,L8,xp,xp]⟩,[(.ret,⟨[(2,cv),(3,ak)],[zt,.var 103 [aa,aa,RK],xp]⟩),(.exit 0,⟨acf++[(16,ak)],[zt,L8,xp,xp]⟩)])
abbrev acg:List (Nat×VS):=[(1,aU),(3,aa),(53,cY),(54,aa),(55,aa)]
def SO:Shape×List (Out×Shape):=(⟨acg,[su]⟩,[(.ret,⟨[(2,ak)],[]⟩),(.exit 0,⟨acg++[(56,ak)],[su]⟩)])
abbrev ach:List (Nat×VS):=[(1,aU),(2,cv),(3,dk),(4,aa),(5,dr),(19,cY),(20,aa),(21,aa),(34,dr),(35,aa),(36,aa)]
def SP:Shape×List (Out×Shape):=(⟨ach,Me⟩,[(.exit 2,⟨ach++[(37,ak)],Me⟩)])
abbrev aci:List (Nat×VS):=[(1,aU),(2,cv),(3,dk),(19,cY),(20,aa),(21,aa)]
def SQ:Shape×List (Out×Shape):=(⟨aci,Me⟩,[(.exit 0,⟨aci++[(22,ak)],Me⟩)])
abbrev acj:List (Nat×VS):=[(0,dr),(1,dr),(12,aa),(13,aa)]
def SR:Shape×List (Out×Shape):=(⟨acj,[]⟩,[(.ret,⟨ql,[]⟩),(.exit 0,⟨acj++[(14,ak)],[]⟩)])
abbrev ack:List (Nat×VS):=[(0,Gh),(1,Gh),(12,aa),(13,aa)]
def SS:Shape×List (Out×Shape):=(⟨ack,[]⟩,[(.ret,⟨ql,[]⟩),(.exit 0,⟨ack++[(14,ak)],[]⟩)])
abbrev acm:List (Nat×VS):=[(0,qY),(1,qY),(12,aa),(13,aa)]
def SU:Shape×List (Out×Shape):=(⟨acm,[]⟩,[(.ret,⟨ql,[]⟩),(.exit 0,⟨acm++[(14,ak)],[]⟩)])
abbrev acn:List (Nat×VS):=[(0,cY),(1,dr),(5,CI),(15,dr),(16,aa),(17,aa)]
def SV:Shape×List (Out×Shape):=(⟨acn,ra⟩,[(.ret,⟨ql,[]⟩),(.exit 0,⟨acn++[(18,ak)],ra⟩)])
abbrev aco:List (Nat×VS):=[(0,cY),(1,dr),(5,CI),(9,aa),(47,dr),(48,aa),(49,aa),(53,dr),(54,aa),(55,aa)]
def SW:Shape×List (Out×Shape):=(⟨aco,ra⟩,[(.ret,⟨ql,[]⟩),(.exit 4,⟨aco++[(56,ak)],ra⟩)])
abbrev acp:List (Nat×VS):=[(0,cY),(1,dr),(5,CI),(47,dr),(48,aa),(49,aa)]
def SX:Shape×List (Out×Shape):=(⟨acp,ra⟩,[(.ret,⟨ql,[]⟩),(.exit 2,⟨acp++[(50,ak)],ra⟩)])
abbrev acq:List (Nat×VS):=[(3,aU),(6,sr),(7,aa),(8,aa)]
def anz:Shape×List (Out×Shape):=(⟨acq,[CO]⟩,[(.exit 0,⟨acq++[(9,ak)],[CO]⟩)])
abbrev acr:List (Nat×VS):=[(1,aU),(3,.one (.whole bA 1)),(19,sr),(20,aa),(21,aa)]
def anA:Shape×List (Out×Shape):=(⟨acr,[tM,RU]⟩,[(.exit 1,⟨acr++[(22,ak)],[tM,RU]⟩)])
abbrev acs:List (Nat×VS):=[(0,cY),(1,dr),(7,aU),(8,cv),(10,xl),(11,aa),(33,aa),(34,aa),(37,dr),(38,aa),(39,aa)]
def SY:Shape×List (Out×Shape):=(⟨acs,Mf⟩,[(.exit 2,⟨acs++[(40,ak)],Mf⟩)])
abbrev acu:List (Nat×VS):=[(0,cY),(1,dr),(7,aU),(8,cv),(10,xl),(33,aa),(34,aa)]
def SZ:Shape×List (Out×Shape):=(⟨acu,Mf⟩,[(.exit 0,⟨acu++[(35,ak)],Mf⟩)])
abbrev acv:List (Nat×VS):=[(0,cY),(7,aU),(11,cv),(12,zp),(18,L3),(19,aa),(20,aa),(24,qZ),(25,aa),(26,aa),(48,aa),(49,aa)]
def S0:Shape×List (Out×Shape):=(⟨acv,[py,RR,aX]⟩,[(.exit 4,⟨acv++[(50,ak)],[py,RR,aX]⟩)])
abbrev acw:List (Nat×VS):=[(0,cY),(7,aU),(18,L3),(19,aa),(20,aa),(24,qZ),(25,aa),(26,aa)]
def S3:Shape×List (Out×Shape):=(⟨acw,[py]⟩,[(.exit 2,⟨acw++[(27,ak)],[py]⟩)])
abbrev acx:List (Nat×VS):=[(0,cY),(7,aU),(18,L3),(19,aa),(20,aa)]
def S4:Shape×List (Out×Shape):=(⟨acx,[py]⟩,[(.exit 0,⟨acx++[(21,ak)],[py]⟩)])
def S5:Shape×List (Out×Shape):=(⟨[(0,aU),(2,pq),(7,dk),(8,aa),(10,oB),(11,qZ),(12,aa),(13,aa),(18,aa),(19,ak)],[py,aX,aX,RR]⟩,[(.norm,⟨abi,RZ⟩)])
def S6:Shape×List (Out×Shape):=(⟨abi,RZ⟩,[(.exit 0,⟨[(0,aU),(2,pq),(7,dk),(8,aa),(11,qZ),(12,aa),(13,aa),(14,ak)],RZ⟩)])
def S7:Shape×List (Out×Shape):=(⟨[(0,aU),(3,aa)],zA⟩,[(.ret,⟨[(2,ak)],zA⟩),(.exit 0,⟨[(0,aU),(3,aa),(11,ak)],zA⟩)])
abbrev acy:List (Nat×VS):=[(2,aU),(3,cv),(4,dk),(5,CK),(6,Gi),(7,aa),(21,dC),(22,aa),(23,aa)]
def anB:Shape×List (Out×Shape):=(⟨acy,[L9,qj,.var 147 [aa,aa,CJ,aa,aa,zq,ak],dG,dG,dG,dG]⟩,[(.exit 0,⟨acy++[(24,ak)],[L9,qj,.var 147 [aa,aa,CJ,aa,aa,zq,ak],dG,dG,dG,dG]⟩)])
abbrev acz:List (Nat×VS):=[(2,aU),(4,cv),(5,RC),(6,CK),(7,ak),(20,dC),(21,aa),(22,aa)]
def anC:Shape×List (Out×Shape):=(⟨acz,[L9,Gn,dG,dG,dG,dG]⟩,[(.exit 0,⟨acz++[(23,ak)],[L9,Gn,dG,dG,dG,dG]⟩)])
abbrev acA:List (Nat×VS):=[(4,aU),(6,LX),(7,ak),(11,RC),(54,CK),(55,aa),(56,aa)]
def anD:Shape×List (Out×Shape):=(⟨acA,[Gn,dG,dG,dG,dG,dG]⟩,[(.exit 2,⟨acA++[(57,ak)],[Gn,dG,dG,dG,dG,dG]⟩)])
def anE:Shape×List (Out×Shape):=(⟨[(0,aU),(2,iN),(3,aa),(9,dk),(10,dC),(11,aa),(12,aa),(18,ak)],zB⟩,[(.norm,⟨[(0,aU),(2,iN),(3,aa),(9,dk),(10,dC),(11,aa),(12,aa)],zB⟩)])
abbrev acB:List (Nat×VS):=[(0,aU),(2,iN),(3,aa),(10,dC),(11,aa),(12,aa)]
def anF:Shape×List (Out×Shape):=(⟨acB,sw⟩,[(.exit 0,⟨acB++[(13,ak)],sw⟩)])
def anG:Shape×List (Out×Shape):=(⟨[(0,dC),(1,.fn xj [] []),(7,aa),(8,aa)],[]⟩,[(.ret,⟨zD,[]⟩),(.exit 0,⟨[(0,dC),(1,.fn xj [] []),(7,aa),(8,aa),(9,ak)],[]⟩)])
abbrev acC:List (Nat×VS):=[(0,dr),(13,dr),(14,aa),(15,aa)]
def S8:Shape×List (Out×Shape):=(⟨acC,[]⟩,[(.ret,⟨[(2,ak)],[]⟩),(.exit 0,⟨acC++[(16,ak)],[]⟩)])
abbrev acD:List (Nat×VS):=[(3,np),(14,aa),(15,aa)]
def S9:Shape×List (Out×Shape):=(⟨acD,mf⟩,[(.exit 0,⟨acD++[(16,ak)],mf⟩)])
abbrev acE:List (Nat×VS):=[(3,.one (.whole Gd 0)),(9,dr),(10,aa),(11,aa)]
def Ta:Shape×List (Out×Shape):=(⟨acE,[Gp]⟩,[(.exit 0,⟨acE++[(12,ak)],[Gp]⟩)])
abbrev acF:List (Nat×VS):=[(1,dr),(5,np),(26,dr),(27,aa),(28,aa)]
def Td:Shape×List (Out×Shape):=(⟨acF,mf⟩,[(.exit 0,⟨acF++[(29,ak)],mf⟩)])
def anH:Shape×List (Out×Shape):=(⟨kf,n7⟩,[(.exit 0,⟨[(0,aU),(3,ak)],n7⟩)])
abbrev acG:List (Nat×VS):=[(0,aU),(2,cv),(4,dk)]
def anI:Shape×List (Out×Shape):=(⟨acG,[zt,L8,tM,xp]⟩,[(.ret,⟨[(2,cv),(3,ak)],[zt,.var 103 [aa,aa,RK],xp]⟩),(.exit 0,⟨acG++[(19,ak)],[zt,L8,tM,xp]⟩)])
abbrev acH:List (Nat×VS):=[(1,aa),(7,dr),(8,aa),(9,aa)]
def Te:Shape×List (Out×Shape):=(⟨acH,[]⟩,[(.ret,⟨ql,[]⟩),(.exit 0,⟨acH++[(10,ak)],[]⟩)])
abbrev acI:List (Nat×VS):=[(0,cY),(13,cY),(14,aa),(15,aa),(24,dr),(25,aa),(26,aa)]
def Tf:Shape×List (Out×Shape):=(⟨acI,[]⟩,[(.ret,⟨zC,[]⟩),(.exit 2,⟨acI++[(27,ak)],[]⟩)])
abbrev acJ:List (Nat×VS):=[(0,cY),(13,cY),(14,aa),(15,aa)]
def Tg:Shape×List (Out×Shape):=(⟨acJ,[]⟩,[(.ret,⟨zC,[]⟩),(.exit 0,⟨acJ++[(16,ak)],[]⟩)])
abbrev acK:List (Nat×VS):=[(0,cY),(5,CI),(7,aa),(9,dr),(10,dr),(16,dr),(17,aa),(18,aa),(29,cY),(30,aa),(31,aa),(45,dr),(46,aa),(47,aa)]
def Th:Shape×List (Out×Shape):=(⟨acK,ra⟩,[(.ret,⟨ql,[]⟩),(.exit 4,⟨acK++[(48,ak)],ra⟩)])
abbrev acL:List (Nat×VS):=[(0,cY),(5,CI),(7,aa),(16,dr),(17,aa),(18,aa),(29,cY),(30,aa),(31,aa)]
def Ti:Shape×List (Out×Shape):=(⟨acL,ra⟩,[(.ret,⟨ql,[]⟩),(.exit 2,⟨acL++[(32,ak)],ra⟩)])
abbrev acM:List (Nat×VS):=[(0,cY),(5,CI),(16,dr),(17,aa),(18,aa)]
def Tj:Shape×List (Out×Shape):=(⟨acM,ra⟩,[(.ret,⟨ql,[]⟩),(.exit 0,⟨acM++[(19,ak)],ra⟩)])
def Tk:Shape×List (Out×Shape):=(⟨[(0,cY),(3,np),(4,cv),(5,dk),(6,.fn qX [] [.aC 2 0 0,.aC 1 0 0]),(7,aa),(9,aa),(17,aa),(18,aa),(45,dr),(46,aa),(47,aa)],CS⟩,[(.exit 4,⟨[(0,cY),(3,np),(4,cv),(5,dk),(6,.fn qX [] [.aC 2 0 0,.aC 1 0 0]),(7,aa),(9,aa),(17,aa),(18,aa),(45,dr),(46,aa),(47,aa),(48,ak)],CS⟩)])
def Tl:Shape×List (Out×Shape):=(⟨[(0,cY),(3,np),(4,cv),(5,dk),(6,.fn qX [] [.aC 2 0 0,.aC 1 0 0]),(7,aa),(17,aa),(18,aa)],CS⟩,[(.exit 2,⟨[(0,cY),(3,np),(4,cv),(5,dk),(6,.fn qX [] [.aC 2 0 0,.aC 1 0 0]),(7,aa),(17,aa),(18,aa),(35,ak)],CS⟩)])
def Tm:Shape×List (Out×Shape):=(⟨[(0,cY),(3,np),(4,cv),(5,dk),(6,.fn qX [] [.aC 2 0 0,.aC 1 0 0]),(7,aa),(17,aa),(18,aa)],CS⟩,[(.exit 0,⟨[(0,cY),(3,np),(4,cv),(5,dk),(6,.fn qX [] [.aC 2 0 0,.aC 1 0 0]),(7,aa),(17,aa),(18,aa),(19,ak)],CS⟩)])
def Tn:Shape×List (Out×Shape):=(⟨[(0,dr),(1,.fn zi [] [.aC 0 0 0]),(7,aa),(8,aa)],tP⟩,[(.ret,⟨zD,tP⟩),(.exit 0,⟨[(0,dr),(1,.fn zi [] [.aC 0 0 0]),(7,aa),(8,aa),(9,ak)],tP⟩)])
abbrev acN:List (Nat×VS):=[(3,np),(9,aa),(10,aa)]
def To:Shape×List (Out×Shape):=(⟨acN,mf⟩,[(.exit 0,⟨acN++[(11,ak)],mf⟩)])
abbrev acO:List (Nat×VS):=[(0,aa),(1,aU),(6,aa),(7,aa)]
def Ts:Shape×List (Out×Shape):=(⟨acO,tP⟩,[(.ret,⟨[(3,ak)],tP⟩),(.exit 0,⟨acO++[(8,ak)],tP⟩)])
def anJ:Shape×List (Out×Shape):=(⟨[(2,aU),(3,cv),(4,dk),(5,oB),(8,ak)],[tL,tL,tM,tM]⟩,[(.norm,⟨[],Gr⟩)])
abbrev acP:List (Nat×VS):=[(3,aU),(6,sr),(7,aa),(8,aa)]
def anK:Shape×List (Out×Shape):=(⟨acP,ib⟩,[(.exit 0,⟨acP++[(9,ak)],ib⟩)])
abbrev acQ:List (Nat×VS):=[(0,cY),(1,aa),(2,aa),(7,aa)]
def Tt:Shape×List (Out×Shape):=(⟨acQ,[]⟩,[(.exit 0,⟨acQ++[(19,ak)],[]⟩)])
abbrev acR:List (Nat×VS):=[(0,cY),(7,aa),(8,aa),(9,aa)]
def Tu:Shape×List (Out×Shape):=(⟨acR,[]⟩,[(.exit 2,⟨acR++[(45,ak)],[]⟩)])
abbrev acS:List (Nat×VS):=[(0,cY),(1,aa),(8,aa),(54,aa),(55,aa)]
def Tv:Shape×List (Out×Shape):=(⟨acS,[]⟩,[(.exit 4,⟨acS++[(56,ak)],[]⟩)])
def Tw:Shape×List (Out×Shape):=(⟨[(0,cY),(1,.fn xi [] []),(7,aa),(8,aa)],[]⟩,[(.ret,⟨zD,[]⟩),(.exit 0,⟨[(0,cY),(1,.fn xi [] []),(7,aa),(8,aa),(9,ak)],[]⟩)])
def anL:Shape×List (Out×Shape):=(⟨[(0,cf),(1,.fn xh [] []),(5,aa),(6,aa)],bq⟩,[(.exit 0,⟨[(0,cf),(1,.fn xh [] []),(5,aa),(6,aa),(19,ak)],bq⟩)])
abbrev acT:List (Nat×VS):=[(0,aa),(5,cf),(8,dC),(9,aa),(10,aa)]
def anM:Shape×List (Out×Shape):=(⟨acT,bq⟩,[(.exit 0,⟨acT++[(11,ak)],bq⟩)])
abbrev acU:List (Nat×VS):=[(1,aa),(5,aa),(18,sr),(19,aa),(20,aa)]
def anN:Shape×List (Out×Shape):=(⟨acU,[]⟩,[(.exit 0,⟨acU,[]⟩)])
def anO:Shape×List (Out×Shape):=(⟨[(0,cf),(1,.fn CE [] []),(5,aa),(6,.one (.sub cq 0)),(7,aa)],bq⟩,[(.exit 2,⟨[(0,cf),(1,.fn CE [] []),(5,aa),(6,.one (.sub cq 0)),(7,aa),(35,ak)],bq⟩)])
def anP:Shape×List (Out×Shape):=(⟨[(0,cf),(1,.fn CE [] []),(5,aa)],bq⟩,[(.ret,⟨[(4,LX)],CT⟩),(.exit 0,⟨[(0,cf),(1,.fn CE [] []),(5,aa),(15,ak)],bq⟩)])
def anQ:Shape×List (Out×Shape):=(⟨[(0,cf),(1,aa),(2,aa),(3,aa),(4,.fn cC [] []),(10,ak),(11,ak),(12,aa),(39,ak)],bq⟩,[(.norm,⟨[(0,cf),(1,aa),(2,aa),(3,aa),(4,.fn cC [] []),(10,ak),(11,ak),(12,aa)],bq⟩)])
def anR:Shape×List (Out×Shape):=(⟨[(0,cf),(1,aa),(2,aa),(3,aa),(4,.fn cC [] []),(10,ak),(11,ak),(12,aa),(13,aa),(14,aa),(56,ak)],bq⟩,[(.norm,⟨[(0,cf),(1,aa),(2,aa),(3,aa),(4,.fn cC [] []),(10,ak),(11,ak),(12,aa),(13,aa),(14,aa)],bq⟩)])
def anS:Shape×List (Out×Shape):=(⟨[(0,cf),(1,aa),(2,aa),(3,aa),(4,.fn cC [] []),(10,ak),(11,ak),(12,aa),(13,aa),(75,ak)],bq⟩,[(.ret,⟨[(0,cf),(1,aa),(2,aa),(3,aa),(4,.fn cC [] []),(10,ak),(11,ak),(12,aa),(13,aa),(80,ak)],bq⟩),(.norm,⟨[(0,cf),(1,aa),(2,aa),(3,aa),(4,.fn cC [] []),(10,ak),(11,ak),(12,aa),(13,aa)],bq⟩)])
def anT:Shape×List (Out×Shape):=(⟨[(0,cf),(1,aa),(2,aa),(3,aa),(4,.fn cC [] []),(10,ak),(11,ak)],bq⟩,[(.ret,⟨[],bq⟩)])
def anU:Shape×List (Out×Shape):=(⟨[(0,dC),(1,dC),(2,.fn cC [] []),(11,dC),(12,aa),(13,aa)],[]⟩,[(.ret,⟨[(6,aa)],[]⟩),(.exit 0,⟨[(0,dC),(1,dC),(2,.fn cC [] []),(11,dC),(12,aa),(13,aa),(14,ak)],[]⟩)])
def anV:Shape×List (Out×Shape):=(⟨[(0,cf),(1,aa),(2,aa),(3,.fn cC [] []),(8,aa),(9,aa)],bq⟩,[(.exit 2,⟨[(0,cf),(1,aa),(2,aa),(3,.fn cC [] []),(8,aa),(9,aa),(34,ak)],bq⟩)])
def anW:Shape×List (Out×Shape):=(⟨[(0,cf),(1,aa),(2,aa),(3,.fn cC [] []),(8,aa)],bq⟩,[(.exit 0,⟨[(0,cf),(1,aa),(2,aa),(3,.fn cC [] []),(8,aa),(14,ak)],bq⟩)])
def anX:Shape×List (Out×Shape):=(⟨[(0,cf),(3,.fn cC [] []),(8,aa),(9,aa),(10,aa),(11,aa)],bq⟩,[(.exit 0,⟨[(0,cf),(3,.fn cC [] []),(8,aa),(9,aa),(10,aa),(11,aa),(21,ak)],bq⟩)])
def anY:Shape×List (Out×Shape):=(⟨[(0,cf),(3,.fn cC [] []),(8,aa),(9,aa),(12,aa)],bq⟩,[(.exit 2,⟨[(0,cf),(3,.fn cC [] []),(8,aa),(9,aa),(12,aa),(33,ak)],bq⟩)])
def anZ:Shape×List (Out×Shape):=(⟨[(0,cf),(1,aa),(8,aa),(9,cv),(10,jn),(11,aa),(12,aa),(45,ak)],Mg⟩,[(.norm,⟨[(0,cf),(1,aa),(8,aa),(9,cv),(10,jn),(11,aa),(12,aa)],Mg⟩)])
abbrev acW:List (Nat×VS):=[(0,cf),(1,aa),(8,aa),(9,cv),(10,jn),(11,aa)]
def an0:Shape×List (Out×Shape):=(⟨acW,Mg⟩,[(.exit 0,⟨acW++[(35,ak)],Mg⟩)])
def an1:Shape×List (Out×Shape):=(⟨[(0,dC),(3,.fn cC [] []),(11,aU),(12,aa),(13,aa),(14,aa),(36,ak)],ib⟩,[(.norm,⟨[(0,dC),(3,.fn cC [] []),(11,aU),(12,aa),(13,aa),(14,aa)],ib⟩)])
def an2:Shape×List (Out×Shape):=(⟨[(0,dC),(3,.fn cC [] []),(10,aa),(11,aU),(12,aa),(13,aa),(14,aa),(34,ak)],ib⟩,[(.norm,⟨[(11,aU),(13,aa)],ib⟩)])
abbrev acX:List (Nat×VS):=[(0,cf),(8,aa),(9,aa)]
def an3:Shape×List (Out×Shape):=(⟨acX,bq⟩,[(.exit 0,⟨acX++[(15,ak)],bq⟩)])
def an4:Shape×List (Out×Shape):=(⟨[(0,cf),(1,aa),(2,aa),(3,.fn cC [] []),(9,aa),(10,aa)],bq⟩,[(.exit 2,⟨[(0,cf),(1,aa),(2,aa),(3,.fn cC [] []),(9,aa),(10,aa),(36,ak)],bq⟩)])
def an5:Shape×List (Out×Shape):=(⟨[(0,cf),(1,aa),(2,aa),(3,.fn cC [] []),(9,aa),(10,aa),(11,aa)],bq⟩,[(.exit 4,⟨[(0,cf),(1,aa),(2,aa),(3,.fn cC [] []),(9,aa),(10,aa),(11,aa)],bq⟩)])
def an6:Shape×List (Out×Shape):=(⟨[(0,cf),(1,aa),(2,aa),(3,.fn cC [] []),(9,aa),(10,aa),(65,ak)],bq⟩,[(.norm,⟨[(0,cf),(1,aa),(2,aa),(3,.fn cC [] []),(9,aa),(10,aa)],bq⟩)])
def an7:Shape×List (Out×Shape):=(⟨[(0,cf),(1,aa),(2,aa),(3,.fn cC [] []),(9,aa),(10,aa),(12,aa)],bq⟩,[(.exit 6,⟨[(0,cf),(1,aa),(2,aa),(3,.fn cC [] []),(9,aa),(10,aa),(12,aa)],bq⟩)])
def an8:Shape×List (Out×Shape):=(⟨[(0,cf),(1,aa),(2,aa),(3,.fn cC [] []),(9,aa),(10,aa)],bq⟩,[(.ret,⟨[(8,ak)],bq⟩),(.exit 0,⟨[(0,cf),(1,aa),(2,aa),(3,.fn cC [] []),(9,aa),(10,aa),(16,ak)],bq⟩)])
def an9:Shape×List (Out×Shape):=(⟨[(0,cf),(1,aa),(4,.fn cC [] []),(11,aa),(12,aa)],bq⟩,[(.exit 2,⟨[(0,cf),(1,aa),(4,.fn cC [] []),(11,aa),(12,aa),(47,ak)],bq⟩)])
def aoa:Shape×List (Out×Shape):=(⟨[(0,cf),(1,aa),(4,.fn cC [] []),(11,aa),(12,aa)],bq⟩,[(.exit 4,⟨[(0,cf),(1,aa),(4,.fn cC [] []),(11,aa),(12,aa),(65,ak)],bq⟩)])
def aob:Shape×List (Out×Shape):=(⟨[(0,cf),(1,aa),(4,.fn cC [] []),(11,aa),(12,aa)],bq⟩,[(.exit 0,⟨[(0,cf),(1,aa),(4,.fn cC [] []),(11,aa),(12,aa),(70,ak)],bq⟩)])
def aoc:Shape×List (Out×Shape):=(⟨[(0,cf),(1,aa),(4,.fn cC [] []),(12,aa),(13,aa)],bq⟩,[(.exit 0,⟨[(0,cf),(1,aa),(4,.fn cC [] []),(12,aa),(13,aa),(47,ak)],bq⟩)])
def aod:Shape×List (Out×Shape):=(⟨[(0,cf),(1,aa),(4,.fn cC [] []),(12,aa),(13,aa)],bq⟩,[(.exit 2,⟨[(0,cf),(1,aa),(4,.fn cC [] []),(12,aa),(13,aa),(66,ak)],bq⟩)])
def aoe:Shape×List (Out×Shape):=(⟨[(0,cf),(1,aa),(4,.fn cC [] []),(12,aa),(13,aa)],bq⟩,[(.exit 6,⟨[(0,cf),(1,aa),(4,.fn cC [] []),(12,aa),(13,aa),(120,ak)],bq⟩)])
def aof:Shape×List (Out×Shape):=(⟨[(0,cf),(1,aa),(4,.fn cC [] []),(12,aa),(13,aa)],bq⟩,[(.exit 8,⟨[(0,cf),(1,aa),(4,.fn cC [] []),(12,aa),(13,aa),(139,ak)],bq⟩)])
def aog:Shape×List (Out×Shape):=(⟨[(0,cf),(1,aa),(4,.fn cC [] []),(12,aa),(13,aa)],bq⟩,[(.exit 4,⟨[(0,cf),(1,aa),(4,.fn cC [] []),(12,aa),(13,aa),(144,ak)],bq⟩)])
def aoh:Shape×List (Out×Shape):=(⟨[(0,jn),(2,aa),(4,ak)],[]⟩,[(.norm,⟨[(0,jn),(2,aa)],[]⟩)])
def aoi:Shape×List (Out×Shape):=(⟨[(0,jn),(2,aa),(8,ak)],[]⟩,[(.norm,⟨[(0,jn),(2,aa)],[]⟩)])
def aoj:Shape×List (Out×Shape):=(⟨[(0,cf),(2,aa),(3,aa),(4,.fn cC [] []),(10,aa),(11,aa),(40,ak)],bq⟩,[(.norm,⟨[(0,cf),(2,aa),(3,aa),(4,.fn cC [] []),(10,aa),(11,aa)],bq⟩)])
def aok:Shape×List (Out×Shape):=(⟨[(0,cf),(2,aa),(3,aa),(4,.fn cC [] []),(10,aa)],bq⟩,[(.exit 0,⟨[(0,cf),(2,aa),(3,aa),(4,.fn cC [] []),(10,aa),(11,aa),(18,ak)],bq⟩),(.ret,⟨[(0,cf),(2,aa),(3,aa),(4,.fn cC [] []),(10,aa),(11,aa),(58,ak)],bq⟩)])
def aol:Shape×List (Out×Shape):=(⟨[(0,dC),(1,.fn xh [] []),(7,aa),(8,aa)],[]⟩,[(.ret,⟨zD,[]⟩),(.exit 0,⟨[(0,dC),(1,.fn xh [] []),(7,aa),(8,aa),(9,ak)],[]⟩)])
def aom:Shape×List (Out×Shape):=(⟨[(0,cf),(1,.fn xj [] []),(5,aa),(6,aa)],bq⟩,[(.exit 0,⟨[(0,cf),(1,.fn xj [] []),(5,aa),(6,aa),(19,ak)],bq⟩)])
def aon:Shape×List (Out×Shape):=(⟨[(0,cf),(1,.fn zj [] []),(5,aa),(6,aa)],bq⟩,[(.exit 0,⟨[(0,cf),(1,.fn zj [] []),(5,aa),(6,aa),(19,ak)],bq⟩)])
def aoo:Shape×List (Out×Shape):=(⟨[(0,dC),(1,.fn zj [] []),(7,aa),(8,aa)],[]⟩,[(.ret,⟨zD,[]⟩),(.exit 0,⟨[(0,dC),(1,.fn zj [] []),(7,aa),(8,aa),(9,ak)],[]⟩)])
def aop:Shape×List (Out×Shape):=(⟨[(1,.fn Cw [] [.aC 0 0 0]),(4,aa),(5,jn),(6,dL),(7,aa),(8,aa)],ib⟩,[(.exit 2,⟨[(1,.fn Cw [] [.aC 0 0 0]),(4,aa),(5,jn),(6,dL),(7,aa),(8,aa),(14,ak)],ib⟩)])
def aoq:Shape×List (Out×Shape):=(⟨[(1,.fn Cw [] [.aC 0 0 0]),(6,dL),(7,aa),(8,aa)],ib⟩,[(.exit 0,⟨[(1,.fn Cw [] [.aC 0 0 0]),(6,dL),(7,aa),(8,aa),(9,ak)],ib⟩)])
def aor:Shape×List (Out×Shape):=(⟨[(1,.fn Cz [] [.aC 0 0 0,.aC 1 0 0,.aC 2 0 0]),(4,aa),(5,jn),(6,dL),(7,aa),(8,aa)],xr⟩,[(.exit 2,⟨[(1,.fn Cz [] [.aC 0 0 0,.aC 1 0 0,.aC 2 0 0]),(4,aa),(5,jn),(6,dL),(7,aa),(8,aa),(14,ak)],xr⟩)])
def aos:Shape×List (Out×Shape):=(⟨[(1,.fn Cz [] [.aC 0 0 0,.aC 1 0 0,.aC 2 0 0]),(6,dL),(7,aa),(8,aa)],xr⟩,[(.exit 0,⟨[(1,.fn Cz [] [.aC 0 0 0,.aC 1 0 0,.aC 2 0 0]),(6,dL),(7,aa),(8,aa),(9,ak)],xr⟩)])
def aot:Shape×List (Out×Shape):=(⟨[(1,.fn Cy [] [.aC 0 0 0,.aC 1 0 0,.aC 2 0 0]),(4,aa),(5,jn),(6,dL),(7,aa),(8,aa)],tO⟩,[(.exit 2,⟨[(1,.fn Cy [] [.aC 0 0 0,.aC 1 0 0,.aC 2 0 0]),(4,aa),(5,jn),(6,dL),(7,aa),(8,aa),(14,ak)],tO⟩)])
def aou:Shape×List (Out×Shape):=(⟨[(1,.fn Cy [] [.aC 0 0 0,.aC 1 0 0,.aC 2 0 0]),(6,dL),(7,aa),(8,aa)],tO⟩,[(.exit 0,⟨[(1,.fn Cy [] [.aC 0 0 0,.aC 1 0 0,.aC 2 0 0]),(6,dL),(7,aa),(8,aa),(9,ak)],tO⟩)])
def aov:Shape×List (Out×Shape):=(⟨[(1,.fn Cx [] [.aC 0 0 0,.aC 1 0 0]),(4,aa),(5,jn),(6,dL),(7,aa),(8,aa)],rb⟩,[(.exit 2,⟨[(1,.fn Cx [] [.aC 0 0 0,.aC 1 0 0]),(4,aa),(5,jn),(6,dL),(7,aa),(8,aa),(14,ak)],rb⟩)])
def aow:Shape×List (Out×Shape):=(⟨[(1,.fn Cx [] [.aC 0 0 0,.aC 1 0 0]),(6,dL),(7,aa),(8,aa)],rb⟩,[(.exit 0,⟨[(1,.fn Cx [] [.aC 0 0 0,.aC 1 0 0]),(6,dL),(7,aa),(8,aa),(9,ak)],rb⟩)])
def aox:Shape×List (Out×Shape):=(⟨[(1,.fn Ct [] [.aC 0 0 0,.aC 1 0 0]),(4,aa),(5,jn),(6,dL),(7,aa),(8,aa)],rb⟩,[(.exit 2,⟨[(1,.fn Ct [] [.aC 0 0 0,.aC 1 0 0]),(4,aa),(5,jn),(6,dL),(7,aa),(8,aa),(14,ak)],rb⟩)])
def aoy:Shape×List (Out×Shape):=(⟨[(1,.fn Ct [] [.aC 0 0 0,.aC 1 0 0]),(6,dL),(7,aa),(8,aa)],rb⟩,[(.exit 0,⟨[(1,.fn Ct [] [.aC 0 0 0,.aC 1 0 0]),(6,dL),(7,aa),(8,aa),(9,ak)],rb⟩)])
def aoz:Shape×List (Out×Shape):=(⟨[(1,.fn Cu [] [.aC 0 0 0,.aC 1 0 0,.aC 2 0 0,.aC 3 0 0]),(4,aa),(5,jn),(6,dL),(7,aa),(8,aa)],xt⟩,[(.exit 2,⟨[(1,.fn Cu [] [.aC 0 0 0,.aC 1 0 0,.aC 2 0 0,.aC 3 0 0]),(4,aa),(5,jn),(6,dL),(7,aa),(8,aa),(14,ak)],xt⟩)])
def aoA:Shape×List (Out×Shape):=(⟨[(1,.fn Cu [] [.aC 0 0 0,.aC 1 0 0,.aC 2 0 0,.aC 3 0 0]),(6,dL),(7,aa),(8,aa)],xt⟩,[(.exit 0,⟨[(1,.fn Cu [] [.aC 0 0 0,.aC 1 0 0,.aC 2 0 0,.aC 3 0 0]),(6,dL),(7,aa),(8,aa),(9,ak)],xt⟩)])
def aoB:Shape×List (Out×Shape):=(⟨[(1,.fn Cv [] [.aC 0 0 0,.aC 1 0 0,.aC 2 0 0]),(4,aa),(5,jn),(6,dL),(7,aa),(8,aa)],CU⟩,[(.exit 2,⟨[(1,.fn Cv [] [.aC 0 0 0,.aC 1 0 0,.aC 2 0 0]),(4,aa),(5,jn),(6,dL),(7,aa),(8,aa),(14,ak)],CU⟩)])
def aoC:Shape×List (Out×Shape):=(⟨[(1,.fn Cv [] [.aC 0 0 0,.aC 1 0 0,.aC 2 0 0]),(6,dL),(7,aa),(8,aa)],CU⟩,[(.exit 0,⟨[(1,.fn Cv [] [.aC 0 0 0,.aC 1 0 0,.aC 2 0 0]),(6,dL),(7,aa),(8,aa),(9,ak)],CU⟩)])
def aoD:Shape×List (Out×Shape):=(⟨[(0,dC),(1,.fn FU [] []),(7,aa),(8,aa)],[]⟩,[(.ret,⟨zD,[]⟩),(.exit 0,⟨[(0,dC),(1,.fn FU [] []),(7,aa),(8,aa),(9,ak)],[]⟩)])
def aoE:Shape×List (Out×Shape):=(⟨[(2,.fn LQ [] [.aC 0 0 0,.aC 1 0 0]),(3,dk),(13,sr),(14,aa),(15,aa)],[tL,tL,tM]⟩,[(.exit 0,⟨[(2,.fn LQ [] [.aC 0 0 0,.aC 1 0 0]),(3,dk),(13,sr),(14,aa),(15,aa),(16,ak)],[tL,tL,tM]⟩)])
def aoF:Shape×List (Out×Shape):=(⟨[(2,.fn LR [] [.aC 0 0 0]),(3,cv),(13,sr),(14,aa),(15,aa)],[tK,tM]⟩,[(.exit 0,⟨[(2,.fn LR [] [.aC 0 0 0]),(3,cv),(13,sr),(14,aa),(15,aa),(16,ak)],[tK,tM]⟩)])
def aoG:List (Nat×FuncId):=[(3,Px),
 (4,J9),
 (5,wI),
 (6,Bv),
 (7,yl),
 (8,yF),
 (9,JP),
 (10,E6),
 (11,J8),
 (12,s7),
 (13,s6),
 (15,OZ),
 (16,Lo),
 (17,Lq),
 (18,Cn),
 (19,zh),
 (20,Rh),
 (21,ot),
 (22,JV),
 (23,J5),
 (24,J7),
 (25,EN),
 (26,Ev),
 (27,kG),
 (28,JB),
 (29,wG),
 (30,Ri),
 (31,Rj),
 (32,Rk),
 (33,Rl),
 (34,Co),
 (35,Rm),
 (36,Lr),
 (37,ak8),
 (38,ak9),
 (39,ala),
 (40,aaA),
 (41,alb),
 (42,alc),
 (43,JO),
 (44,yD),
 (45,Ls),
 (46,pV),
 (47,Bq),
 (48,jC),
 (49,uP),
 (50,FT),
 (51,ald),
 (52,ale),
 (53,Lt),
 (54,alf),
 (55,xe),
 (56,xf),
 (57,FU),
 (58,Cp),
 (59,Lu),
 (60,alg),
 (61,alh),
 (62,ali),
 (63,alj),
 (64,xg),
 (65,Cq),
 (66,Bt),
 (67,Lv),
 (68,Lw),
 (69,Bp),
 (70,wO),
 (71,Cr),
 (72,Cs),
 (73,FV),
 (74,FW),
 (75,alk),
 (76,alm),
 (77,aln),
 (78,alo),
 (79,alp),
 (80,alq),
 (81,Rn),
 (82,Lx),
 (83,vu),
 (84,vw),
 (85,Ct),
 (86,alr),
 (87,xh),
 (88,Cu),
 (89,Cv),
 (90,Cw),
 (91,Cx),
 (92,Cy),
 (93,Cz),
 (94,als),
 (95,Ly),
 (96,LA),
 (97,FX),
 (98,LB),
 (99,ga),
 (100,na),
 (101,lU),
 (102,LC),
 (103,LD),
 (104,FY),
 (105,LF),
 (106,FZ),
 (107,F0),
 (108,F3),
 (109,LG),
 (110,aaB),
 (111,fF),
 (112,CA),
 (113,F4),
 (114,LH),
 (115,xi),
 (116,F5),
 (117,F6),
 (118,alu),
 (119,alv),
 (120,alw),
 (121,alx),
 (122,aly),
 (123,alz),
 (124,alA),
 (125,alB),
 (126,LI),
 (127,F7),
 (128,xj),
 (129,CB),
 (130,CD),
 (131,LJ),
 (132,xk),
 (133,F8),
 (134,F9),
 (135,Ga),
 (136,alC),
 (137,alD),
 (138,alE),
 (139,alF),
 (140,alG),
 (141,Gb),
 (143,LL),
 (144,LM),
 (145,LN),
 (146,LO),
 (147,Ro),
 (148,LP),
 (149,zi),
 (152,LQ),
 (153,mZ),
 (154,Gc),
 (155,Rp),
 (156,alH),
 (157,Rq),
 (158,alI),
 (159,alJ),
 (160,alK),
 (161,alL),
 (162,zj),
 (163,alM),
 (165,alN),
 (166,alO),
 (167,alP),
 (168,alQ),
 (169,alR),
 (170,alS),
 (171,qX),
 (172,LR),
 (173,alT),
 (174,cC),
 (175,alU),
 (176,CE),
 (178,alV),
 (179,alW),
 (180,alX),
 (181,alY),
 (182,alZ),
 (183,al0),
 (185,al1),
 (186,al2),
 (187,al3),
 (188,al4),
 (189,al5),
 (190,al6),
 (191,al7),
 (192,al8),
 (194,al9),
 (195,ama),
 (196,amb),
 (197,amc),
 (198,amd),
 (199,ame),
 (200,amf),
 (201,amg),
 (223,F7),
 (224,Rn),
 (225,LI),
 (226,Rq),
 (227,Rq),
 (228,LI),
 (229,xg),
 (230,aaA),
 (231,xg),
 (232,xg),
 (233,xg),
 (234,xg),
 (235,xg),
 (236,xg),
 (237,Rn),
 (238,LI),
 (239,aaC),
 (240,aaC)]
def aoH:List (Nat×Shape):=[(3,⟨Gw,[]⟩),
 (4,⟨Mi,[]⟩),
 (5,⟨xu,[]⟩),
 (6,⟨xu,[]⟩),
 (7,⟨Mj,[]⟩),
 (8,⟨[],[]⟩),
 (9,⟨Gw,[]⟩),
 (10,⟨CV,tQ⟩),
 (11,⟨kf,tQ⟩),
 (12,⟨[(0,RL),(1,aa)],[]⟩),
 (13,⟨xu,[]⟩),
 (15,⟨Mj,[]⟩),
 (16,⟨zE,[]⟩),
 (17,⟨R3,[]⟩),
 (18,⟨dF,[]⟩),
 (19,⟨xu,[]⟩),
 (20,⟨[(0,qh),(1,iN)],[]⟩),
 (21,⟨Gx,tQ⟩),
 (22,⟨CV,tQ⟩),
 (23,⟨CV,tQ⟩),
 (24,⟨Gx,tQ⟩),
 (25,⟨CV,tQ⟩),
 (26,⟨dF,[]⟩),
 (27,⟨xu,[]⟩),
 (28,⟨[],[]⟩),
 (29,⟨[(0,zr),(1,aa),(2,aa)],[]⟩),
 (30,⟨zE,[]⟩),
 (31,⟨zE,[]⟩),
 (32,⟨mG,[]⟩),
 (33,⟨kf,Gs⟩),
 (34,⟨kf,Gs⟩),
 (35,⟨kf,Gs⟩),
 (36,⟨xu,[]⟩),
 (37,⟨mG,[]⟩),
 (38,⟨[(0,iN),(1,aa)],[]⟩),
 (39,⟨[(0,RM)],[]⟩),
 (40,⟨[(0,L5),(1,aa)],[n0]⟩),
 (41,⟨Mk,[]⟩),
 (42,⟨[(0,dL),(1,aa)],[]⟩),
 (43,⟨Gy,[]⟩),
 (44,⟨Gy,[]⟩),
 (45,⟨[(0,aU),(1,RL)],[.var 88 [.one (.nilS ag),aaQ,aa]]⟩),
 (46,⟨kf,[.var 88 [po,.one (.whole fN 2),aa],lG,vB]⟩),
 (47,⟨[],[]⟩),
 (48,⟨[(0,.agg [.str,.bool,.int .i64,.int .i64,.str,.str])],[]⟩),
 (49,⟨[(0,zr),(1,aa)],[]⟩),
 (50,⟨[(0,cY),(1,dr),(2,Gm),(3,aa)],[]⟩),
 (51,⟨mG,[]⟩),
 (52,⟨zE,[]⟩),
 (53,⟨[(0,aU),(1,qh)],Gs⟩),
 (54,⟨mG,[]⟩),
 (55,⟨zE,[]⟩),
 (56,⟨mG,[]⟩),
 (57,⟨mG,[]⟩),
 (58,⟨xu,[]⟩),
 (59,⟨xu,[]⟩),
 (60,⟨[(0,RM),(1,dC),(2,dL)],[]⟩),
 (61,⟨Mk,[]⟩),
 (62,⟨Mk,[]⟩),
 (63,⟨Mk,[]⟩),
 (64,⟨[(0,dL),(1,.fn Cq [] [.aC 0 0 0,.aC 1 0 0,.aC 2 0 0])],tN⟩),
 (65,⟨Ml,tN⟩),
 (66,⟨[(0,cY),(1,ak)],[]⟩),
 (67,⟨Mi,[]⟩),
 (68,⟨[(0,.agg [.int .i64,.list ar,.int .i64]),(1,dr)],[]⟩),
 (69,⟨[(0,iN)],[]⟩),
 (70,⟨[(0,zr)],[]⟩),
 (71,⟨[(0,cY),(1,dr),(2,Gm)],[]⟩),
 (72,⟨kf,Gt⟩),
 (73,⟨Gx,Gt⟩),
 (74,⟨kf,Gt⟩),
 (75,⟨[(0,qh),(1,aa),(2,aU)],ib⟩),
 (76,⟨R3,[]⟩),
 (77,⟨Mm,[]⟩),
 (78,⟨Mn,[]⟩),
 (79,⟨[(0,aU),(1,qh)],Gu⟩),
 (80,⟨kf,Gu⟩),
 (81,⟨[(0,dC),(1,.fn xj [] [])],[]⟩),
 (82,⟨[(0,aa),(1,aa),(2,.fn vu [] [.aC 0 0 0]),(3,.fn vw [] [.aC 0 0 0])],vC⟩),
 (83,⟨[(0,aa),(1,aa),(2,aU)],vC⟩),
 (84,⟨R4,vC⟩),
 (85,⟨R5,Mh⟩),
 (86,⟨[(0,L5),(1,dL),(2,aa)],[n0]⟩),
 (87,⟨mG,[]⟩),
 (88,⟨[(0,aa),(1,aU),(2,cv),(3,dk),(4,oB)],xt⟩),
 (89,⟨Ml,[CO,.var 78 [.one (.whole vy 3)],zs,n0,iv]⟩),
 (90,⟨R4,ib⟩),
 (91,⟨R5,Mh⟩),
 (92,⟨Ml,tO⟩),
 (93,⟨Ml,xr⟩),
 (94,⟨Gz,[]⟩),
 (95,⟨[(0,cY),(1,ak)],[]⟩),
 (96,⟨kf,pz⟩),
 (97,⟨kf,pz⟩),
 (98,⟨Mi,[]⟩),
 (99,⟨kf,n7⟩),
 (100,⟨[(0,aU),(1,CM)],n7⟩),
 (101,⟨[(0,Gm)],[]⟩),
 (102,⟨[(0,zr)],[]⟩),
 (103,⟨[(0,zr)],[]⟩),
 (104,⟨Mj,[]⟩),
 (105,⟨[(0,Gh),(1,Gh)],[]⟩),
 (106,⟨[(0,qY),(1,qY)],[]⟩),
 (107,⟨zF,[]⟩),
 (108,⟨[(0,cY),(1,dr)],[]⟩),
 (109,⟨zF,[]⟩),
 (110,⟨[(0,sr)],[]⟩),
 (111,⟨[(0,qi)],[]⟩),
 (112,⟨[(0,cY),(1,dr),(2,Gm)],[]⟩),
 (113,⟨[(0,cY),(1,aa),(2,L3)],[]⟩),
 (114,⟨[(0,cY),(1,.fn xi [] [])],[]⟩),
 (115,⟨Gw,[]⟩),
 (116,⟨[(0,aU),(1,qZ),(2,pq)],[py,aX]⟩),
 (117,⟨kf,Gt⟩),
 (118,⟨[(0,dC)],[]⟩),
 (119,⟨[(0,dC)],[]⟩),
 (120,⟨[(0,dC)],[]⟩),
 (121,⟨[],[]⟩),
 (122,⟨Mn,[]⟩),
 (123,⟨Mn,[]⟩),
 (124,⟨[(0,aU),(1,CM)],Gu⟩),
 (125,⟨[(0,aU),(1,dC),(2,iN),(3,aa)],Gu⟩),
 (126,⟨[(0,dC),(1,.fn xj [] [])],[]⟩),
 (127,⟨Gx,[.var 204 [pq,.one (.e8 kP)],aX]⟩),
 (128,⟨mG,[]⟩),
 (129,⟨Gw,[]⟩),
 (130,⟨[(0,aU),(1,dr),(2,aa),(3,aa),(4,iN),(5,aa)],pz⟩),
 (131,⟨dF,[]⟩),
 (132,⟨Gw,[]⟩),
 (133,⟨Mj,[]⟩),
 (134,⟨CV,pz⟩),
 (135,⟨CV,pz⟩),
 (136,⟨kf,n7⟩),
 (137,⟨[(0,CM)],[]⟩),
 (138,⟨kf,n7⟩),
 (139,⟨kf,n7⟩),
 (140,⟨[(0,qi)],[]⟩),
 (141,⟨Mi,[]⟩),
 (143,⟨zF,[]⟩),
 (144,⟨[(0,cY),(1,dr)],[]⟩),
 (145,⟨zF,[]⟩),
 (146,⟨zF,[]⟩),
 (147,⟨[(0,dr),(1,.fn zi [] [.aC 0 0 0])],tP⟩),
 (148,⟨zF,[]⟩),
 (149,⟨R4,tP⟩),
 (152,⟨[(0,qi),(1,qi),(2,aU),(3,cv)],Gr⟩),
 (153,⟨[(0,sr)],[]⟩),
 (154,⟨[(0,cY),(1,aa),(2,aa)],[]⟩),
 (155,⟨[(0,cY),(1,.fn xi [] [])],[]⟩),
 (156,⟨[],[]⟩),
 (157,⟨[(0,cf),(1,.fn xh [] [])],bq⟩),
 (158,⟨R3,[]⟩),
 (159,⟨[(0,aa),(1,dC),(2,qh)],[]⟩),
 (160,⟨zG,bq⟩),
 (161,⟨[],[]⟩),
 (162,⟨mG,[]⟩),
 (163,⟨Mn,[]⟩),
 (165,⟨[(0,aU),(1,iN)],Gu⟩),
 (166,⟨dF,[]⟩),
 (167,⟨[(0,iN),(1,CM)],[]⟩),
 (168,⟨kf,n7⟩),
 (169,⟨kf,n7⟩),
 (170,⟨[(0,qi),(1,aa)],[]⟩),
 (171,⟨R5,[.var 23 [aaT],.var 22 [lE],bS,RS]⟩),
 (172,⟨[(0,qi),(1,qi),(2,aU)],ib⟩),
 (173,⟨[(0,cf),(1,.fn cC [] [])],bq⟩),
 (174,⟨[(0,qh),(1,qh)],[]⟩),
 (175,⟨[(0,cf),(1,.fn CE [] [])],bq⟩),
 (176,⟨[(0,qh),(1,qh)],[]⟩),
 (178,⟨[(0,iN),(1,CM)],[]⟩),
 (179,⟨[(0,qi)],[]⟩),
 (180,⟨[(0,cf),(1,aa),(2,aa),(3,aa),(4,.fn cC [] [])],bq⟩),
 (181,⟨Gz,[]⟩),
 (182,⟨Gy,[]⟩),
 (183,⟨[(0,dC),(1,dC),(2,.fn cC [] [])],[]⟩),
 (185,⟨[(0,cf),(1,aa),(2,aa),(3,.fn cC [] [])],bq⟩),
 (186,⟨[(0,cf),(1,aa),(2,aa),(3,.fn cC [] [])],bq⟩),
 (187,⟨[(0,cf),(1,aa),(2,aa),(3,.fn cC [] [])],bq⟩),
 (188,⟨[(0,dC),(1,aa),(2,aa),(3,.fn cC [] [])],[]⟩),
 (189,⟨[(0,cf),(1,aa),(2,aa),(3,.fn cC [] [])],bq⟩),
 (190,⟨[(0,cf),(1,aa),(2,aa),(3,.fn cC [] [])],bq⟩),
 (191,⟨[(0,cf),(1,aa),(2,aa),(3,aa),(4,.fn cC [] [])],bq⟩),
 (192,⟨[(0,cf),(1,aa),(2,aa),(3,aa),(4,.fn cC [] [])],bq⟩),
 (194,⟨Gz,[]⟩),
 (195,⟨dF,[]⟩),
 (196,⟨[(0,cf),(1,aa),(2,aa),(3,aa),(4,.fn cC [] [])],bq⟩),
 (197,⟨dF,[]⟩),
 (198,⟨kf,[RP]⟩),
 (199,⟨[(0,dC),(1,aa),(2,aU),(3,.fn cC [] [])],ib⟩),
 (200,⟨[(0,dC),(1,aa),(2,aa),(3,aa),(4,aU),(5,.fn cC [] [])],ib⟩),
 (201,⟨[(0,dC),(1,aa),(2,aa),(3,aU),(4,.fn cC [] [])],ib⟩),
 (223,⟨Gx,[.var 204 [pq,.one (.cO kP 2)],aX,.map kP]⟩),
 (224,⟨[(0,dC),(1,.fn xh [] [])],[]⟩),
 (225,⟨[(0,dC),(1,.fn xh [] [])],[]⟩),
 (226,⟨[(0,cf),(1,.fn xj [] [])],bq⟩),
 (227,⟨[(0,cf),(1,.fn zj [] [])],bq⟩),
 (228,⟨[(0,dC),(1,.fn zj [] [])],[]⟩),
 (229,⟨[(0,dL),(1,.fn Cw [] [.aC 0 0 0])],ib⟩),
 (230,⟨[(0,.one (.row vy 0 [0])),(1,aa)],[iv]⟩),
 (231,⟨[(0,dL),(1,.fn Cz [] [.aC 0 0 0,.aC 1 0 0,.aC 2 0 0])],xr⟩),
 (232,⟨[(0,dL),(1,.fn Cy [] [.aC 0 0 0,.aC 1 0 0,.aC 2 0 0])],tO⟩),
 (233,⟨[(0,dL),(1,.fn Cx [] [.aC 0 0 0,.aC 1 0 0])],Mh⟩),
 (234,⟨[(0,dL),(1,.fn Ct [] [.aC 0 0 0,.aC 1 0 0])],Mh⟩),
 (235,⟨[(0,dL),(1,.fn Cu [] [.aC 0 0 0,.aC 1 0 0,.aC 2 0 0,.aC 3 0 0])],xt⟩),
 (236,⟨[(0,dL),(1,.fn Cv [] [.aC 0 0 0,.aC 1 0 0,.aC 2 0 0])],[CO,.var 78 [.one (.whole vy 3)],zs,n0,iv]⟩),
 (237,⟨[(0,dC),(1,.fn FU [] [])],[]⟩),
 (238,⟨[(0,dC),(1,.fn FU [] [])],[]⟩),
 (239,⟨[(0,qi),(1,qi),(2,.fn LQ [] [.aC 0 0 0,.aC 1 0 0])],Gr⟩),
 (240,⟨[(0,qi),(1,qi),(2,.fn LR [] [.aC 0 0 0])],ib⟩)]
def aoI:List (Nat×Shape):=[(3,⟨dQ,[]⟩),
 (4,⟨Mo,[bS,lG]⟩),
 (5,⟨[(0,np),(1,ak)],mf⟩),
 (6,⟨Mo,[bS,bf]⟩),
 (7,⟨dQ,[]⟩),
 (8,⟨dQ,[]⟩),
 (9,⟨kf,tQ⟩),
 (10,⟨GA,Gv⟩),
 (11,⟨dF,tQ⟩),
 (12,⟨[(0,np),(1,aa)],mf⟩),
 (13,⟨dF,[]⟩),
 (15,⟨dQ,[]⟩),
 (16,⟨[(0,L6),(1,aa)],[bS,bf]⟩),
 (17,⟨mG,[]⟩),
 (18,⟨Mp,bq⟩),
 (19,⟨Mo,[bS,bf]⟩),
 (20,⟨dQ,[]⟩),
 (21,⟨dF,tQ⟩),
 (22,⟨GA,Gv⟩),
 (23,⟨GA,Gv⟩),
 (24,⟨GA,Gv⟩),
 (25,⟨GA,Gv⟩),
 (26,⟨dQ,[]⟩),
 (27,⟨[(0,zr),(1,aa)],[]⟩),
 (28,⟨[(0,aaX)],[RT]⟩),
 (29,⟨[(0,ak),(1,aa),(2,np),(3,aa),(4,aa)],mf⟩),
 (30,⟨dF,[]⟩),
 (31,⟨kf,Gs⟩),
 (32,⟨mG,[]⟩),
 (33,⟨dQ,Ma⟩),
 (34,⟨dF,Ma⟩),
 (35,⟨[(0,.agg [.int .i64,.int .i64,.whole ar 4,.whole ag 5])],[.var 113 [aa,zq,CG,aa,zn],.dead,.dead,.map cD,bS,bf,dG]⟩),
 (36,⟨[(0,L6),(1,zp)],[bS,bf,aX]⟩),
 (37,⟨dQ,[]⟩),
 (38,⟨dQ,[]⟩),
 (39,⟨[(0,L5)],[n0]⟩),
 (40,⟨[],[n0]⟩),
 (41,⟨GB,[iv]⟩),
 (42,⟨dQ,[]⟩),
 (43,⟨dF,[]⟩),
 (44,⟨[(0,RE)],[jo]⟩),
 (45,⟨dF,[.var 88 [po,.one (.whole fN 2),aa],lG,vB]⟩),
 (46,⟨[(0,zr),(1,.one (.list kH)),(2,aa)],[.var 88 [po,.one (.whole fN 3),aa],zx,.dead,vB]⟩),
 (47,⟨[(0,aa1)],[Gq]⟩),
 (48,⟨[(0,.agg [.str,.bool,.whole iq 0,.int .i64,.int .i64])],[zy]⟩),
 (49,⟨[(0,np),(1,aa)],mf⟩),
 (50,⟨[(0,np),(1,aa),(2,aa)],mf⟩),
 (51,⟨dQ,[]⟩),
 (52,⟨dQ,[]⟩),
 (53,⟨dF,Ma⟩),
 (54,⟨mG,[]⟩),
 (55,⟨zE,[]⟩),
 (56,⟨[(0,iN)],[]⟩),
 (57,⟨dQ,[]⟩),
 (58,⟨[(0,L6),(1,zp)],[bS,bf,aX]⟩),
 (59,⟨GC,mf⟩),
 (60,⟨GB,[iv]⟩),
 (61,⟨GB,[iv]⟩),
 (62,⟨GB,[iv]⟩),
 (63,⟨GB,[iv]⟩),
 (64,⟨[],tN⟩),
 (65,⟨[],tN⟩),
 (66,⟨[(0,.agg [.int .i64,.bool,.whole ag 0,.whole ag 1,.whole ab 2,.whole ab 3,.whole ag 4,.whole dY 5,.int .i64]),(1,aa)],[bf,bf,aX,aX,bf,oC]⟩),
 (67,⟨dQ,[]⟩),
 (68,⟨dQ,[]⟩),
 (69,⟨[(0,Gm),(1,aa),(2,aa)],[]⟩),
 (70,⟨dF,[]⟩),
 (71,⟨[(0,aU),(1,.one (.AT .i64 0))],Gt⟩),
 (72,⟨dQ,zA⟩),
 (73,⟨[(0,aa),(1,ak),(2,ak)],zA⟩),
 (74,⟨[(0,lE)],zz⟩),
 (75,⟨dQ,ib⟩),
 (76,⟨mG,[]⟩),
 (77,⟨zE,[]⟩),
 (78,⟨Mm,[]⟩),
 (79,⟨[],sw⟩),
 (80,⟨[(0,iN)],[.var 153 [zl,zl],.dead]⟩),
 (81,⟨dQ,[]⟩),
 (82,⟨[(0,aa2),(1,lE),(2,aa)],[lF,bS,bf,aX]⟩),
 (83,⟨dF,vC⟩),
 (84,⟨dQ,vC⟩),
 (85,⟨[],rb⟩),
 (86,⟨[],[n0]⟩),
 (87,⟨dQ,[]⟩),
 (88,⟨[],xt⟩),
 (89,⟨[],CU⟩),
 (90,⟨[],ib⟩),
 (91,⟨[],rb⟩),
 (92,⟨[],tO⟩),
 (93,⟨[],xr⟩),
 (94,⟨dF,[]⟩),
 (95,⟨[(0,aU),(1,.one (.AT .i64 0))],pz⟩),
 (96,⟨dQ,RY⟩),
 (97,⟨dF,RY⟩),
 (98,⟨dF,[]⟩),
 (99,⟨R6,n7⟩),
 (100,⟨dQ,n7⟩),
 (101,⟨dF,[]⟩),
 (102,⟨dQ,[]⟩),
 (103,⟨Mo,[bS,lG]⟩),
 (104,⟨dQ,[]⟩),
 (105,⟨dQ,[]⟩),
 (106,⟨dQ,[]⟩),
 (107,⟨dF,[]⟩),
 (108,⟨dQ,[]⟩),
 (109,⟨dF,[]⟩),
 (110,⟨dQ,[]⟩),
 (111,⟨[(0,.one (.whole bA 0))],[RU]⟩),
 (112,⟨zF,[]⟩),
 (113,⟨kf,[py]⟩),
 (114,⟨dQ,[]⟩),
 (115,⟨dQ,[]⟩),
 (116,⟨dF,[py,aX]⟩),
 (117,⟨dQ,zA⟩),
 (118,⟨mG,[]⟩),
 (119,⟨mG,[]⟩),
 (120,⟨mG,[]⟩),
 (121,⟨Mp,bq⟩),
 (122,⟨Mm,[]⟩),
 (123,⟨Mm,[]⟩),
 (124,⟨[(0,zl)],sw⟩),
 (125,⟨[],sw⟩),
 (126,⟨dF,[]⟩),
 (127,⟨dF,[.var 204 [zp,.one (.cO kP 3)],.dead,aX,.map kP]⟩),
 (128,⟨dQ,[]⟩),
 (129,⟨dQ,[]⟩),
 (130,⟨dF,R0⟩),
 (131,⟨GC,mf⟩),
 (132,⟨[(0,iN)],[]⟩),
 (133,⟨GC,mf⟩),
 (134,⟨dF,R0⟩),
 (135,⟨dQ,R0⟩),
 (136,⟨[],n7⟩),
 (137,⟨dQ,[]⟩),
 (138,⟨[(0,CM)],n7⟩),
 (139,⟨R6,n7⟩),
 (140,⟨dF,[]⟩),
 (141,⟨dQ,[]⟩),
 (143,⟨dF,[]⟩),
 (144,⟨dQ,[]⟩),
 (145,⟨GC,mf⟩),
 (146,⟨dQ,[]⟩),
 (147,⟨dF,tP⟩),
 (148,⟨GC,mf⟩),
 (149,⟨dQ,tP⟩),
 (152,⟨[],Gr⟩),
 (153,⟨dF,[]⟩),
 (154,⟨dF,[]⟩),
 (155,⟨dF,[]⟩),
 (156,⟨Mp,bq⟩),
 (157,⟨GD,CT⟩),
 (158,⟨zG,bq⟩),
 (159,⟨mG,[]⟩),
 (160,⟨GD,CT⟩),
 (161,⟨Mp,bq⟩),
 (162,⟨dQ,[]⟩),
 (163,⟨mG,[]⟩),
 (165,⟨[(0,aa),(1,zl)],sw⟩),
 (166,⟨dF,[]⟩),
 (167,⟨dF,[]⟩),
 (168,⟨R6,n7⟩),
 (169,⟨[(0,aa),(1,ak)],n7⟩),
 (170,⟨dF,[]⟩),
 (171,⟨[],[.var 23 [aaE],.var 22 [RD],.dead,.dead,bS,RS]⟩),
 (172,⟨[],ib⟩),
 (173,⟨[],bq⟩),
 (174,⟨dF,[]⟩),
 (175,⟨GD,CT⟩),
 (176,⟨dQ,[]⟩),
 (178,⟨dF,[]⟩),
 (179,⟨dQ,[]⟩),
 (180,⟨[],bq⟩),
 (181,⟨dF,[]⟩),
 (182,⟨dF,[]⟩),
 (183,⟨dF,[]⟩),
 (185,⟨[],bq⟩),
 (186,⟨[],bq⟩),
 (187,⟨[],bq⟩),
 (188,⟨Gy,[]⟩),
 (189,⟨[],bq⟩),
 (190,⟨dQ,bq⟩),
 (191,⟨dF,bq⟩),
 (192,⟨[(0,aa),(1,ak)],bq⟩),
 (194,⟨dF,[]⟩),
 (195,⟨dQ,[]⟩),
 (196,⟨[],bq⟩),
 (197,⟨Gz,[]⟩),
 (198,⟨Gz,[RP]⟩),
 (199,⟨dF,ib⟩),
 (200,⟨dF,ib⟩),
 (201,⟨Gy,ib⟩),
 (223,⟨dF,[.var 204 [lE,.one (.cO kP 2)],.dead,.map kP,aX]⟩),
 (224,⟨dQ,[]⟩),
 (225,⟨dF,[]⟩),
 (226,⟨GD,CT⟩),
 (227,⟨GD,CT⟩),
 (228,⟨dF,[]⟩),
 (229,⟨[],ib⟩),
 (230,⟨[],[iv]⟩),
 (231,⟨[],xr⟩),
 (232,⟨[],tO⟩),
 (233,⟨[],rb⟩),
 (234,⟨[],rb⟩),
 (235,⟨[],xt⟩),
 (236,⟨[],CU⟩),
 (237,⟨dQ,[]⟩),
 (238,⟨dF,[]⟩),
 (239,⟨[],Gr⟩),
 (240,⟨[],ib⟩)]
def aoJ:List (Nat×Shape):=[(5,⟨[(0,.one (.sub ab 0)),(1,ak)],mf⟩),
 (71,⟨[(0,.one (.eB)),(1,aa)],[]⟩),
 (95,⟨[(0,.one (.eB)),(1,aa)],[]⟩),
 (157,⟨zG,bq⟩),
 (160,⟨zG,bq⟩),
 (175,⟨zG,bq⟩),
 (226,⟨zG,bq⟩),
 (227,⟨zG,bq⟩)]
def aoK (n:Nat):List Nat:=(List.range (n.log2+1)).filter n.testBit
def acY:Nat→List Nat→List (Nat×List Nat)
 | _,[]=>[]
 | i,n::l=>(i,aoK n)::acY (i+1) l
def Tx (l:List (Nat×List Nat)):List (Nat×List (Nat×List Nat)):=l.map fun e=>(e.1,acY 0 e.2)
def aoL:List (Nat×List (Nat×List Nat)):=Tx [(3,[1,8,56,240,4]),
 (4,[19,50,16]),
 (5,[2,48,131088,12,12]),
 (6,[6,262,4,14,458766,983054,458814,458782,458766,458766,4]),
 (7,[3,16]),
 (8,[0,6,1]),
 (9,[1,33,1,4]),
 (10,[71,327,839,64,33095,64,4194375,64,64]),
 (11,[1,4]),
 (12,[6,70,524358,48,8388614,48,386,1073742210,48,642,25769804418,60129542786,25769805442,25769839234,25769804418,1125925676681858,25769804418,288230401921516162,25769804418,25769804418,48]),
 (13,[2,32770,4,10,1048586,4,68719476746,4,1924145348618,4123168604170,1924145348650,283399122059306,4,3942573819297802,8446173446668298,3942573819297930,2309785583032991754,4,3942573819297802,1924145348618,4]),
 (15,[3,1027,16,12291,28675,12323,16789507,16,12291,16]),
 (16,[22,86,8278,48,144,4194448,400,67109264,48,48]),
 (17,[19,16]),
 (18,[5,4]),
 (19,[6,134,4,12,4]),
 (20,[6,16390,16,38,102,102,16]),
 (21,[3,16387,16,3,16]),
 (22,[71,192,393408,917696,393664,235274688,503710144,235276224,235274688,235274688,393408,192,64]),
 (23,[71,199,451,451,963,134218691,963,963,1475,140737488356803,1475,3523,7619,4503599627378115,7619,7619,11715,2305843009213705667,11715,28099,28099,11715,64]),
 (24,[19,51,115,29360243,62914675,29360499,29360499,29361011,29362035,274907268979,29362035,29364083,29368179,562949982789491,7881299377266547,16888498632007539,7881299377291123,584342051680698227,7881299377266547,7881299377266547,29368179,29362035,29360243,29360243,16]),
 (25,[71,199,451,451,963,16778179,963,963,1987,4035,137438957507,4035,4035,963,64]),
 (26,[1,4]),
 (28,[0,2,114,242,122,114,114,1]),
 (29,[14,6158,67115022,1984,8589936654,1984,10254,3848290707468,8246337218572,3848290756620,285323267467276,1984,3848291182604,3848291051532,18446747922000603148,1984,92233724216838809612,1984,2361183245283113576460,3848290707468,1984]),
 (30,[6,1030,16,8198,16,131072,16,16]),
 (31,[6,38,36,32,16]),
 (32,[6,38,4,4]),
 (33,[1,4]),
 (34,[1,9,196617,458761,196633,196729,274878103673,4,197049,2251799813882041,288230376151908409,4,196761,196617,196617,1,0,4]),
 (35,[5,13,14680076,31457292,14680108,14680076,14680076,4]),
 (36,[6,54,118,246,1879048438,4026532086,1879049206,551634862582,1879049718,985164297537014,2111064204379638,985164297543158,985164297537014,985164297537014,1879049462,1879048438,1879048438,24676,57444,1083197534374707740536791108,2321137573660088015435915332,1083197534374707740536987716,1083197534374707740536987716,317995847591432058114712789060,1083197534374707740536791108,1083197534374707740536791108,12]),
 (37,[2,4]),
 (38,[3,65539,16,786435,1835011,786467,17180655619,16,786435,16]),
 (39,[2,4]),
 (40,[0]),
 (41,[28,540,1564,64,131612,64,67109404,67109404,64,8589934620,64,156,128,64]),
 (42,[3,16]),
 (43,[3,67,16,3,2051,1,16]),
 (44,[3,35,99,4195,99,227,67109091,227,227,16]),
 (46,[5,101,134217829,28,165,17179869349,28,421,933,36028797018964901,933,933,933,541598767187353870268367269,1160568786830044007717929381,541598767187353870268370341,541598767187353870268368293,541598767187353870268368293,541598767187353870268368293,541598767187353870268372389,664613998434056703639257400408544677,541598767187353870268372389,541598767187353870268372389,541598767187353870268367269,8613,40922045845265281709703175316055924550366111211940,87690098239854175092221089962976981179355952587172,40922045845265281709703175316055924550366111261092,40922045845265281709703175316055924550366111261092,335274321610258453047598115364446189841149549088924068,718398206826730667637184872152023485745834329634824612,335274321610258453047598115364446189841149549089120676,335274321610258453047598115364446189841149549088924068,335274321610258453047598115364446189841149549088924068,40922045845265281709703175316055924550366111211940,28]),
 (47,[0,1]),
 (48,[6,14,12582924,29360140,12582956,12583244,8602517580,12582924,12582924,4]),
 (49,[6,70,16454,48,134,16777350,48,390,469762434,1006633346,469763970,1099981390722,469762434,469762434,48]),
 (50,[75,6152,16783368,1792,2147485704,1792,8589936648,1792,59392,2199023298560,1792,70368744185856,1792,1792]),
 (51,[2,10,4]),
 (52,[6,518,16,134217734,16,536870918,16,1610612742,1610612742,16,137975824390,137975824390,137975824390,17592186044422,16,35184908959750,35184372088838,2251799813685254,16,63050394783186946,135107988821114882,63050394783187010,4674736413210574850,16,63050394783186946,16]),
 (53,[9,41,41,32,16]),
 (54,[6,518,4,14,7340046,15728654,7340094,7340046,7340046,4]),
 (55,[22,48]),
 (56,[2,66,4,10,8,4]),
 (57,[2,66,194,194,4,1090,4,32834,32834,3670016,7864320,3670032,137887744,4,3670016,4,536870914,4,4]),
 (58,[6,8198,12,54,180,6442451124,15032385716,6442451380,6442451124,6442451124,3848290697364,8246337208468,3848290698900,3848290697364,3848290697364,12]),
 (59,[2,262146,4,26,117440538,251658266,117440634,68836917306,117440538,117440538,154,410,492581209244058,1055531162665370,492581209245594,492581209247642,2018105214271228826,4323948223484922778,2018105214271241114,2018105214271228826,2018105214271228826,492581209295770,1208925820107210383969178,492581209263002,492581209260954,492581209244058,492581209244058,19807040628566084398385987970,4,26]),
 (60,[14,142,7340172,15728780,7340684,7341708,7341708,7342732,7346316,7340172,7340172,64]),
 (61,[28,412,408,920,268436376,920,920,1288,3336,7432,281474976718088,7432,15624,15624,15624,7432,64]),
 (62,[28,156,7340188,15728796,7340700,7341212,7340188,7340188,64]),
 (63,[28,140,396,128,64]),
 (64,[450,962,498,16882,498,498,450]),
 (65,[15,1039,0,1048581,0]),
 (66,[19,208,65744,48,2097232,336,33554768,48,48]),
 (67,[3,16]),
 (68,[6,16]),
 (69,[5,8197,28,37,229,67108965,28,485,4398046511460,28,516,1540,4503599627372036,28,28]),
 (70,[2,514,4,26,67108874,4,1879048202,4026531850,1879048298,4399925559306,4,1879048202,9444732965739290427392,4,4]),
 (71,[35,291,16675,192,524323,192,4194339,192,547,17179869731,192,1537,1024,1024,192]),
 (72,[1,4]),
 (73,[19,147,16531,147,7340179,15728787,7340947,7340179,7340179,2305843009213694099,112,36893488147419103379,112,112]),
 (74,[1,9,229385,491529,229433,229385,229385,4]),
 (75,[14,65550,64,14,58720262,125829126,58720518,17238589446,64,58720262,64]),
 (76,[19,83,211,16,2131,16,32787,16,2097171,16,49,67108912,201326640,137438953520,16,16,35184372088880,140737488355376,16,144115188075855920,16,16,16]),
 (77,[6,134,12,12]),
 (78,[28,124,4220,12412,16,266364,16777336,56,16,2147487804,2147487804,2147487804,16,274877911100,144,400,16,144115188075855932,16,16]),
 (79,[9,41,105,0,1065,0,16425,0,4194345,0,268435497,0,17179869225,0,1099511627817,9,0,281474976710665,1,0]),
 (80,[1,4]),
 (81,[3,16]),
 (82,[271,2319,2317,6413,14605,33569037,14605,30989,63757,206158493965,481036400909,206158559501,206158493965,206158493965,4503599627434253,1792,30989,14605,1792]),
 (83,[7,32]),
 (84,[3,8]),
 (85,[0]),
 (86,[67,4163,67,67]),
 (87,[2,4]),
 (88,[93,69,0]),
 (89,[4109,0]),
 (90,[0]),
 (91,[135,0]),
 (92,[3087,7183,3119,68655,3087,3087,3087]),
 (93,[47,111,8303,111,111,47,41,0]),
 (94,[1,17,4,4]),
 (95,[3,4194307,48,67,67,3848290697282,8246337208386,3848290697538,144119036366553410,48,3848290697282,3848290697282,578,4722366482869645214272,576,270799383593676935134184000,580284393415022003858965056,270799383593676935134187072,270799383593676935134191168,270799383593676935134215744,81129909213990275372724139343424,270799383593676935134192192,270799383593676935134192192,270799383593676935134184000,270799383593676935134184000,48]),
 (96,[1,4]),
 (97,[1,9,25,939524121,2013265945,939524217,939524281,939525049,939526073,73786976295777732537,4,302231454903658233202105,939524409,158456325028528675188027426105,939524409,939524121,939524121,1,0,4]),
 (98,[3,387,899,419,65955,16,387,16]),
 (99,[5,21,21,65557,21,117,33554485,12,21,8589934612,12,12]),
 (100,[3,257,16,0,16]),
 (101,[2,10,266,4,4]),
 (102,[2,10,16777226,4,2251799813685258,4,63050394783186954,135107988821114890,63050394783186986,295210955574136012810,4,63050394783186954,4]),
 (103,[6,14,3670030,7864334,3670078,3670078,120262754366,257701707838,120262754558,120262754366,120262754366,3670030,4]),
 (104,[3,1027,16,12291,28675,12323,16789507,16,12291,16]),
 (105,[3,1027,16,12291,28675,12323,16789507,16,12291,16]),
 (106,[3,1027,16,12291,28675,12323,16789507,16,12291,16]),
 (107,[1,9,137,4,8192,4,4]),
 (108,[3,35,229411,491555,229603,4398046740643,16,229411,229411,985162418487331,2111062325329955,985162418487843,64035557201674787,136093151239602723,64035557201676835,590359845915907326499,16,64035557201674787,985162418487331,16]),
 (109,[2,34,4,4]),
 (110,[1,9,456,968,488,456,456,4]),
 (111,[2,130,386,4,4098,4,10,3670026,7864330,3670074,3670042,2151153674,3670026,3670026,549755813898,8,4]),
 (112,[35,419,931,931,419,1411,25769805187,60129543555,25769807235,987842481539,2087354109315,987842489731,4611687006269877635,987842481539,987842481539,25769805187,64]),
 (113,[7,133,1835137,3932289,1835649,119275649,253493377,119277697,8796212299905,119281793,844425049413761,1970324956256385,844425049421953,844425049413761,844425049413761,119275649,119275649,1835137,64]),
 (114,[3,16]),
 (115,[1,4]),
 (116,[7,135,391,14725,31109,15749,277893,802181,14725,14725,537148805,14725,14725,1099511905669,14725,14725,4611686018427403653,14725,14725,64]),
 (117,[1,9,2057,9,9,274877906953,4,9,4]),
 (118,[5,37,4,12,4]),
 (119,[5,37,4,12,4]),
 (120,[5,37,4,12,4]),
 (121,[1,1]),
 (122,[28,124,252,14680316,31457532,14681084,14681596,14681340,4398061191420,14680316,14680316,2200,72057594037930136,216172782113786008,2064,4683743612465318040,2064,1180591620717411305616,2064,16]),
 (123,[28,60,124,252,7340276,15728884,7341044,275776500,7340276,7341428,7340276,7340276,2288,126100789566376144,270215977642232016,126100789566388432,9349472826421164240,126100789566376144,126100789566396624,126100789566376144,126100789566376144,16]),
 (124,[3,3,0,16]),
 (125,[7181,15373,7949,269837,7693,67116557,7181,7693,7181,7181,7181]),
 (126,[3,387,899,419,65955,16,387,16]),
 (127,[3,99,131107,4194307,3,35,35,32,16]),
 (128,[2,4]),
 (129,[1,4097,4,57345,122881,57361,67166209,4,57345,4]),
 (130,[63,8255,8255,8253,8249,8241,8225,8192,4096]),
 (131,[1,1025,4,8,49160,114696,49176,49160,49160,4]),
 (132,[1,9,3592,7688,3640,3592,3592,4]),
 (133,[3,4194307,16,35,469762082,1006632994,469762274,469762082,469762082,16]),
 (134,[7,263,64,64]),
 (135,[7,135,64]),
 (136,[9]),
 (137,[1,4]),
 (138,[1,4097,4,4]),
 (139,[5,53,16405,12,21,524309,21,213,268435541,12,21,12]),
 (140,[2,32,4,4]),
 (141,[3,898,1922,962,525186,16,898,16]),
 (143,[1,513,4,4097,4,57345,122881,57361,8445969,4,117497857,251715585,117497921,137556451329,4,117497857,57345,4]),
 (144,[3,35,458785,983073,458913,34013345,458913,3758555297,8053522593,3758555809,3758556833,246294363178657,527769339889313,246294363184801,1153167798970025633,16,246294363178657,3758555297,458785,16]),
 (146,[1,4]),
 (147,[3,387,899,419,65955,16,387,16]),
 (148,[1,8,1544,3592,1560,1544,1544,4]),
 (149,[3,195,451,211,536871107,8,195,8]),
 (150,[28,12,57356,122892,57484,57356,57356]),
 (152,[60,316,56,0]),
 (153,[1,9,456,968,488,456,456,4]),
 (154,[7,135,524423,135,391,536871303,897,35184372089729,897,64,54043195528446211,126100789566374147,54043195528446211,54043195528446211,64]),
 (155,[3,387,899,419,65955,16,387,16]),
 (156,[1,1]),
 (157,[3,35,4131,16,99,524387,99,227,536871139,99,99,33,16]),
 (158,[3,35,1825,3873,1953,133025,1825,1825,1825,16]),
 (159,[99,355,867,64,4163,64,64]),
 (160,[1,1,4]),
 (161,[1,1]),
 (162,[2,4]),
 (163,[28,88,16,16]),
 (165,[3,3,2,48]),
 (166,[1,8,24,4,72,4,264,4,1032,4,4096,4,4]),
 (167,[3,16]),
 (168,[5,21,2069,12,21,1048597,3145749,12,16777237,101,12,12]),
 (169,[1,65,12,16385,12,65537,12,34359738369,12,17,17,12]),
 (170,[6,16390,16,38,1835042,3932194,1835170,1835042,8591769634,1835042,16]),
 (172,[12,140,0]),
 (173,[19,0]),
 (174,[12,524,16,524300,16,16]),
 (175,[3,1027,16,35,32803,35,268435491,99,227,34359738595,227,562949953421539,227,227,33,16,16]),
 (176,[12,16]),
 (178,[3,16]),
 (179,[2,18,50,4,65554,4,4294967314,4,8796093022210,4,4]),
 (180,[1055,3103,7199,33561631,0,4294974495,0,549755821087,7199,7199,31775,72057594037959711,15391,15391,31775,37778931862957161724959,1208925819614629174721567,158456325028528675187087916063,35869,3103,200735,71711,858143,1902623,42535295865117307932921825928972929055,68639,68637,3103,68639,68635,3103]),
 (181,[1,4,4]),
 (182,[3,35,99,2115,4096,16,16,8195,16,65539,16,524288,16,16]),
 (183,[7,14343,30727,14727,2111879,64,15111,15367,2147499015,64,14343,274877906944,64,64]),
 (185,[271,16655,271,783,17179869967,783,783]),
 (186,[271,783,1801,3849,2101001,3849,3849,4873,8589939465,4873,4873,4873]),
 (187,[259,131331,771,1795,3843,34359742211,3843,7939,35184372096771,7939,3843]),
 (188,[15,1035,3083,7179,15371,31753,17179900937,68719507465,30729,30729,30729,10240,36028797018972160,768,180143985094828032,768,1152921504606855168,768]),
 (189,[261,769,33537,769,769,769]),
 (190,[15,527,1551,67087,1551,68719478287,1551,2199023257103,256,35184372090383,256,1551,36893488147419104783,3599,590295810358705655311,3599,19342813113834066795302415,3599,20282409603651670423947251287567,5647,649037107316853453566312041158159,5647,21267647932558653966460912964485518863,5647,256]),
 (191,[31,23,6163,140737488361491,6163,36893488147419109395,6163,1180591620717411309587,6163,6163,6163,1024]),
 (192,[31,23,12307,140737488367635,12307,73786976294838218771,12307,2361183241434822619155,8192,3072,12307,12307,12307,1329227995784915872903807060280356883,12307,696898287454081973172991196020261297074195,12307,22300745198530623141535718272648361505992723,12307,12307,12307,8192,3072]),
 (194,[5,21,1,5,261,5,5,16389,5,5,4]),
 (195,[1,4]),
 (196,[1053,3101,265245,1099511630877,3101,288230376151714845,2077,1053]),
 (197,[1,4]),
 (198,[1,1,1,1,4]),
 (199,[15,256]),
 (200,[63,63,55,4,4096]),
 (201,[31,4194318,6,3072,3072])]++[(27,[(0,[1,2]),(1,[1,2,4]),(2,[1,2,4,13]),(3,[2,3]),(4,[1,2,5,2000011]),(5,[2,5,6,2000011]),(6,[2,5,6,20,2000011]),(7,[2,3]),(8,[2,7,8,9]),(9,[2,7,8,9,29]),(10,[2,3]),(11,[2,7]),(12,[2,3])]),(45,[(0,[0,3,2000006]),(1,[0,3,5,2000006]),(2,[0,3,5,17,2000006]),(3,[4]),(4,[0,3,5,22,2000006]),(5,[0,3,5,2000006]),(6,[0,3,5,33,34,2000006]),(7,[0,3,5,33,34,35,2000006]),(8,[0,3,5,6,33,34,2000006]),(9,[0,3,5,6,33,34,37,38,2000006]),(10,[0,3,5,6,33,34,37,38,39,2000006]),(11,[0,3,5,6,7,33,34,37,38,2000006]),(12,[0,3,5,6,33,34,37,38,2000006]),(13,[0,3,5,6,33,34,37,38,2000006]),(14,[0,3,5,33,34,2000006]),(15,[0,5,2000006]),(16,[]),(17,[4])]),(145,[(0,[0]),(1,[0,3,4,1000007]),(2,[0,3,4,5,1000007]),(3,[0,3,4,5,6,1000007]),(4,[0,3,4,5,6,7,1000007]),(5,[0,3,4,5,6,7,17,18,1000007]),(6,[0,3,4,5,6,7,17,18,19,1000007]),(7,[0,3,4,5,6,7,8,17,18,1000007]),(8,[0,3,4,5,6,7,8,17,18,24,1000007]),(9,[0,3,4,5,6,7,8,17,18,1000007]),(10,[0,3,4,5,6,7,17,18,1000007]),(11,[0,3,4,5,6,7,17,18,35,1000007]),(12,[0,3,4,5,6,7,17,18,1000007]),(13,[0,3,4,5,6,7,9,17,18,1000007]),(14,[0,3,4,5,6,7,9,17,18,45,46,47,1000007]),(15,[0,3,4,5,6,7,9,17,18,45,46,47,48,1000007]),(16,[0,3,4,5,6,7,9,11,17,18,45,46,47,1000007]),(17,[0,3,4,5,6,7,9,11,17,18,45,46,47,1000007]),(18,[0,3,4,5,6,7,9,17,18,45,46,47,1000007]),(19,[0,3,4,5,6,7,9,17,18,45,46,47,1000007]),(20,[0,3,4,5,6,7,17,18,1000007]),(21,[2])]),(171,[(0,[0,1,2,8,3000010]),(1,[0,2,3000010]),(2,[3000010]),(9999,[3000010])])]
def aoM:List (Nat×List (Nat×List Nat)):=Tx [(3,[]),
 (4,[]),
 (5,[0,0,0,0,0,0,0,0,0,0,0,0,0,0,0,0,0,16]),
 (6,[0,0,0,0,0,0,0,0,6,0,0,0,0,0,0,0,0,0,0,458766]),
 (7,[]),
 (8,[]),
 (9,[0,0,0,0,0,1]),
 (10,[0,0,0,0,0,0,0,0,0,71,0,0,0,0,0,71,0,0,0,0,0,0,71]),
 (11,[]),
 (12,[0,0,0,0,0,0,0,0,0,0,0,0,0,0,0,0,0,0,0,6,0,0,0,6,0,0,0,0,0,0,130,0,0,0,0,25769804418,0,0,0,0,0,0,0,0,0,0,0,0,0,0,25769804418,0,0,0,0,0,0,0,25769804418]),
 (13,[0,0,0,0,0,0,0,0,0,0,0,0,0,0,0,2,0,0,0,0,10,0,0,0,0,0,0,0,0,0,0,0,0,0,0,0,10,0,0,0,0,1924145348618,0,0,0,0,0,0,1924145348650,0,0,0,3942573819297802,0,0,0,0,0,0,0,0,3942573819297802]),
 (15,[0,0,0,0,0,0,0,0,0,0,3,0,0,0,12291,0,0,0,0,0,0,0,0,0,12291]),
 (16,[0,0,0,0,0,0,0,0,0,0,0,0,0,22,0,0,0,0,0,0,0,0,144,0,0,0,144]),
 (17,[]),
 (18,[]),
 (19,[0,0,0,0,0,0,0,6]),
 (20,[0,0,0,0,0,0,0,0,0,0,0,0,0,0,6]),
 (21,[0,0,0,0,0,0,0,0,0,0,0,0,0,0,3]),
 (22,[0,0,0,0,0,0,0,0,0,0,0,0,0,0,0,0,0,0,0,393408,0,0,0,0,0,0,0,0,235274688]),
 (23,[0,0,0,0,0,0,0,0,0,0,0,0,0,0,0,0,0,0,0,0,0,0,0,0,0,0,0,963,0,0,0,0,0,0,0,0,0,0,0,0,0,0,0,0,0,0,0,1475,0,0,0,0,7619,0,0,0,0,0,0,0,0,11715]),
 (24,[0,0,0,0,0,0,0,0,0,0,0,0,0,0,0,0,0,0,0,0,0,0,0,0,0,29360243,0,0,0,0,0,0,0,0,0,0,0,0,29362035,0,0,0,0,0,0,0,0,0,0,29368179,0,0,0,7881299377266547,0,0,0,0,0,7881299377266547]),
 (25,[0,0,0,0,0,0,0,0,0,0,0,0,0,0,0,0,0,0,0,0,0,0,0,0,963,0,0,0,0,0,0,0,0,0,0,0,0,4035]),
 (26,[]),
 (28,[0,0,0,0,0,0,0,114]),
 (29,[0,0,0,0,0,0,0,0,0,0,0,0,0,0,0,0,0,0,0,0,0,0,0,0,0,0,2062,0,0,0,0,0,0,2062,0,0,0,0,0,0,0,0,3848290707468,0,0,0,0,0,3848290756620,0,0,0,0,0,0,0,0,0,0,0,0,0,0,0,0,0,3848290707468,0,0,0,0,3848290707468]),
 (30,[0,0,0,0,0,0,0,0,0,0,6,0,0,6,0,0,0,0]),
 (31,[]),
 (32,[0,0,0,0,0,6]),
 (33,[]),
 (34,[0,0,0,0,0,0,0,0,0,0,0,0,0,0,0,0,0,0,196617,0,0,0,0,0,0,0,0,0,0,0,0,0,0,0,0,0,0,0,196665,0,0,0,0,0,0,0,0,0,0,0,0,196761,0,0,0,0,0,0,196665]),
 (35,[0,0,0,0,0,0,0,0,0,0,0,0,0,0,0,0,0,0,0,0,0,0,0,0,14680076]),
 (36,[0,0,0,0,0,0,0,0,0,0,0,0,0,0,0,0,0,0,0,0,0,0,0,0,0,0,0,0,0,0,0,1879048438,0,0,0,0,0,0,0,1879048694,0,0,0,0,0,0,0,0,0,0,985164297537014,0,0,0,0,0,0,0,0,0,0,0,0,0,0,0,0,0,0,0,0,0,0,0,0,0,0,0,0,0,0,0,0,0,0,0,0,0,0,0,1083197534374707740536791108,0,0,0,0,0,0,0,1083197534374707740536791108]),
 (37,[]),
 (38,[0,0,0,0,0,0,0,0,0,0,0,0,0,0,0,0,3,0,0,0,786435,0,0,0,0,0,0,0,0,0,0,0,0,0,786435]),
 (39,[]),
 (40,[]),
 (41,[0,0,0,0,0,0,0,0,0,0,28,0,0,0,0,0,0,28,0,0,0,0,0,0,0,0,67109404,0,0,0,0,0,0,28]),
 (42,[]),
 (43,[0,0,0,0,0,0,3,0,0,0,0,1]),
 (44,[0,0,0,0,0,0,0,0,0,0,0,0,99,0,0,0,0,0,0,0,0,0,0,0,0,0,227]),
 (46,[0,0,0,0,0,0,0,0,0,0,0,0,0,0,0,0,0,0,0,0,0,0,0,0,0,0,0,37,0,0,0,0,0,0,165,0,0,0,0,0,0,0,0,0,0,0,0,0,0,0,0,0,0,0,0,933,0,0,0,0,0,0,0,0,0,0,0,0,0,0,0,0,0,0,0,0,0,0,0,0,0,0,0,0,0,0,0,0,0,541598767187353870268367269,0,0,0,0,0,0,0,0,0,0,0,0,0,0,0,0,0,0,0,0,0,0,0,0,0,0,0,0,0,541598767187353870268372389,0,0,0,0,0,0,0,0,0,0,0,0,0,0,0,0,0,0,0,0,0,0,0,0,0,0,0,0,0,0,0,0,0,0,0,0,0,0,0,0,0,0,0,0,0,40922045845265281709703175316055924550366111211940,0,0,0,0,0,0,0,0,0,0,0,0,335274321610258453047598115364446189841149549088924068]),
 (47,[]),
 (48,[0,0,0,0,0,0,0,0,0,0,0,0,0,0,0,0,0,0,0,0,0,0,0,0,12582924,0,0,0,0,0,0,0,0,12582924]),
 (49,[0,0,0,0,0,0,0,0,0,0,0,0,0,0,6,0,0,0,0,0,0,0,0,0,134,0,0,0,0,469762434,0,0,0,0,0,0,0,0,0,0,469762434]),
 (50,[0,0,0,0,0,0,0,0,0,0,0,0,0,0,0,0,0,0,0,0,0,0,0,0,2056,0,0,0,0,0,0,2056,0,2056,0,0,0,0,0,0,0,0,0,0,0,0,0]),
 (51,[]),
 (52,[0,0,0,0,0,0,0,0,0,6,0,0,0,0,0,0,0,0,0,0,0,0,0,0,0,0,0,6,0,0,1610612742,0,0,0,0,0,0,137975824390,0,0,0,0,0,0,6,35184372088838,0,0,0,0,0,6,0,0,0,0,63050394783186946,0,0,0,0,0,63050394783186946]),
 (53,[]),
 (54,[0,0,0,0,0,0,0,0,0,6,0,0,0,0,0,0,0,0,0,0,0,0,0,7340046]),
 (55,[]),
 (56,[0,0,0,0,0,0,2]),
 (57,[0,0,0,0,0,0,0,194,0,0,0,0,0,0,0,32834,0,0,0,0,0,0,3670016,0,0,0,0,3670016,0,0]),
 (58,[0,0,0,0,0,0,0,0,0,0,0,0,0,6,0,0,0,0,0,0,0,0,0,0,0,0,0,0,0,0,0,0,0,6442451124,0,0,0,0,0,0,0,0,3848290697364]),
 (59,[0,0,0,0,0,0,0,0,0,0,0,0,0,0,0,0,0,0,2,0,0,0,0,0,0,0,0,117440538,0,0,0,0,0,0,0,0,117440538,0,0,0,0,0,0,0,0,0,0,0,0,492581209244058,0,0,0,0,0,0,0,0,0,0,0,2018105214271228826,0,0,0,0,0,0,0,0,0,0,0,0,0,0,0,0,0,0,492581209260954,0,0,0,0,0,0,0,0,0,0,0,0,0,386]),
 (60,[0,0,0,0,0,0,0,0,0,0,0,0,0,0,0,0,0,0,0,0,0,0,0,7340172]),
 (61,[0,0,0,0,0,0,0,0,0,0,0,0,0,0,0,0,0,0,0,0,0,0,0,0,0,0,0,0,920,0,0,0,0,0,0,0,0,0,0,0,0,0,0,0,0,0,0,0,7432]),
 (62,[0,0,0,0,0,0,0,0,0,0,0,0,0,0,0,0,0,0,0,0,0,0,0,7340188]),
 (63,[]),
 (64,[0,0,0,0,0,0,0,0,0,450,0,0,0,0,498]),
 (65,[0,0,0,0,0,0,0,0,0,0,0,0,0,0,0,0,0,0,0,0,0]),
 (66,[0,0,0,0,0,0,0,0,0,0,0,0,0,0,0,0,80,0,0,0,0,80,0,0,0,80]),
 (67,[]),
 (68,[]),
 (69,[0,0,0,0,0,0,0,0,0,0,0,0,0,5,0,0,0,0,0,0,0,0,0,0,0,0,101,0,0,0,0,0,0,0,0,0,0,0,0,0,0,0,324,0,0,0,0,0,0,0,0,0,516]),
 (70,[0,0,0,0,0,0,0,0,0,2,0,0,0,0,0,0,0,0,0,0,0,0,0,0,0,0,10,0,0,0,0,1879048202,0,0,0,0,0,0,0,0,0,0,1879048202,0,0,0,0,0,0,0,0,0,0,0,0,0,0,0,0,0,0,0,0,0,0,0,0,0,0,0,0,0,0,0]),
 (71,[0,0,0,0,0,0,0,0,0,0,0,0,0,0,35,0,0,0,0,35,0,0,35,0,0,0,0,0,0,0,0,0,0,0,547]),
 (72,[]),
 (73,[0,0,0,0,0,0,0,0,0,0,0,0,0,0,147,0,0,0,0,0,0,0,0,7340179,0,0,0,0,0,0,0,0,0,0,0,0,0,0,0,0,0,0,0,0,0,0,0,0,0,0,0,0,0,0,0,0,0,0,0,0,0,147,0,0,0,147]),
 (74,[0,0,0,0,0,0,0,0,0,0,0,0,0,0,0,0,0,0,229385]),
 (75,[0,0,0,0,0,0,0,0,0,0,0,0,0,0,0,0,14,0,0,0,0,0,0,0,0,0,58720262,0,0,0,0,0,0,0,58720262]),
 (76,[0,0,0,0,0,0,0,19,0,0,0,19,0,0,0,19,0,0,0,0,0,19,0,0,0,0,0,16,0,0,0,0,0,0,0,0,0,48,0,0,0,0,0,0,0,16,0,48,0,0,0,0,0,0,0,0,0,48]),
 (77,[0,0,0,0,0,0,0,6]),
 (78,[0,0,0,0,0,0,0,0,0,0,0,0,0,48,0,0,0,0,48,0,0,0,0,0,56,0,0,0,0,0,0,2147487804,0,0,0,0,0,0,48,0,0,0,0,0,0,0,0,0,0,0,0,0,0,0,0,0,0,48]),
 (79,[0,0,0,0,0,0,0,0,0,0,0,0,0,0,0,0,0,0,0,0,0,0,0,0,0,0,0,0,0,0,0,0,0,0,0,0,0,0,0,0,0,0,0,0,0,0,0,0,0]),
 (80,[]),
 (81,[]),
 (82,[0,0,0,0,0,0,0,0,0,0,0,0,0,0,0,0,0,0,0,0,0,0,0,0,0,14605,0,0,0,0,0,0,0,0,0,0,0,0,206158493965,0,0,0,0,0,0,0,0,0,0,0,0,0,63757]),
 (83,[]),
 (84,[]),
 (85,[]),
 (86,[0,0,0,0,0,0,0,0,0,0,0,0,67]),
 (87,[]),
 (88,[]),
 (89,[0,0,0,0,0,0,0,0,0,0,0,0,0]),
 (90,[]),
 (91,[0,0,0,0,0,0,0,0]),
 (92,[0,0,0,0,0,0,0,0,0,0,0,0,3087,0,0,0,3087]),
 (93,[0,0,0,0,0,0,0,0,0,0,0,0,0,111]),
 (94,[0,0,0,0,1]),
 (95,[0,0,0,0,0,0,0,0,0,0,0,0,0,0,0,0,0,0,0,0,0,0,3,0,0,0,0,0,0,0,0,0,0,0,0,0,0,0,0,0,0,0,3848290697282,0,0,0,0,0,0,0,0,0,0,0,0,0,0,3848290697538,0,0,0,0,0,0,0,0,0,0,0,0,0,0,576,0,0,0,0,0,0,0,0,0,0,0,0,0,0,0,270799383593676935134184000,0,0,0,0,0,0,0,0,0,0,0,0,0,0,0,0,0,270799383593676935134192192]),
 (96,[]),
 (97,[0,0,0,0,0,0,0,0,0,0,0,0,0,0,0,0,0,0,0,0,0,0,0,0,0,0,0,0,0,0,939524121,0,0,0,0,0,0,0,0,0,0,0,0,0,0,0,0,0,0,0,0,0,0,0,0,0,0,0,0,0,0,0,0,0,0,0,939524409,0,0,0,0,0,0,0,0,0,0,0,939524409,0,0,0,0,0,0,0,0,0,0,0,0,0,0,0,0,0,0,939524409]),
 (98,[0,0,0,0,0,0,0,0,0,387,0,0,0,0,0,0,387]),
 (99,[0,0,0,0,0,0,0,0,0,0,0,0,0,0,0,0,21,0,0,0,0,0,0,0,0,53,0,0,0,0,0,0,0,20]),
 (100,[0,0,0,0,0,0,0,0,1]),
 (101,[0,0,0,0,0,0,0,0,2]),
 (102,[0,0,0,0,0,0,0,0,0,0,0,0,0,0,0,0,0,0,0,0,0,0,0,0,10,0,0,0,0,0,0,0,0,0,0,0,0,0,0,0,0,0,0,0,0,0,0,0,0,0,0,10,0,0,0,0,63050394783186954,0,0,0,0,0,0,0,0,0,0,0,63050394783186954]),
 (103,[0,0,0,0,0,0,0,0,0,0,0,0,0,0,0,0,0,0,0,0,0,0,3670030,0,0,0,0,0,0,0,0,0,0,0,0,0,0,120262754366]),
 (104,[0,0,0,0,0,0,0,0,0,0,3,0,0,0,12291,0,0,0,0,0,0,0,0,0,12291]),
 (105,[0,0,0,0,0,0,0,0,0,0,3,0,0,0,12291,0,0,0,0,0,0,0,0,0,12291]),
 (106,[0,0,0,0,0,0,0,0,0,0,3,0,0,0,12291,0,0,0,0,0,0,0,0,0,12291]),
 (107,[0,0,0,0,0,0,0,1,0,0,0,0,0,0]),
 (108,[0,0,0,0,0,0,0,0,0,0,0,0,0,0,0,0,0,0,229411,0,0,0,0,0,0,0,0,0,0,0,0,0,0,0,0,0,0,0,0,0,0,0,229539,0,0,0,0,0,0,0,985162418487331,0,0,0,0,0,64035557201674787,0,0,0,0,0,0,0,0,0,0,0,0,64035557201674787]),
 (109,[0,0,0,0,0,2]),
 (110,[0,0,0,0,0,0,0,0,0,456]),
 (111,[0,0,0,0,0,0,0,0,2,0,0,0,2,0,0,0,0,0,0,0,0,0,3670026,0,0,0,0,0,0,0,0,3670026,0,0,0,0,0,0,0,8]),
 (112,[0,0,0,0,0,0,0,0,0,0,0,0,0,0,0,0,0,0,0,0,0,0,0,0,0,0,0,0,0,0,0,0,0,0,0,25769805187,0,0,0,0,987842481539,0,0,0,0,0,0,0,0,0,0,0,0,0,0,0,0,0,0,0,0,0,987842481539]),
 (113,[0,0,0,0,0,0,0,0,0,0,0,0,0,0,0,0,0,0,0,0,0,1835137,0,0,0,0,0,119275649,0,0,0,0,0,0,0,0,0,0,0,0,0,0,0,119277697,0,0,0,0,0,0,844425049413761]),
 (114,[]),
 (115,[]),
 (116,[0,0,0,0,0,0,0,0,0,0,0,0,0,0,14725,0,0,0,0,14725,0,0,0,0,0,0,0,0,0,14725,0,0,0,0,0,0,0,0,0,0,14725,0,0,0,0,0,0,0,0,0,0,0,0,0,0,0,0,0,0,0,0,0,14725]),
 (117,[0,0,0,0,0,0,0,0,0,0,0,9,0,0,0,0,0,0,0,0,0,0,0,0,0,0,0,0,0,0,0,0,0,0,0,0,0,0,9]),
 (118,[0,0,0,0,0,5]),
 (119,[0,0,0,0,0,5]),
 (120,[0,0,0,0,0,5]),
 (121,[]),
 (122,[0,0,0,0,0,0,0,0,0,0,0,0,0,0,0,0,0,0,0,0,0,0,0,0,14680316,0,0,0,0,0,0,0,0,0,0,0,0,0,0,0,0,0,14680316,0,0,0,0,0,0,0,0,0,0,0,0,0,0,2064,0,0,0,0,2064,0,0,0,0,0,0,0,2064]),
 (123,[0,0,0,0,0,0,0,0,0,0,0,0,0,0,0,0,0,0,0,0,0,0,0,7340276,0,0,0,0,7340916,0,0,0,0,0,0,0,0,0,0,0,0,0,0,0,0,0,0,0,0,0,0,0,0,0,0,0,0,126100789566376144,0,0,0,0,0,126100789566388432]),
 (124,[]),
 (125,[0,0,0,0,0,0,0,0,0,0,0,0,0,7181,0,0,0,0,7693,0,0,0,0,0,0,0,7693]),
 (126,[0,0,0,0,0,0,0,0,0,387,0,0,0,0,0,0,387]),
 (127,[0,0,0,0,0,0,0,0,0,0,0,0,0,0,0,0,0,32,0,0,0,0,3]),
 (128,[]),
 (129,[0,0,0,0,0,0,0,0,0,0,0,0,1,0,0,0,57345,0,0,0,0,0,0,0,0,0,57345]),
 (130,[]),
 (131,[0,0,0,0,0,0,0,0,0,0,1,0,0,0,0,0,49160]),
 (132,[0,0,0,0,0,0,0,0,0,0,0,0,3592]),
 (133,[0,0,0,0,0,0,0,0,0,0,0,0,0,0,0,0,0,0,0,0,0,0,3,0,0,0,0,0,0,469762082]),
 (134,[0,0,0,0,0,0,0,0,7]),
 (135,[]),
 (136,[0,0,0,1]),
 (137,[]),
 (138,[0,0,0,0,0,0,0,0,0,0,0,0,1]),
 (139,[0,0,0,0,0,0,0,0,0,0,0,0,0,0,21,0,0,0,0,21,0,0,0,0,0,0,0,0,85]),
 (140,[0,0,0,0,0,0]),
 (141,[0,0,0,0,0,0,0,0,0,0,898,0,0,0,0,0,0,0,0,898]),
 (143,[0,0,0,0,0,0,0,0,0,1,0,0,1,0,0,0,57345,0,0,0,0,0,0,57361,0,0,0,117497857,0,0,0,0,0,0,0,0,0,117497857]),
 (144,[0,0,0,0,0,0,0,0,0,0,0,0,0,0,0,0,0,0,0,458785,0,0,0,0,0,458913,0,0,0,0,0,0,3758555297,0,0,0,0,0,0,0,0,0,0,0,0,0,0,0,246294363178657,0,0,0,0,0,0,0,0,0,0,0,246294363178657]),
 (146,[]),
 (147,[0,0,0,0,0,0,0,0,0,387,0,0,0,0,0,0,387]),
 (148,[0,0,0,0,0,0,0,0,0,0,0,1544]),
 (149,[0,0,0,0,0,0,0,0,195,0,0,0,0,0,0,0,0,0,0,0,0,0,0,0,0,0,0,0,0,195]),
 (150,[0,0,0,0,0,0,0,0,0,0,0,0,0,0,0,0,57356]),
 (152,[0,0,0,0,0,0,0,0,0]),
 (153,[0,0,0,0,0,0,0,0,0,456]),
 (154,[0,0,0,0,0,0,0,0,0,0,0,0,0,0,0,0,0,0,0,135,0,0,0,0,0,0,0,0,0,263,0,0,0,0,0,0,0,0,0,0,0,0,0,0,0,897,0,0,0,0,0,0,0,0,0,0,54043195528446211]),
 (155,[0,0,0,0,0,0,0,0,0,387,0,0,0,0,0,0,387]),
 (156,[]),
 (157,[0,0,0,0,0,0,0,0,0,0,0,0,35,0,0,0,0,0,0,99,0,0,0,0,0,0,0,0,0,99]),
 (158,[0,0,0,0,0,0,0,0,0,0,0,1825,0,0,0,0,0,1825]),
 (159,[0,0,0,0,0,0,0,0,0,67,0,0,67]),
 (160,[]),
 (161,[]),
 (162,[]),
 (163,[0,0,0,0,0,0,24]),
 (165,[]),
 (166,[0,0,0,0,0,0,0,0,0,0,0,0,0]),
 (167,[]),
 (168,[0,0,0,0,0,0,0,0,0,0,0,21,0,0,0,0,0,0,0,0,0,20,0,0,20]),
 (169,[0,0,0,0,0,0,1,0,0,0,0,0,0,0,1,0,1,0,0,0,0,0,0,0,0,0,0,0,0,0,0,0,0,0,0,1]),
 (170,[0,0,0,0,0,0,0,0,0,0,0,0,0,0,6,0,0,0,0,0,0,1835042,0,0,0,0,0,0,0,0,0,0,0,1835042]),
 (172,[0,0,0,0,0,0,0,0]),
 (173,[]),
 (174,[0,0,0,0,0,0,0,0,0,12,0,0,0,0,0,0,0,0,0,12]),
 (175,[0,0,0,0,0,0,0,0,0,0,3,0,0,0,0,35,0,0,0,0,0,0,0,0,0,0,0,0,35,0,0,0,0,0,0,227,0,0,0,0,0,0,0,0,0,0,0,0,0,227]),
 (176,[]),
 (178,[]),
 (179,[0,0,0,0,0,0,0,0,0,0,0,0,0,0,0,0,0,0,0,0,0,0,0,0,0,0,0,0,0,0,0,0,0,0,0,0,0,0,0,0,0,0,0,0]),
 (180,[0,0,0,0,0,0,0,0,0,0,0,0,0,0,0,0,0,0,0,0,0,0,0,0,0,7199,0,0,0,0,0,0,7199,0,0,0,0,0,0,7199,0,0,0,0,0,0,0,0,0,0,0,0,0,0,0,0,31775,0,0,0,0,0,0,0,0,0,0,0,0,0,0,0,0,0,0,15391,0,0,0,0,15391,0,0,0,0,0,0,0,0,0,0,0,0,0,0,0,0,12319,0,0,0,0,0,0,0,0,0,0,0,0,0,0,0,0,0,0,0,0,0,0,0,0,0,0,0,3103]),
 (181,[]),
 (182,[0,0,0,0,0,0,0,0,0,0,0,67,0,3,0,0,3,0,0,0]),
 (183,[0,0,0,0,0,0,0,0,0,0,0,0,0,0,14343,0,0,0,0,0,0,14727,0,0,0,0,0,0,0,0,0,14343,0,0,0,0,0,0,0]),
 (185,[0,0,0,0,0,0,0,0,0,0,0,0,0,0,271,0,0,0,0,0,0,0,0,0,0,0,0,0,0,0,0,0,0,0,783]),
 (186,[0,0,0,0,0,0,0,0,0,0,0,0,0,0,0,0,0,0,0,0,0,3849,0,0,0,0,0,0,0,0,0,0,0,4873]),
 (187,[0,0,0,0,0,0,0,0,0,0,0,0,0,0,0,0,0,0,0,0,0,0,0,0,0,0,0,0,0,0,0,0,0,0,0,3843,0,0,0,0,0,0,0,0,0,7939]),
 (188,[0,0,0,0,0,0,0,0,0,0,0,0,0,0,0,0,0,0,0,0,0,0,0,0,0,0,0,0,0,0,0,0,0,0,10240,0,30729,0,0,0,0,0,0,0,0,0,0,0,0,0,0,0,0,0,0,0,0,768,0,0,768]),
 (189,[0,0,0,0,0,0,0,0,0,0,0,0,0,0,0,769]),
 (190,[0,0,0,0,0,0,0,0,0,0,0,0,0,0,0,0,1551,0,0,0,0,0,0,0,0,0,0,0,0,0,0,0,0,0,0,0,1551,0,0,0,0,1551,0,0,0,1551,0,0,0,0,0,0,0,0,0,0,0,0,0,0,0,0,0,0,0,1551,0,0,0,3599,0,0,0,0,0,0,0,0,0,0,0,0,0,0,3599,0,0,0,0,0,0,0,0,0,0,0,0,0,0,0,0,0,0,0,1551,0,0,0,0,5647,0,0,0,0,0,0,0,0,0,0,0,0,0,0,5647]),
 (191,[0,0,0,0,0,0,0,0,0,0,0,0,0,0,0,0,0,0,0,0,0,0,0,0,0,0,0,0,0,0,0,0,0,0,0,0,0,0,0,0,0,0,0,0,0,0,0,6163,0,0,0,0,0,0,0,0,0,0,0,0,0,0,0,0,0,6163,0,0,0,0,6163]),
 (192,[0,0,0,0,0,0,0,0,0,0,0,0,0,0,0,0,0,0,0,0,0,0,0,0,0,0,0,0,0,0,0,0,0,0,0,0,0,0,0,0,0,0,0,0,0,0,0,12307,0,0,0,0,0,0,0,0,0,0,0,0,0,0,0,0,0,0,12307,0,0,0,0,12307,0,0,0,0,0,0,0,0,0,0,0,0,0,0,0,0,0,0,0,0,0,0,0,0,0,0,0,0,0,0,0,0,0,0,0,0,0,0,0,0,0,0,0,0,0,0,0,0,12307,0,0,0,0,0,0,0,0,0,0,0,0,0,0,0,0,0,0,12307,0,0,0,0,12307]),
 (194,[0,0,0,0,5,0,0,0,5,0,0,0,0,0,5]),
 (195,[]),
 (196,[0,0,0,0,0,0,0,0,0,0,0,0,0,0,0,0,0,0,3101,0,0,0,0,0,0,0,0,0,0,0,0,0,0,0,0,0,0,0,0,0,3101,0,0,0,0,0,0,0,0,0,0,0,0,0,0,0,0,0,3101]),
 (197,[]),
 (198,[]),
 (199,[]),
 (200,[]),
 (201,[0,0,0,0,0,0,0,0,0,0,0,0,0,0,0,0,0,0,0,0,0,0,6])]++[(27,[(13,[1,2]),(20,[2,5,2000011]),(29,[2,7,8])]),(45,[(17,[0,3,5,2000006]),(22,[0,3,5,2000006]),(35,[0,3,5,33,34,2000006]),(39,[0,3,5,6,33,34,37,38,2000006])]),(145,[(19,[0,3,4,5,6,7,17,18,1000007]),(24,[0,3,4,5,6,7,8,17,18,1000007]),(35,[0,3,4,5,6,7,17,18,1000007]),(48,[0,3,4,5,6,7,9,17,18,45,46,47,1000007])]),(171,[(8,[3000010])])]
def aoN:List (Nat×List (Nat×List Nat)):=Tx [(3,[]),
 (4,[]),
 (5,[]),
 (6,[12,458766]),
 (7,[]),
 (8,[]),
 (9,[]),
 (10,[71]),
 (11,[]),
 (12,[512,25769804418,25769804418]),
 (13,[0,1924145348618,1924145348618,3942573819297802]),
 (15,[0,12291]),
 (16,[144,144]),
 (17,[]),
 (18,[]),
 (19,[]),
 (20,[]),
 (21,[]),
 (22,[192,393408,393408,235274688]),
 (23,[451,963,192,1475,3523,7619,1475,11715]),
 (24,[48,29360243,29360755,29362035,29366131,29368179,29368179,7881299377266547]),
 (25,[192,963,1987,4035]),
 (26,[]),
 (27,[]),
 (28,[2,114]),
 (29,[8192,3848290707468,3848290707468]),
 (30,[]),
 (31,[]),
 (32,[]),
 (33,[]),
 (34,[9,196617]),
 (35,[12,14680076]),
 (36,[228,1879048438,1879049718,985164297537014,40964,1083197534374707740536791108]),
 (37,[]),
 (38,[0,786435]),
 (39,[]),
 (40,[]),
 (41,[28]),
 (42,[]),
 (43,[]),
 (44,[32,99,99,227]),
 (46,[421,933,421,541598767187353870268367269,541598767187353870268367269,541598767187353870268372389,8452,40922045845265281709703175316055924550366111211940,40922045845265281709703175316055924550366111211940,335274321610258453047598115364446189841149549088924068]),
 (47,[]),
 (48,[12,12582924]),
 (49,[256,469762434]),
 (50,[0]),
 (51,[]),
 (52,[6,0,63050394783186946]),
 (53,[]),
 (54,[14,7340046]),
 (55,[]),
 (56,[]),
 (57,[0,0,3670016]),
 (58,[180,6442451124,148,3848290697364]),
 (59,[26,117440538,4,26,402,492581209244058,492581209246618,2018105214271228826]),
 (60,[128,7340172]),
 (61,[408,920,2048,7432]),
 (62,[128,7340188]),
 (63,[]),
 (64,[0,450,450,498]),
 (65,[0]),
 (66,[80,80]),
 (67,[]),
 (68,[]),
 (69,[]),
 (70,[10,1879048202]),
 (71,[]),
 (72,[]),
 (73,[16,147,147,7340179]),
 (74,[8,229385]),
 (75,[0,58720262]),
 (76,[19,16,48]),
 (77,[]),
 (78,[48]),
 (79,[0]),
 (80,[]),
 (81,[]),
 (82,[6400,14605,63757,206158493965]),
 (83,[]),
 (84,[]),
 (85,[]),
 (86,[0,67]),
 (87,[]),
 (88,[]),
 (89,[]),
 (90,[]),
 (91,[]),
 (92,[0,3087]),
 (93,[47,111]),
 (94,[]),
 (95,[66,3848290697282,64,270799383593676935134184000]),
 (96,[]),
 (97,[17,939524121,939524409]),
 (98,[0,387]),
 (99,[20,21]),
 (100,[]),
 (101,[]),
 (102,[10,63050394783186954]),
 (103,[12,3670030,3670030,120262754366]),
 (104,[0,12291]),
 (105,[0,12291]),
 (106,[0,12291]),
 (107,[]),
 (108,[35,229411,0,985162418487331,985162418487331,64035557201674787]),
 (109,[]),
 (110,[8,456]),
 (111,[2,10,3670026]),
 (112,[1024,25769805187,25769805187,987842481539]),
 (113,[128,1835137,1835137,119275649,119281793,844425049413761]),
 (114,[]),
 (115,[]),
 (116,[128,14725,14725]),
 (117,[0,9]),
 (118,[]),
 (119,[]),
 (120,[]),
 (121,[]),
 (122,[248,14680316,2064]),
 (123,[240,7340276,2256,126100789566376144]),
 (124,[]),
 (125,[0,7181]),
 (126,[0,387]),
 (127,[]),
 (128,[]),
 (129,[0,57345]),
 (130,[]),
 (131,[8,49160]),
 (132,[8,3592]),
 (133,[32,469762082]),
 (134,[]),
 (135,[]),
 (136,[0,1]),
 (137,[]),
 (138,[]),
 (139,[20,21]),
 (140,[]),
 (141,[0,898]),
 (143,[0,57345,57345,117497857]),
 (144,[0,458785,458785,3758555297,3758555297,246294363178657]),
 (146,[]),
 (147,[0,387]),
 (148,[8,1544]),
 (149,[0,195]),
 (150,[0,57356]),
 (152,[]),
 (153,[8,456]),
 (154,[135,135,256,897,256,54043195528446211]),
 (155,[0,387]),
 (156,[]),
 (157,[33,99]),
 (158,[32,1825]),
 (159,[67]),
 (160,[]),
 (161,[]),
 (162,[]),
 (163,[]),
 (165,[]),
 (166,[0]),
 (167,[]),
 (168,[20]),
 (169,[]),
 (170,[32,1835042]),
 (171,[]),
 (172,[]),
 (173,[]),
 (174,[]),
 (175,[1,35,33,227]),
 (176,[]),
 (178,[]),
 (179,[0]),
 (180,[0,3103]),
 (181,[]),
 (182,[]),
 (183,[3,14343]),
 (185,[0,271,271,783]),
 (186,[1801,3849,0,4873]),
 (187,[0,3843]),
 (188,[768]),
 (189,[0,769]),
 (190,[0,1551,1551,1551,1551,3599,1551,5647]),
 (191,[2048,6163,6163,6163,6163,6163]),
 (192,[12307,12307,12307,12307,8195,12307,12307,12307,12307,12307]),
 (194,[]),
 (195,[]),
 (196,[0,1053]),
 (197,[]),
 (198,[]),
 (199,[]),
 (200,[]),
 (201,[])]++[(45,[(0,[0,3,5,2000006]),(1,[0,3,5,33,34,2000006]),(2,[0,3,5,33,34,2000006]),(3,[0,3,5,6,33,34,37,38,2000006])]),(145,[(0,[3]),(1,[0,3,4,5,6,7,17,18,1000007]),(2,[0,3,4,5,6,7,17,18,1000007]),(3,[0,3,4,5,6,7,17,18,1000007]),(4,[0,3,4,5,6,7,17,18,1000007]),(5,[0,3,4,5,6,7,9,17,18,45,46,47,1000007])])]
def aoO:List (Nat×List (Nat×List Nat)):=[(23,[(1,[5000022])]),
 (24,[(1,[5000020])]),
 (25,[(1,[5000022])]),
 (45,[(3,[2000006])]),
 (113,[(1,[104000319,105000322,106000325,107000328,108000331,109000334,110000337,111000340,112000343,113000346,114000349])]),
 (139,[(1,[4]),(2,[4]),(4,[4]),(5,[4]),(6,[4]),(7,[4]),(8,[4]),(10,[4])]),
 (145,[(2,[4]),(14,[45,1000048])])]
def aoP:List (Nat×List Nat):=[(27,[0]),
 (32,[0]),
 (46,[0,1]),
 (54,[0]),
 (69,[0]),
 (76,[0]),
 (77,[0]),
 (78,[0]),
 (99,[0]),
 (112,[0]),
 (118,[0]),
 (119,[0]),
 (120,[0]),
 (139,[0]),
 (168,[0])]
def aoQ:List (Nat×List (Nat×List (Nat×Nat))):=[(3,[(1,[(1,4)]),(2,[(1,5)]),(3,[(1,6),(2,5)]),(4,[(6,7),(9,8)])]),
 (4,[(1,[(1,9)]),(2,[(2,11),(4,10)])]),
 (5,[(1,[(1,12)])]),
 (6,[(1,[(1,13)])]),
 (7,[(1,[(2,15)])]),
 (8,[(1,[(0,18),(1,18),(3,17),(5,17),(6,16)]),(2,[(4,19),(10,18),(11,20)])]),
 (10,[(1,[(1,21)]),(3,[(3,22)]),(5,[(4,23)]),(7,[(2,24)]),(8,[(3,25)])]),
 (11,[(1,[(1,21)])]),
 (12,[(1,[(1,13)]),(4,[(1,26)]),(6,[(1,27)]),(10,[(0,28)]),(13,[(3,29)])]),
 (16,[(1,[(2,30)]),(4,[(1,32),(3,31)]),(5,[(1,33)]),(6,[(1,34)]),(9,[(1,35)])]),
 (19,[(1,[(1,13)]),(3,[(1,36)])]),
 (20,[(1,[(1,37),(5,38)]),(4,[(1,39)]),(5,[(1,40)]),(6,[(3,41),(8,42)])]),
 (21,[(4,[(12,43)])]),
 (22,[(1,[(3,25)])]),
 (23,[(2,[(2,21)]),(3,[(2,21)]),(7,[(3,21)]),(19,[(3,21)])]),
 (24,[(2,[(2,21),(4,44)]),(6,[(3,21)])]),
 (25,[(2,[(2,21)]),(3,[(2,21)]),(7,[(3,21)]),(12,[(3,21)])]),
 (27,[(1,[(1,13)]),(5,[(1,19),(2,45)]),(8,[(0,46)])]),
 (28,[(2,[(0,47)]),(5,[(2,48)])]),
 (29,[(1,[(2,49)]),(7,[(0,47),(4,48)]),(12,[(7,50)])]),
 (30,[(3,[(1,51)]),(5,[(2,52)])]),
 (31,[(3,[(2,53)])]),
 (32,[(1,[(1,37)]),(3,[(1,54)])]),
 (34,[(5,[(13,55)]),(8,[(5,56)]),(12,[(2,53)])]),
 (35,[(5,[(3,57)])]),
 (36,[(1,[(1,58)]),(2,[(1,59)]),(17,[(1,58)])]),
 (37,[(1,[(1,30)])]),
 (41,[(3,[(4,60)]),(5,[(6,61)]),(8,[(3,62)]),(10,[(6,63)]),(12,[(2,64)])]),
 (46,[(1,[(4,66)]),(16,[(8,67)]),(32,[(7,68)])]),
 (48,[(5,[(1,69)])]),
 (49,[(1,[(1,70)]),(4,[(0,47)])]),
 (50,[(1,[(3,71)]),(6,[(1,72)]),(8,[(2,73)]),(10,[(1,74)])]),
 (51,[(2,[(1,75)])]),
 (52,[(22,[(2,52)])]),
 (53,[(2,[(5,56)])]),
 (54,[(7,[(3,54)]),(9,[(3,76)])]),
 (55,[(1,[(3,78),(4,77)])]),
 (56,[(1,[(1,37)]),(4,[(1,79)]),(5,[(0,80)])]),
 (57,[(6,[(2,237)]),(12,[(1,57)]),(17,[(9,57)])]),
 (58,[(1,[(1,13)]),(3,[(6,82)])]),
 (59,[(1,[(1,13)])]),
 (60,[(1,[(5,41)]),(5,[(1,39)]),(6,[(2,234)]),(7,[(3,41)]),(8,[(5,87)]),(9,[(2,235)])]),
 (61,[(1,[(1,39)]),(2,[(2,229)]),(6,[(2,40)]),(7,[(3,41)]),(12,[(1,39)]),(13,[(2,40)]),(14,[(5,233)])]),
 (62,[(1,[(6,41)]),(5,[(3,41)]),(6,[(2,232)])]),
 (63,[(1,[(3,41)]),(3,[(2,231)])]),
 (64,[(5,[(4,94),(6,65)])]),
 (65,[(0,[(3,39)]),(2,[(5,230)]),(4,[(6,230)])]),
 (66,[(1,[(2,95)]),(4,[(1,96)]),(5,[(1,97)])]),
 (67,[(1,[(2,98)])]),
 (69,[(4,[(0,99)]),(5,[(3,100)]),(7,[(0,99)]),(11,[(1,101)])]),
 (70,[(1,[(1,102)]),(3,[(1,103),(2,27)]),(9,[(6,104)]),(12,[(4,105),(11,104),(19,106),(27,106)])]),
 (71,[(1,[(1,107)]),(4,[(2,108)]),(6,[(1,101)]),(8,[(1,109)]),(9,[(8,110)]),(11,[(2,111),(5,111),(9,112)]),(12,[(12,113)])]),
 (72,[(1,[(4,114)])]),
 (73,[(1,[(1,74)]),(9,[(9,116),(19,116)]),(11,[(1,117)])]),
 (75,[(7,[(4,75)])]),
 (76,[(3,[(1,118)]),(5,[(1,119)]),(7,[(1,120)]),(18,[(0,121)]),(19,[(5,87)])]),
 (77,[(1,[(2,30)])]),
 (78,[(12,[(2,122)]),(14,[(5,78)]),(15,[(3,76)]),(16,[(4,76)]),(18,[(2,123)])]),
 (79,[(3,[(1,124)]),(5,[(1,124)]),(7,[(5,124)]),(9,[(3,125)]),(11,[(3,125)]),(13,[(3,125)]),(15,[(1,124)]),(16,[(3,125)]),(18,[(3,125)]),(19,[(1,124)])]),
 (81,[(1,[(2,126)])]),
 (82,[(2,[(1,127)]),(12,[(5,83),(6,223)]),(17,[(4,84)])]),
 (85,[(0,[(6,86)])]),
 (87,[(1,[(14,128)])]),
 (88,[(0,[(1,39)]),(1,[(5,236)])]),
 (89,[(0,[(5,42)]),(1,[(6,86)])]),
 (91,[(0,[(2,42)]),(1,[(6,86)])]),
 (93,[(0,[(1,39)])]),
 (95,[(8,[(10,129)]),(14,[(6,131),(7,130)]),(19,[(5,132)]),(22,[(7,130)])]),
 (97,[(6,[(9,133)]),(7,[(5,132)]),(12,[(14,134),(15,130)]),(13,[(18,135)])]),
 (99,[(2,[(1,136)]),(3,[(5,138),(6,137)]),(4,[(1,136)]),(5,[(1,139)])]),
 (100,[(1,[(1,138)])]),
 (101,[(1,[(2,140)]),(4,[(2,140)])]),
 (102,[(9,[(7,141)]),(12,[(3,141)])]),
 (107,[(1,[(1,143)]),(4,[(2,145),(3,144)])]),
 (109,[(1,[(1,146)]),(3,[(1,148),(3,147)])]),
 (110,[(5,[(3,150)])]),
 (111,[(10,[(2,111)])]),
 (112,[(3,[(4,239)]),(4,[(4,239)]),(5,[(5,153)])]),
 (113,[(13,[(6,154)])]),
 (114,[(1,[(2,155)])]),
 (118,[(1,[(1,224)]),(2,[(0,156)]),(3,[(1,158),(2,226)]),(4,[(1,160),(2,161),(3,159)])]),
 (119,[(1,[(1,81)]),(2,[(0,161)]),(3,[(1,158),(2,227)]),(4,[(1,121),(2,159)])]),
 (120,[(1,[(1,81)]),(2,[(0,161)]),(3,[(1,158),(2,157)]),(4,[(1,160),(2,156),(3,159)])]),
 (122,[(6,[(2,78)]),(11,[(3,76),(7,76)])]),
 (123,[(8,[(4,163)]),(9,[(2,78)]),(19,[(3,76)]),(21,[(1,76),(3,76)])]),
 (125,[(4,[(2,165)]),(5,[(2,166)]),(6,[(2,79)]),(7,[(1,124)]),(8,[(2,79)]),(9,[(1,124)])]),
 (126,[(4,[(5,128)])]),
 (130,[(2,[(5,132)])]),
 (133,[(1,[(7,129),(12,129)])]),
 (135,[(1,[(3,134)])]),
 (136,[(0,[(1,100)])]),
 (137,[(1,[(11,167)])]),
 (139,[(1,[(1,168)]),(4,[(1,136)]),(5,[(1,100)]),(6,[(1,136)]),(7,[(1,169)])]),
 (140,[(1,[(1,170)])]),
 (145,[(10,[(2,171)]),(17,[(8,171)]),(18,[(8,171)])]),
 (146,[(1,[(1,107)])]),
 (147,[(4,[(5,149)])]),
 (153,[(5,[(3,240)])]),
 (155,[(4,[(5,115)])]),
 (156,[(1,[(0,161)])]),
 (157,[(1,[(2,225)]),(8,[(2,87)])]),
 (160,[(1,[(1,173)]),(2,[(1,175)])]),
 (163,[(3,[(1,54)])]),
 (167,[(1,[(2,178)])]),
 (168,[(1,[(1,138)]),(2,[(1,137)]),(9,[(1,99)]),(10,[(4,100)]),(11,[(1,167)])]),
 (169,[(1,[(1,100)]),(3,[(1,100),(5,100)]),(5,[(1,100)]),(6,[(1,100),(4,100)]),(7,[(1,100),(5,138),(10,138)]),(9,[(1,138)]),(11,[(2,100)])]),
 (170,[(1,[(4,179)]),(7,[(5,170)])]),
 (173,[(1,[(4,181),(6,180)])]),
 (174,[(2,[(4,182)]),(4,[(4,182)]),(5,[(4,183)])]),
 (175,[(6,[(10,176)]),(11,[(10,176)])]),
 (176,[(1,[(2,174)])]),
 (180,[(4,[(4,185)]),(6,[(4,186)]),(8,[(4,187)]),(10,[(4,188)]),(12,[(4,189)]),(16,[(4,190)]),(17,[(13,174)]),(18,[(5,191)]),(20,[(5,192)]),(26,[(5,180)]),(29,[(6,180)])]),
 (181,[(2,[(1,194)])]),
 (182,[(1,[(1,195)]),(2,[(1,195)])]),
 (183,[(7,[(3,174)])]),
 (185,[(4,[(14,174)])]),
 (186,[(6,[(5,196)]),(11,[(5,196)])]),
 (187,[(3,[(1,197)]),(7,[(0,198)])]),
 (188,[(8,[(3,199)]),(9,[(3,199)]),(10,[(3,199)]),(11,[(5,200)])]),
 (190,[(5,[(14,174)]),(16,[(10,174)]),(22,[(10,174)])]),
 (191,[(3,[(13,174)]),(5,[(13,174)])]),
 (192,[(3,[(13,174)]),(5,[(13,174)]),(13,[(13,174)]),(15,[(13,174)])]),
 (196,[(3,[(19,174)]),(5,[(13,174)])]),
 (197,[(1,[(2,181)])]),
 (199,[(1,[(8,200)])]),
 (200,[(1,[(5,201)]),(2,[(5,201)]),(3,[(5,201)])]),
 (201,[(1,[(9,174)])]),
 (224,[(1,[(2,225)])]),
 (225,[(4,[(5,87)])]),
 (226,[(1,[(2,126)]),(8,[(2,128)])]),
 (227,[(1,[(2,228)]),(8,[(2,162)])]),
 (228,[(4,[(5,162)])]),
 (229,[(5,[(4,94),(6,90)])]),
 (231,[(5,[(4,94),(6,93)])]),
 (232,[(5,[(4,94),(6,92)])]),
 (233,[(5,[(4,94),(6,91)])]),
 (234,[(5,[(4,94),(6,85)])]),
 (235,[(5,[(4,94),(6,88)])]),
 (236,[(5,[(4,94),(6,89)])]),
 (237,[(1,[(2,238)])]),
 (238,[(4,[(5,57)])]),
 (239,[(1,[(3,152)]),(5,[(3,239)])]),
 (240,[(1,[(3,172)]),(5,[(3,240)])])]
def aoR:List (Nat×List (Nat×(Shape×List (Out×Shape)))):=[(6,[(81,O6)]),
 (12,[(177,OX)]),
 (13,[(225,R7),(145,R8)]),
 (15,[(65,R9)]),
 (16,[(81,Sa)]),
 (22,[(97,Pj),(49,Pk)]),
 (23,[(81,Pn),(209,Po),(273,Pp),(145,Pq)]),
 (24,[(241,Ps),(209,Pt),(145,Pu),(65,Pv)]),
 (25,[(161,Pg),(81,Ph)]),
 (28,[(49,OW)]),
 (29,[(129,Sb)]),
 (34,[(49,Sd)]),
 (35,[(49,am7)]),
 (36,[(161,Se),(81,Sf),(321,Sg)]),
 (38,[(65,am8)]),
 (44,[(97,am9),(49,ana)]),
 (45,[(161,Sh),(113,Si)]),
 (46,[(145,Sj),(321,Sk),(225,Sl),(481,Sm),(417,Sn)]),
 (48,[(49,So)]),
 (49,[(145,Sp)]),
 (52,[(321,anb)]),
 (54,[(81,anc)]),
 (57,[(161,ane)]),
 (58,[(97,Sq),(177,Sr)]),
 (59,[(81,Ss),(273,Su),(209,Sv),(161,Sw)]),
 (60,[(49,anf)]),
 (61,[(65,ang),(161,anh)]),
 (62,[(49,ani)]),
 (64,[(49,anj),(17,ank)]),
 (65,[(175,anl)]),
 (66,[(65,Sy)]),
 (70,[(113,Sz)]),
 (73,[(81,SA),(33,SB)]),
 (74,[(49,SC)]),
 (75,[(81,anm)]),
 (78,[(399,ano)]),
 (79,[(463,anp),(367,anq),(239,anr),(175,ans),(111,ant)]),
 (82,[(161,SD),(81,SF)]),
 (86,[(17,anu)]),
 (92,[(17,anv)]),
 (93,[(33,anw)]),
 (95,[(97,SG),(1167,SH),(1711,SJ),(257,SK)]),
 (97,[(1263,SL),(65,SM)]),
 (98,[(33,SN)]),
 (99,[(49,anx)]),
 (102,[(113,SO)]),
 (103,[(113,SP),(49,SQ)]),
 (104,[(65,SR)]),
 (105,[(65,SS)]),
 (106,[(65,SU)]),
 (108,[(49,SV),(209,SW),(161,SX)]),
 (110,[(49,anz)]),
 (111,[(129,anA)]),
 (112,[(161,SY),(113,SZ)]),
 (113,[(177,S0),(97,S3),(49,S4)]),
 (116,[(319,S5),(65,S6)]),
 (117,[(33,S7)]),
 (122,[(65,anB)]),
 (123,[(81,anC),(225,anD)]),
 (125,[(303,anE),(17,anF)]),
 (126,[(33,anG)]),
 (129,[(65,S8)]),
 (131,[(81,S9)]),
 (132,[(49,Ta)]),
 (133,[(81,Td)]),
 (136,[(1,anH)]),
 (139,[(81,anI)]),
 (141,[(33,Te)]),
 (143,[(177,Tf),(97,Tg)]),
 (144,[(193,Th),(129,Ti),(49,Tj)]),
 (145,[(241,Tk),(177,Tl),(97,Tm)]),
 (147,[(33,Tn)]),
 (148,[(49,To)]),
 (149,[(33,Ts)]),
 (152,[(143,anJ)]),
 (153,[(49,anK)]),
 (154,[(33,Tt),(113,Tu),(177,Tv)]),
 (155,[(33,Tw)]),
 (157,[(81,anL)]),
 (158,[(49,anM)]),
 (170,[(81,anN)]),
 (175,[(145,anO),(65,anP)]),
 (180,[(639,anQ),(911,anR),(1215,anS),(33,anT)]),
 (183,[(33,anU)]),
 (185,[(65,anV),(17,anW)]),
 (186,[(65,anX),(129,anY)]),
 (187,[(735,anZ),(81,an0)]),
 (188,[(591,an1),(559,an2)]),
 (189,[(33,an3)]),
 (190,[(81,an4),(225,an5),(1055,an6),(321,an7),(49,an8)]),
 (191,[(49,an9),(81,aoa),(50,aob)]),
 (192,[(49,aoc),(81,aod),(209,aoe),(241,aof),(210,aog)]),
 (194,[(79,aoh),(143,aoi)]),
 (196,[(655,aoj),(17,aok)]),
 (225,[(33,aol)]),
 (226,[(81,aom)]),
 (227,[(81,aon)]),
 (228,[(33,aoo)]),
 (229,[(49,aop),(17,aoq)]),
 (231,[(49,aor),(17,aos)]),
 (232,[(49,aot),(17,aou)]),
 (233,[(49,aov),(17,aow)]),
 (234,[(49,aox),(17,aoy)]),
 (235,[(49,aoz),(17,aoA)]),
 (236,[(49,aoB),(17,aoC)]),
 (238,[(33,aoD)]),
 (239,[(49,aoE)]),
 (240,[(49,aoF)])]
def aoS:List (Nat×List (Nat×List Nat)):=[(23,[(7,[41,42])]),
 (24,[(22,[71,72])]),
 (25,[(13,[49,50])]),
 (41,[(11,[46])]),
 (45,[(5,[26])]),
 (46,[(7,[42]),(24,[158])]),
 (61,[(8,[42])]),
 (103,[(1,[16])]),
 (112,[(5,[31])]),
 (116,[(1,[7])]),
 (157,[(12,[41])]),
 (175,[(15,[64])]),
 (226,[(12,[41])]),
 (227,[(12,[41])])]
def Mq (k:Nat):FuncId:=(fC aoG k).getD 0
def lR:dn where
 jP:=Mq
 sin:=fun k=>(fC aoH k).getD ⟨[],[]⟩
 iS:=fun k=>(fC aoI k).getD ⟨[],[]⟩
 live:=fun k r=>(fC ((fC aoL (Mq k)).getD []) r).getD []
 join:=fun k r=>(fC ((fC aoM (Mq k)).getD []) r).getD []
 blk:=fun k r=>(fC ((fC aoN (Mq k)).getD []) r).getD []
 pur:=fun k r=>(fC ((fC aoO k).getD []) r).getD []
 xM:=fun k=>(fC aoP k).getD []
 alt:=fun k=>fC aoJ k
 VG:=fun k r=>(fC ((fC aoS k).getD []) r).getD []
 ck:=fun k r i=>(fC ((fC ((fC aoQ k).getD []) r).getD []) i).getD 0
 jZ:=fun k x=>fC ((fC aoR k).getD []) x
 rB:=[]
 IN:=fun _=>0
 ext:=fun f=>bif Nat.beq f 164 then some 153 else bif Nat.beq f 184 then some 999999 else none
 rC:=fun f=>bif Nat.beq f 14 then some 3 else bif Nat.beq f 142 then some 4 else none
 idle:=fun f=>false
 mv:=fun k=>(fC ([(33,[1,2]),(34,[1,2]),(35,[1,2]),(46,[2]),(53,[1,2]),(72,[2]),(73,[2]),(74,[2]),(79,[1]),(80,[1]),(85,[2]),(89,[3]),(91,[2]),(96,[1,2,3,4,5,6,8,9,10]),(97,[1,2,3,4,5,6,8,9,10]),(117,[2]),(124,[1]),(125,[1]),(127,[1]),(130,[2,3,4,5,6,8,9,10]),(134,[2,3,4,5,6,8,9,10]),(135,[2,3,4,5,6,8,9,10]),(165,[1]),(171,[2,3]),(223,[1]),(233,[2]),(234,[2]),(236,[3])]:List (Nat×List Nat)) k).getD []
 aB:=fun g=>bif Nat.beq g 0 then .pref [5,5,5,5,5,5,5,5,5,5,5,5,5,5,5,5,5,5,5,5,5,5,5,5,5,5,5,5,5,5,5,5,5,5,5,5,5,5,5,5,5,5,5,5,5,5,5,5,5,5,5,5,5,5,5,5,5,5,5,5,5,5,5,5] LU else .undef
noncomputable abbrev PG:Program:=Tryz.prog
noncomputable abbrev CC:af:=Call Tryz.prog lR
noncomputable abbrev Lp (p:List Nat) (k:Nat):pk:= .loop (vo p (sR PG (lR.jP k)))
noncomputable abbrev Cd (t:Nat) (p q:List Nat) (k:Nat):pk:= .cond t (vo p (sR PG (lR.jP k))) (vo q (sR PG (lR.jP k)))
abbrev bB (C:af) (L:cF) (k:Nat) (b:pk):Prop:=tH PG lR C L k (D7 PG (lR.jP k)) (lR.sin k).cS.length b
end Go.AM
set_option maxRecDepth 100000
namespace Go.AM
open Go.IntKind (wrap)
open Go.Proofs Go.RowKit
set_option maxHeartbeats 1000000 in
theorem aoT (hP:yW Tryz.prog):KQ Tryz.prog 14 3:=by
 refine ⟨fun args w=>MuLone.run_callFunc_enter Tryz.func14 (hP _ _ Tryz.func14) (by kernel_rfl:Tryz.f14.body=some (sR Tryz.prog 14)) _ _,22,by kernel_rfl,?_⟩;intro s w Q h1 h2 h3;have hu:Tryz.prog.underlying 22=some (.slice 3):=by kernel_rfl
 go_enter Tryz.func14,Tryz.ntmps14
 rcases h3 with rfl|⟨a,n,c,rfl⟩
 ·go_wp2
  rw[run_eql_slice_nil w 22 3 none 0 0 hu];simp only[Result.andThen];rw[Oper.upon_value]
  go_wp2
  exact trivial
 ·go_wp2
  rw[run_eql_slice_nil w 22 3 (some a) n c hu];simp only[Result.andThen];rw[Oper.upon_value]
  iterate 17 go_step
  obtain ⟨v,w',hv,hQ⟩:=h2 _ _ _ rfl;unfold Oper.wp;simp[execOp,resolve,invoke,Act.eval,hv,builtin];rw[Oper.upon_value]
  go_wp2
  exact hQ
set_option maxHeartbeats 1000000 in
theorem aoU (hP:yW Tryz.prog):KQ Tryz.prog 142 4:=by
 refine ⟨fun args w=>MuLone.run_callFunc_enter Tryz.func142 (hP _ _ Tryz.func142) (by kernel_rfl:Tryz.f142.body=some (sR Tryz.prog 142)) _ _,23,by kernel_rfl,?_⟩;intro s w Q h1 h2 h3;have hu:Tryz.prog.underlying 23=some (.slice 4):=by kernel_rfl
 go_enter Tryz.func142,Tryz.ntmps142
 rcases h3 with rfl|⟨a,n,c,rfl⟩
 ·go_wp2
  rw[run_eql_slice_nil w 23 4 none 0 0 hu];simp only[Result.andThen];rw[Oper.upon_value]
  go_wp2
  exact trivial
 ·go_wp2
  rw[run_eql_slice_nil w 23 4 (some a) n c hu];simp only[Result.andThen];rw[Oper.upon_value]
  iterate 17 go_step
  obtain ⟨v,w',hv,hQ⟩:=h2 _ _ _ rfl;unfold Oper.wp;simp[execOp,resolve,invoke,Act.eval,hv,builtin];rw[Oper.upon_value]
  go_wp2
  exact hQ
theorem aoV (hP:yW PG) (f:FuncId) (e:TypeId) (h:lR.rC f=some e):KQ PG f e:=by
 have h1:lR.rC f=bif Nat.beq f 14 then some 3 else bif Nat.beq f 142 then some 4 else none:=by kernel_rfl
 rw[h1] at h;cases Mr:Nat.beq f 14 with
 | true=>
  rw[Mr] at h;rw[aK] at Mr;cases h;subst Mr;exact aoT hP
 | false=>
 rw[Mr] at h;simp only[cond_false] at h;cases Ms:Nat.beq f 142 with
 | true=>
  rw[Ms] at h;rw[aK] at Ms;cases h;subst Ms;exact aoU hP
 | false=>
 rw[Ms] at h;simp only[cond_false] at h;cases h
theorem aoW {w:World} {b:Nat} {C:Array Value} {T:TypeId} (h:w.heap[b]? =some (.cells C T (0,0))):w.shape? b=some (T,C.size)∧w.frozen? ⟨b,0,none⟩=false∧w.cell? ⟨b,0,none⟩=C[0]? :=by
 refine ⟨by simp[World.shape?,h],by simp[World.frozen?,h],cell?_cells h⟩
set_option maxHeartbeats 1000000 in
theorem aoX (b:Nat) (w:World) (h0:w.cell? ⟨b,0,none⟩=some (.pointer (some ⟨b,0,none⟩))):
  Calls Tryz.prog 164 #[.pointer (some ⟨b,0,none⟩)] w fun e w'=>e= .returned (.tuple #[])∧w'=w:=by
 obtain ⟨j,hj⟩:=AL.1 (show (Tryz.prog.info? 153).isSome=true by kernel_rfl);have hu:Tryz.prog.underlying 151=some (.pointer 153):=by kernel_rfl
 go_enter Tryz.func164,Tryz.ntmps164
 go_wp2
 rw[Lib.run_neq_ptr_same w _ hu hj]
 go_wp2
 go_end0
 exact ⟨rfl,rfl⟩
set_option maxHeartbeats 1000000 in
theorem aoY (b n:Nat) (w:World) (hn:0<n) (h0:w.cell? ⟨b,0,none⟩=some (.pointer none)) (KE:w.shape? b=some (153,n)) (B5:w.frozen? ⟨b,0,none⟩=false) (hl:liesAt Tryz.prog Tryz.prog.depth 153 (n/Tryz.prog.cellsOf 153) 0 153 1=true):
  Calls Tryz.prog 164 #[.pointer (some ⟨b,0,none⟩)] w fun e w'=>e= .returned (.tuple #[])∧w'=w.setCell ⟨b,0,none⟩ (.pointer (some ⟨b,0,none⟩)):=by
 obtain ⟨j,hj⟩:=AL.1 (show (Tryz.prog.info? 153).isSome=true by kernel_rfl);have hjs:j.size≠0:=by
  have h2:(Tryz.prog.info? 153).map (·.size)=some 2:=by kernel_rfl
  rw[hj] at h2;simp at h2;omega
 have hu:Tryz.prog.underlying 151=some (.pointer 153):=by kernel_rfl
 have qc:Tryz.prog.underlying 247=some .unsafePointer:=by kernel_rfl
 go_enter Tryz.func164,Tryz.ntmps164
 go_wp2
 rw[Lib.run_to_unsafe w ⟨b,0,none⟩ hu qc hj hjs KE hn];simp only[Result.andThen];rw[Oper.upon_value]
 go_wp2
 rw[run_callFunc_extern Tryz.func177 (by kernel_rfl) (by kernel_rfl) (by kernel_rfl) (e:=Extern.AbiNoEscape.same) (by kernel_rfl)];rw[Lib.run_noEscape];simp only[Result.andThen];rw[Oper.upon_value]
 go_wp2
 rw[Lib.run_from_unsafe w ⟨b,0,none⟩ qc hu hj KE hl];simp only[Result.andThen];rw[Oper.upon_value]
 go_wp2
 go_end0
 exact ⟨rfl,rfl⟩
theorem aoZ (hP:yW Tryz.prog):kO Tryz.prog lR where
 count:=hP
 rC:=aoV hP
 ext:=by
  intro f T h b C w hh hs hc;have hf:f=164∧T=153:=by
   have h1:lR.ext f=bif Nat.beq f 164 then some 153 else bif Nat.beq f 184 then some 999999 else none:=by kernel_rfl
   rw[h1] at h;cases hb:Nat.beq f 164 with
   | true=>rw[hb] at h;rw[aK] at hb;exact ⟨hb,(dM h).symm⟩
   | false=>
    rw[hb] at h;simp only[cond_false] at h;cases fb:Nat.beq f 184 with
    | true=>
     rw[fb] at h;obtain rfl:999999=T:=dM h;have h0:C.size=0:=hs.trans (by kernel_rfl)
     have h2:C[0]? =none:=Array.getElem?_eq_none (by omega);rw[h2] at hc;simp at hc
    | false=>rw[fb] at h;cases h
  obtain ⟨rfl,rfl⟩:=hf;obtain ⟨h1,h2,h3⟩:=aoW hh;refine ⟨MuLone.run_callFunc_enter Tryz.func164 (hP _ _ Tryz.func164) (by kernel_rfl:Tryz.f164.body=some (sR Tryz.prog 164)) _ _,?_⟩;have fY:Tryz.prog.cellsOf 153=2:=by kernel_rfl
  rcases hc with hc|hc
  ·refine (aoY b C.size w (by omega) (h3.trans hc) h1 h2 (by rw[hs,fY];kernel_rfl)).mono ?_;rintro e w' ⟨rfl,rfl⟩;exact ⟨rfl,.inr rfl⟩
  ·refine (aoX b w (h3.trans hc)).mono ?_;rintro e w' ⟨rfl,rfl⟩;exact ⟨rfl,.inl rfl⟩
 QE:=by
  intro f T h h0 s c w;have h1:lR.ext f=bif Nat.beq f 164 then some 153 else bif Nat.beq f 184 then some 999999 else none:=by kernel_rfl
  rw[h1] at h;have fY:Tryz.prog.cellsOf 153=2:=by kernel_rfl
  cases hb:Nat.beq f 164 with
  | true=>
   rw[hb] at h;obtain rfl:153=T:=dM h;omega
  | false=>
   rw[hb] at h;simp only[cond_false] at h;cases fb:Nat.beq f 184 with
   | true=>
    rw[aK] at fb;subst fb;rw[run_callFunc_extern Tryz.func184 (by kernel_rfl) (by kernel_rfl) (by kernel_rfl) (e:=Extern.BytealgIndexByte.indexByte) (by kernel_rfl)];simp[Lib.run_indexByteString]
   | false=>rw[fb] at h;cases h
 idle:=by
  intro f h;have h1:lR.idle f=false:=by kernel_rfl
  rw[h1] at h;cases h
end Go.AM
set_option maxRecDepth 100000
namespace Go.AM
open Go.IntKind (wrap)
open Go.Proofs Go.Proofs.YtbpldbfoleicgaaGreatDoor Go.Lib Go.MakeChecks
def vD:List Int:=[0,1,56,2,57,49,28,3,61,58,42,50,38,29,17,4,62,47,59,36,45,43,51,22,53,39,33,30,24,18,12,5,63,55,48,27,60,41,37,16,46,35,44,21,52,32,23,11,54,26,40,15,34,20,31,10,25,14,19,9,13,8,7,6]
theorem ao0:LU=vD.map fun z=> .int .u8 z:=by kernel_rfl
theorem ao1:Rows.laid_math_bits_deBruijn64tab (H:=Unit)=tabData .u8 vD:=by kernel_rfl
def GF : List (String×DataW Unit) := [("math/bits.deBruijn64tab", Rows.laid_math_bits_deBruijn64tab)]
theorem afJ {W:World} (h:laidMetH Tryz.prog GF W):jS Tryz.prog lR.aB W (pj W):=by
 have h1 : laidMetH Tryz.prog [("math/bits.deBruijn64tab", tabData .u8 vD)] W := by
  have : GF = [("math/bits.deBruijn64tab", tabData .u8 vD)] := by unfold GF; rw [ao1]
  rwa [this] at h
 rw[laidMetH_plain _ _ _ (by kernel_rfl)] at h1;have hn : Tryz.prog.globalNamed "math/bits.deBruijn64tab" = some 0 := by kernel_rfl
 have ht:=tabIs_of_head (g:=0) (t:=205) (e:=5) (n:=64) hn (by kernel_rfl) (by kernel_rfl) (by kernel_rfl) (by kernel_rfl) (by kernel_rfl) h1;have hlen:vD.length=64:=by kernel_rfl
 have hc: ∀i,i<64→W.cell? ⟨0,i,none⟩=some (.int .u8 (vD.getD i 0)):=fun i hi=>ht.cell hn i (by rw[hlen];exact hi);intro g;have hg:lR.aB g=bif Nat.beq g 0 then .pref (List.replicate 64 5) LU else .undef:=by kernel_rfl
 rw[hg];cases hb:Nat.beq g 0 with
 | false=>exact .inl rfl
 | true=>
  rw[aK] at hb;subst hb;refine .inr ⟨List.replicate 64 5,LU,rfl,by kernel_rfl,fun _ _=> ?_,fun j t x hj hx=> ?_⟩
  ·have h0:=hc 0 (by omega);unfold pj;unfold World.cell? at h0;by_cases hz:0<W.heap.size
   ·exact hz
   ·have:W.heap[0]? =none:=Array.getElem?_eq_none (by omega);simp[this] at h0
  ·have Mt:j<64:=by
    have:=(cu.1 hj).1;simpa using this
   rw[DG,aE Mt] at hj;cases hj;rw[ao0,kZ] at hx;have jU:vD[j]? =some (vD.getD j 0):=by
    rw[bU (by rw[hlen];exact Mt)];simp[List.getD,bU (show j<vD.length by rw[hlen];exact Mt)]
   rw[jU] at hx;cases hx;exact ⟨_,by simpa using hc j Mt,.int (by kernel_rfl)⟩
theorem own:ownKnob Tryz.prog.godebug=none:=by kernel_rfl
theorem ao2:yW Tryz.prog:=ak0 (by kernel_rfl)
theorem mixed:Tryz.prog.follows .mixedOrders=true:=by kernel_rfl
theorem afI:kO Tryz.prog lR:=aoZ ao2
noncomputable def VD (os:Os):World:=World.laidAll Tryz.prog os GF
theorem afG (os:Os) (args:Array Value):laidMetH Tryz.prog GF ((VD os).forCall (fun _ _=>0) ⟨#[],args,[]⟩).memory:=by
 rw[laidMetH_plain _ _ _ (by kernel_rfl)];exact laidMet_laidAll args (by kernel_rfl) (by kernel_rfl)
end Go.AM
set_option maxRecDepth 100000
namespace Go.AM
open Go.IntKind (wrap)
open Go.Proofs
theorem acZ:maxLen≤9223372036854775807:=by unfold maxLen;omega
theorem O7:aW=35184372088832:=by unfold aW;rfl
section
variable {α β:Type} {o:Option α} {a:α} {f:α→Option β} {r:Option β} {x y z:β} {b:Bool}
theorem bs (h:o=some a) (h2:f a=r):o.bind f=r:=by rw[h];exact h2
theorem bT (hb:b=true) (h:x=z):(bif b then x else y)=z:=by rw[hb];exact h
theorem bF (hb:b=false) (h:y=z):(bif b then x else y)=z:=by rw[hb];exact h
end
section
variable {X R A α:Type} {step:X→Option (X ⊕ R)}
theorem ac0 (lH:Nat→Prop) [DecidablePred lH] (n:Nat) (s:Nat→X) (bad ok:R) (h: ∀i,i<n→step (s i)=some (if lH i then .inl (s (i+1)) else .inr bad)) (he:step (s n)=some (.inr ok)):
  Loop step (s 0)=some (if∀i,i<n→lH i then ok else bad):=by
 have go: ∀(d k:Nat),k+d=n→((∀i,k≤i→i<n→lH i)→Loop step (s k)=some ok)∧((¬∀i,k≤i→i<n→lH i)→Loop step (s k)=some bad):=by
  intro d
  induction d with
  | zero=>
   intro k hk;have:k=n:=by omega
   subst this;exact ⟨fun _=>jX he,fun hx=>absurd (fun i h1 h2=>by omega) hx⟩
  | succ d ih=>
   intro k hk;have h1:=h k (by omega);by_cases hg:lH k
   ·rw[aE hg] at h1;rw[iR h1];obtain ⟨i1,i2⟩:=ih (k+1) (by omega);refine ⟨fun ha=>i1 fun i h1 h2=>ha i (by omega) h2,fun ha=>i2 fun hx=>ha fun i h1 h2=> ?_⟩;by_cases hi:i=k
    ·rw[hi];exact hg
    ·exact hx i (by omega) h2
   ·rw[aF hg] at h1;rw[jX h1];exact ⟨fun ha=>absurd (ha k (av _) (by omega)) hg,fun _=>rfl⟩
 obtain ⟨g1,g2⟩:=go n 0 (by omega);by_cases ha: ∀i,i<n→lH i
 ·rw[aE ha];exact g1 fun i _ h=>ha i h
 ·rw[aF ha];exact g2 fun hx=>ha fun i h=>hx i (by omega) h
end
noncomputable def ao3 (C:af) (x:Int):Option LV:=
 some [V.int .i64 3,V.int .i64 x,.list cq ([]:LV)]
theorem ao4 {x:Int} {r:Option LV} (h:ao3 CC x=r):CC Cn [V.int .i64 x]=r:=bQ (L:=bO) aw h
noncomputable def ao5 (C:af) (op:Int) (kids:LV):Option LV:=
 some [V.int .i64 op,V.int .i64 0,.list cq kids]
theorem ac1 {op:Int} {kids:LV} {r:Option LV} (h:ao5 CC op kids=r):CC Lq [V.int .i64 op,.list cq kids]=r:=bQ (L:=bO) aw h
noncomputable def zH (C:af) (lx ly:Int) (aM aN:LV) (bW cd:Int) (aR aO aA:LV) {β:Type} (kn:(Int×Int×LV×LV×LV)→Option β) (kr:((Int×Int×Int×LV×LV) ⊕ (Bool×Int×Int×LV×LV×LV))→Option β):Option β:=
 (C Rl [V.int .i64 bW,V.int .i64 cd,.list cq aR,.list ag aO,.list cD aA]).bind fun r4=>
 bif !((V.nth r4 0).toBool) then
  (C Co [V.int .i64 ((V.nth (r4.drop 1) 0).toInt),V.int .i64 ((V.nth ((r4.drop 1).drop 1) 0).toInt),.list cq ((V.nth (((r4.drop 1).drop 2).drop 1) 0).toList),.list ag ((V.nth ((((r4.drop 1).drop 2).drop 1).drop 1) 0).toList),.list cD ((V.nth ((r4.drop 1).drop 2) 0).toList)]).bind fun r5=>
  bif (((V.nth r5 0).toInt):Int) != 0 then
  kr (.inl ((V.nth r5 0).toInt,0,0,([]:LV),([]:LV)))
  else
  kn ((V.nth (r5.drop 1) 0).toInt,(V.nth ((r5.drop 1).drop 1) 0).toInt,(V.nth (((r5.drop 1).drop 2).drop 1) 0).toList,(V.nth ((((r5.drop 1).drop 2).drop 1).drop 1) 0).toList,(V.nth ((r5.drop 1).drop 2) 0).toList)
 else
  kr (.inr (!((V.nth r4 0).toBool),(V.nth (r4.drop 1) 0).toInt,(V.nth ((r4.drop 1).drop 1) 0).toInt,(V.nth (((r4.drop 1).drop 2).drop 1) 0).toList,(V.nth ((((r4.drop 1).drop 2).drop 1).drop 1) 0).toList,(V.nth ((r4.drop 1).drop 2) 0).toList))
noncomputable def vE (C:af) (lx ly:Int) (aM aN:LV):=un fun bW=>un fun cd=>un fun aR=>un fun aO aA=>zH C lx ly aM aN bW cd aR aO aA (fun y=>some (Sum.inl y)) (fun r=>some (Sum.inr r))
noncomputable def ao6 (C:af):cF:=bN 81 Sa [EQ,EQ,H1,H1,EQ,EQ,H1,H1,H1] [[0,0,0,0,0],[0,1,2,0,0,5,6,0,0,0]] (@zH C) bO
theorem ao7 (C:af):bB C (ao6 C) 16 (Lp [1,1,1,0,0,0] 16):=bP Sa [EQ,EQ,H1,H1,EQ,EQ,H1,H1,H1] [[0,0,0,0,0],[0,1,2,0,0,5,6,0,0,0]] (@zH C) (bu aw)
noncomputable def ac2 (C:af) (sx sy:Int) (sA:LV) (bc:Int):Option LV:=
 (C Ri [V.int .i64 sx,V.int .i64 sy,.list cq sA,V.int .i64 bc]).bind fun r1=>
 bif (((V.nth r1 0).toInt):Int) != 0 then
  some [V.int .i64 0,V.int .i64 0,V.int .i64 ((V.nth r1 0).toInt),.list ar ([]:LV),.list ag ([]:LV)]
 else
  (C Rk [V.int .i64 sx,V.int .i64 sy,.list cq sA]).bind fun r2=>
  (C Rj [V.int .i64 ((V.nth r2 0).toInt),V.int .i64 ((V.nth (r2.drop 1) 0).toInt),.list cq ((V.nth ((r2.drop 1).drop 1) 0).toList),V.int .i64 bc]).bind fun r3=>
  (Loop (vE C 0 0 ([]:LV) ([]:LV)) ((V.nth r3 0).toInt,(V.nth (r3.drop 1) 0).toInt,(V.nth (r3.drop 2) 0).toList,(V.nth ((r3.drop 2).drop 1) 0).toList,(V.nth (((r3.drop 2).drop 1).drop 1) 0).toList)).bind (gj (un fun j7=>un fun Tz=>un fun ao8=>un fun (yA:LV) (qm:LV)=>
   some [V.int .i64 Tz,V.int .i64 ao8,V.int .i64 j7,.list ar yA,.list ag qm]) (un fun (yw:Bool)=>un fun TA=>un fun TB=>un fun (o7:LV)=>un fun (uQ:LV) (yx:LV)=>
   (C Rm [V.int .i64 TA,V.int .i64 TB,.list cq o7,.list ag uQ,.list cD yx]).bind fun Mu=>
   some [V.int .i64 ((V.nth Mu 0).toInt),V.int .i64 ((V.nth (Mu.drop 1) 0).toInt),V.int .i64 0,.list ar ((V.nth (((Mu.drop 2).drop 2).drop 1) 0).toList),.list ag ((V.nth ((((Mu.drop 2).drop 2).drop 1).drop 1) 0).toList)]))
theorem ao9 {sx sy:Int} {sA:LV} {bc:Int} {r:Option LV} (h:ac2 CC sx sy sA bc=r):CC Lo [V.int .i64 sx,V.int .i64 sy,.list cq sA,V.int .i64 bc]=r:=bQ (bC (ao7 CC) aw) h
noncomputable def apa (C:af) (bW cd:Int) (bm aM aN:LV):Option LV:=
 some [.bool (cd==(bm.length:Int)),V.int .i64 bW,V.int .i64 cd,.list cD aN,.list cq bm,.list ag aM]
theorem Mv {bW cd:Int} {bm aM aN:LV} {r:Option LV} (h:apa CC bW cd bm aM aN=r):CC Rl [V.int .i64 bW,V.int .i64 cd,.list cq bm,.list ag aM,.list cD aN]=r:=bQ (L:=bO) aw h
noncomputable def vF (C:af) (t16 t17 bW cd:Int) (aN rows aO aA:LV) {β:Type} (kn:(Int×Int×Int×LV×LV×LV×LV)→Option β) (kr:((Int×Int×Int×LV×LV×LV) ⊕ (Int×Bool×Int×Int×LV×LV×LV×LV))→Option β):Option β:=
 bif decide (t17<t16) then
  aP aO cd fun x1=>
  (C xe [V.int .i64 ((x1.cell 0).toInt),V.int .i64 ((x1.cell 1).toInt),.list cq ((x1.cell 2).toList),V.int .i64 t17]).bind fun r2=>
  bif (((V.nth (r2.drop 3) 0).toInt):Int) != 0 then
  kr (.inl ((V.nth (r2.drop 3) 0).toInt,bW,cd,aN,aO,aA))
  else
  (C xf [V.int .i64 ((V.nth r2 0).toInt),V.int .i64 ((V.nth (r2.drop 1) 0).toInt),.list cq ((V.nth ((r2.drop 1).drop 1) 0).toList)]).bind fun r3=>
  bif Nat.ble (((V.nth r3 0).toStr).length) maxLen&&true then
   bif !(gM (.str ((V.nth r3 0).toStr)) aN) then
   bif (aO.length:Int)==512 then
    kr (.inl (3,bW,cd,aN,aO,aA))
   else
    (C Lt [V.int .i64 ((V.nth r2 0).toInt),V.int .i64 ((V.nth (r2.drop 1) 0).toInt),.list cq ((V.nth ((r2.drop 1).drop 1) 0).toList),V.int .i64 bW,V.int .i64 cd,.list cq aO,.list ag aA,.list cD aN]).bind fun r4=>
    aP rows t17 fun x5=>
    kn (wrap .i64 (t17+1),(V.nth (r4.drop 1) 0).toInt,(V.nth ((r4.drop 1).drop 1) 0).toInt,(V.nth ((r4.drop 1).drop 2) 0).toList,bj rows t17 (V.int .i64 ((V.nth r4 0).toInt)),(V.nth (((r4.drop 1).drop 2).drop 1) 0).toList,(V.nth ((((r4.drop 1).drop 2).drop 1).drop 1) 0).toList)
   else
   aP rows t17 fun x6=>
   kn (wrap .i64 (t17+1),bW,cd,aN,bj rows t17 (V.int .i64 ((ki (.str ((V.nth r3 0).toStr)) aN (V.int .i64 0)).toInt)),aO,aA)
  else none
 else
  kr (.inr (t17,decide (t17<t16),bW,cd,aN,rows,aO,aA))
noncomputable def qn (C:af) (t16:Int):=un fun t17=>un fun bW=>un fun cd=>un fun aN=>un fun rows=>un fun aO aA=>vF C t16 t17 bW cd aN rows aO aA (fun y=>some (Sum.inl y)) (fun r=>some (Sum.inr r))
noncomputable def apb (C:af):cF:=bN 49 Sd [EQ,H1,H1,H1,H1,H1,H1,H1] [[0,0,0,0,0,0],[1,0,0,0,0,0,0,0,0]] (@vF C) bO
theorem apc (C:af):bB C (apb C) 34 (Lp [1,1,0,1,0,0] 34):=bP Sd [EQ,H1,H1,H1,H1,H1,H1,H1] [[0,0,0,0,0,0],[1,0,0,0,0,0,0,0,0]] (@vF C) (bu aw)
noncomputable def Mw (C:af) (bW cd:Int) (bm aM aN:LV):Option LV:=
 bif (decide (0≤bW))&&((decide (bW≤bW))&&(Nat.ble ((bW.toNat)*8) aW)) then
  (Loop (qn C ((List.replicate (bW.toNat) (V.int .i64 0)).length:Int)) (0,bW,cd,aN,List.replicate (bW.toNat) (V.int .i64 0),bm,aM)).bind (gj (un fun oo=>un fun BB=>un fun yA=>un fun (qm:LV)=>un fun (zI:LV) (TC:LV)=>
   some [V.int .i64 oo,V.int .i64 BB,V.int .i64 yA,.list cD qm,.list cq zI,.list ag TC]) (un fun BC=>un fun (uS:Bool)=>un fun GG=>un fun GH=>un fun (sB:LV)=>un fun (ac3:LV)=>un fun (p5:LV) (o9:LV)=>
   bif Nat.ble ((o9.length+([.list ab ac3]:LV).length)*24) aW then
   some [V.int .i64 0,V.int .i64 GG,V.int .i64 (wrap .i64 (GH+1)),.list cD sB,.list cq p5,.list ag (o9++([.list ab ac3]:LV))]
   else none))
 else none
theorem TD {bW cd:Int} {bm aM aN:LV} {r:Option LV} (h:Mw CC bW cd bm aM aN=r):CC Co [V.int .i64 bW,V.int .i64 cd,.list cq bm,.list ag aM,.list cD aN]=r:=bQ (bC (apc CC) aw) h
noncomputable def ac4 (C:af):Option LV:=
 (C Cn [V.int .i64 0]).bind fun r1=>
 (C Cn [V.int .i64 1]).bind fun r2=>
 (C Lq [V.int .i64 5,.list cq ([.agg [V.int .i64 ((V.nth r1 0).toInt),V.int .i64 ((V.nth (r1.drop 1) 0).toInt),.list cq ((V.nth (r1.drop 2) 0).toList)],.agg [V.int .i64 ((V.nth r2 0).toInt),V.int .i64 ((V.nth (r2.drop 1) 0).toInt),.list cq ((V.nth (r2.drop 2) 0).toList)]]:LV)]).bind fun r3=>
 (C Lq [V.int .i64 7,.list cq ([.agg [V.int .i64 ((V.nth r3 0).toInt),V.int .i64 ((V.nth (r3.drop 1) 0).toInt),.list cq ((V.nth ((r3.drop 1).drop 1) 0).toList)]]:LV)]).bind fun r4=>
 (C Lo [V.int .i64 ((V.nth r4 0).toInt),V.int .i64 ((V.nth (r4.drop 1) 0).toInt),.list cq ((V.nth ((r4.drop 1).drop 1) 0).toList),V.int .i64 2]).bind fun r5=>
 bif (((V.nth (r5.drop 2) 0).toInt):Int)==0 then
  (C zh [V.int .i64 ((V.nth r5 0).toInt),V.int .i64 ((V.nth (r5.drop 1) 0).toInt),.list ar ((V.nth (r5.drop 3) 0).toList),.list ag ((V.nth ((r5.drop 3).drop 1) 0).toList)]).bind fun r6=>
  bif ((((V.nth (r6.drop 2) 0).toList).length:Int):Int)==3 then
  (C Cn [V.int .i64 0]).bind fun r7=>
  (C Rh [V.int .i64 ((V.nth r7 0).toInt),V.int .i64 ((V.nth (r7.drop 1) 0).toInt),.list cq ((V.nth (r7.drop 2) 0).toList),.str [97]]).bind fun r8=>
  some [.bool ((V.nth r8 0).toBool)]
  else
  some [.bool false]
 else
  some [.bool false]
theorem apd {r:Option LV} (h:ac4 CC=r):CC yF []=r:=bQ (L:=bO) aw h
def kA:V:= .list cq [.agg [.int .i64 5,.int .i64 0,.list cq [.agg [.int .i64 3,.int .i64 0,.list cq []],.agg [.int .i64 3,.int .i64 1,.list cq []]]]]
def kB:V:= .list cq [.agg [.int .i64 3,.int .i64 1,.list cq []],.agg [.int .i64 7,.int .i64 0,kA]]
def kE:LV:=[.agg [.int .i64 7,.int .i64 0,kA],.agg [.int .i64 5,.int .i64 0,kB],.agg [.int .i64 1,.int .i64 0,.list cq []]]
def kM:LV:=[.ba [.str [40,97,98,41,42],.int .i64 0],.ba [.str [98,40,97,98,41,42],.int .i64 1],.ba [.str [48],.int .i64 2]]
def kF:V:= .list ar [.bool true,.bool false,.bool false]
def kN:V:= .list ag [.list ab [.int .i64 1,.int .i64 2],.list ab [.int .i64 2,.int .i64 0],.list ab [.int .i64 2,.int .i64 2]]
theorem ape:CC Ri [.int .i64 7,.int .i64 0,kA,.int .i64 2]=some [.int .i64 0]:=aD (N:=60) (n:=30) (by kernel_rfl)
theorem apf:CC Rk [.int .i64 7,.int .i64 0,kA]=some [.int .i64 7,.int .i64 0,kA]:=aD (N:=60) (n:=30) (by kernel_rfl)
theorem apg:CC Rj [.int .i64 7,.int .i64 0,kA,.int .i64 2]=some [.int .i64 2,.int .i64 0,.list cq [.agg [.int .i64 7,.int .i64 0,kA]],.list ag [],.list cD [.ba [.str [40,97,98,41,42],.int .i64 0]]]:=aD (N:=60) (n:=30) (by kernel_rfl)
theorem aph:CC xe [.int .i64 7,.int .i64 0,kA,.int .i64 0]=some [.int .i64 5,.int .i64 0,kB,.int .i64 0]:=aD (N:=60) (n:=30) (by kernel_rfl)
theorem api:CC xf [.int .i64 5,.int .i64 0,kB]=some [.str [98,40,97,98,41,42]]:=aD (N:=60) (n:=30) (by kernel_rfl)
theorem apj:CC Lt [.int .i64 5,.int .i64 0,kB,.int .i64 2,.int .i64 0,.list cq [.agg [.int .i64 7,.int .i64 0,kA]],.list ag [],.list cD [.ba [.str [40,97,98,41,42],.int .i64 0]]]=some [.int .i64 1,.int .i64 2,.int .i64 0,.list cD [.ba [.str [40,97,98,41,42],.int .i64 0],.ba [.str [98,40,97,98,41,42],.int .i64 1]],.list cq [.agg [.int .i64 7,.int .i64 0,kA],.agg [.int .i64 5,.int .i64 0,kB]],.list ag []]:=aD (N:=60) (n:=30) (by kernel_rfl)
theorem apk:CC xe [.int .i64 7,.int .i64 0,kA,.int .i64 1]=some [.int .i64 1,.int .i64 0,.list cq [],.int .i64 0]:=aD (N:=60) (n:=30) (by kernel_rfl)
theorem apl:CC xf [.int .i64 1,.int .i64 0,.list cq []]=some [.str [48]]:=aD (N:=60) (n:=30) (by kernel_rfl)
theorem apm:CC Lt [.int .i64 1,.int .i64 0,.list cq [],.int .i64 2,.int .i64 0,.list cq [.agg [.int .i64 7,.int .i64 0,kA],.agg [.int .i64 5,.int .i64 0,kB]],.list ag [],.list cD [.ba [.str [40,97,98,41,42],.int .i64 0],.ba [.str [98,40,97,98,41,42],.int .i64 1]]]=some [.int .i64 2,.int .i64 2,.int .i64 0,.list cD kM,.list cq kE,.list ag []]:=aD (N:=60) (n:=30) (by kernel_rfl)
theorem apn:CC Co [.int .i64 2,.int .i64 0,.list cq [.agg [.int .i64 7,.int .i64 0,kA]],.list ag [],.list cD [.ba [.str [40,97,98,41,42],.int .i64 0]]]=some [.int .i64 0,.int .i64 2,.int .i64 1,.list cD kM,.list cq kE,.list ag [.list ab [.int .i64 1,.int .i64 2]]]:=by
 have h1:qn CC 2 (0,2,0,[.ba [.str [40,97,98,41,42],.int .i64 0]],[.int .i64 0,.int .i64 0],[.agg [.int .i64 7,.int .i64 0,kA]],[])=some (.inl (1,2,0,[.ba [.str [40,97,98,41,42],.int .i64 0],.ba [.str [98,40,97,98,41,42],.int .i64 1]],[.int .i64 1,.int .i64 0],[.agg [.int .i64 7,.int .i64 0,kA],.agg [.int .i64 5,.int .i64 0,kB]],[])):=by simp only[qn,vF,un,aP];exact bT rfl (bT rfl (bs rfl (bs aph (bF rfl (bs api (bT rfl (bT rfl (bF rfl (bs apj (bT rfl (bs rfl rfl)))))))))))
 have h2:qn CC 2 (1,2,0,[.ba [.str [40,97,98,41,42],.int .i64 0],.ba [.str [98,40,97,98,41,42],.int .i64 1]],[.int .i64 1,.int .i64 0],[.agg [.int .i64 7,.int .i64 0,kA],.agg [.int .i64 5,.int .i64 0,kB]],[])=some (.inl (2,2,0,kM,[.int .i64 1,.int .i64 2],kE,[])):=by simp only[qn,vF,un,aP];exact bT rfl (bT rfl (bs rfl (bs apk (bF rfl (bs apl (bT rfl (bT rfl (bF rfl (bs apm (bT rfl (bs rfl rfl)))))))))))
 refine TD ?_;unfold Mw;exact bT rfl (bs ((iR h1).trans ((iR h2).trans (jX rfl))) rfl)
theorem apo:CC xe [.int .i64 5,.int .i64 0,kB,.int .i64 0]=some [.int .i64 1,.int .i64 0,.list cq [],.int .i64 0]:=aD (N:=60) (n:=30) (by kernel_rfl)
theorem apq:CC xf [.int .i64 1,.int .i64 0,.list cq []]=some [.str [48]]:=aD (N:=60) (n:=30) (by kernel_rfl)
theorem apr:CC xe [.int .i64 5,.int .i64 0,kB,.int .i64 1]=some [.int .i64 7,.int .i64 0,kA,.int .i64 0]:=aD (N:=60) (n:=30) (by kernel_rfl)
theorem aps:CC xf [.int .i64 7,.int .i64 0,kA]=some [.str [40,97,98,41,42]]:=aD (N:=60) (n:=30) (by kernel_rfl)
theorem apt:CC Co [.int .i64 2,.int .i64 1,.list cq kE,.list ag [.list ab [.int .i64 1,.int .i64 2]],.list cD kM]=some [.int .i64 0,.int .i64 2,.int .i64 2,.list cD kM,.list cq kE,.list ag [.list ab [.int .i64 1,.int .i64 2],.list ab [.int .i64 2,.int .i64 0]]]:=by
 have h1:qn CC 2 (0,2,1,kM,[.int .i64 0,.int .i64 0],kE,[.list ab [.int .i64 1,.int .i64 2]])=some (.inl (1,2,1,kM,[.int .i64 2,.int .i64 0],kE,[.list ab [.int .i64 1,.int .i64 2]])):=by simp only[qn,vF,un,aP];exact bT rfl (bT rfl (bs rfl (bs apo (bF rfl (bs apq (bT rfl (bF rfl (bT rfl (bs rfl rfl)))))))))
 have h2:qn CC 2 (1,2,1,kM,[.int .i64 2,.int .i64 0],kE,[.list ab [.int .i64 1,.int .i64 2]])=some (.inl (2,2,1,kM,[.int .i64 2,.int .i64 0],kE,[.list ab [.int .i64 1,.int .i64 2]])):=by simp only[qn,vF,un,aP];exact bT rfl (bT rfl (bs rfl (bs apr (bF rfl (bs aps (bT rfl (bF rfl (bT rfl (bs rfl rfl)))))))))
 refine TD ?_;unfold Mw;exact bT rfl (bs ((iR h1).trans ((iR h2).trans (jX rfl))) rfl)
theorem apu:CC xe [.int .i64 1,.int .i64 0,.list cq [],.int .i64 0]=some [.int .i64 1,.int .i64 0,.list cq [],.int .i64 0]:=aD (N:=60) (n:=30) (by kernel_rfl)
theorem apv:CC xf [.int .i64 1,.int .i64 0,.list cq []]=some [.str [48]]:=aD (N:=60) (n:=30) (by kernel_rfl)
theorem apw:CC xe [.int .i64 1,.int .i64 0,.list cq [],.int .i64 1]=some [.int .i64 1,.int .i64 0,.list cq [],.int .i64 0]:=aD (N:=60) (n:=30) (by kernel_rfl)
theorem apx:CC xf [.int .i64 1,.int .i64 0,.list cq []]=some [.str [48]]:=aD (N:=60) (n:=30) (by kernel_rfl)
theorem apy:CC Co [.int .i64 2,.int .i64 2,.list cq kE,.list ag [.list ab [.int .i64 1,.int .i64 2],.list ab [.int .i64 2,.int .i64 0]],.list cD kM]=some [.int .i64 0,.int .i64 2,.int .i64 3,.list cD kM,.list cq kE,kN]:=by
 have h1:qn CC 2 (0,2,2,kM,[.int .i64 0,.int .i64 0],kE,[.list ab [.int .i64 1,.int .i64 2],.list ab [.int .i64 2,.int .i64 0]])=some (.inl (1,2,2,kM,[.int .i64 2,.int .i64 0],kE,[.list ab [.int .i64 1,.int .i64 2],.list ab [.int .i64 2,.int .i64 0]])):=by simp only[qn,vF,un,aP];exact bT rfl (bT rfl (bs rfl (bs apu (bF rfl (bs apv (bT rfl (bF rfl (bT rfl (bs rfl rfl)))))))))
 have h2:qn CC 2 (1,2,2,kM,[.int .i64 2,.int .i64 0],kE,[.list ab [.int .i64 1,.int .i64 2],.list ab [.int .i64 2,.int .i64 0]])=some (.inl (2,2,2,kM,[.int .i64 2,.int .i64 2],kE,[.list ab [.int .i64 1,.int .i64 2],.list ab [.int .i64 2,.int .i64 0]])):=by simp only[qn,vF,un,aP];exact bT rfl (bT rfl (bs rfl (bs apw (bF rfl (bs apx (bT rfl (bF rfl (bT rfl (bs rfl rfl)))))))))
 refine TD ?_;unfold Mw;exact bT rfl (bs ((iR h1).trans ((iR h2).trans (jX rfl))) rfl)
theorem apz:CC Rm [.int .i64 2,.int .i64 3,.list cq kE,kN,.list cD kM]=some [.int .i64 2,.int .i64 0,.int .i64 2,.int .i64 3,.list cD kM,kF,kN,.list cq kE]:=aD (N:=60) (n:=30) (by kernel_rfl)
theorem apA:CC Lo [.int .i64 7,.int .i64 0,kA,.int .i64 2]=some [.int .i64 2,.int .i64 0,.int .i64 0,kF,kN]:=by
 have b1:vE CC 0 0 [] [] (2,0,[.agg [.int .i64 7,.int .i64 0,kA]],[],[.ba [.str [40,97,98,41,42],.int .i64 0]])=some (.inl (2,1,kE,[.list ab [.int .i64 1,.int .i64 2]],kM)):=by simp only[vE,zH,un];exact bs (Mv rfl) (bT rfl (bs apn (bF rfl rfl)))
 have b2:vE CC 0 0 [] [] (2,1,kE,[.list ab [.int .i64 1,.int .i64 2]],kM)=some (.inl (2,2,kE,[.list ab [.int .i64 1,.int .i64 2],.list ab [.int .i64 2,.int .i64 0]],kM)):=by simp only[vE,zH,un];exact bs (Mv rfl) (bT rfl (bs apt (bF rfl rfl)))
 have b3:vE CC 0 0 [] [] (2,2,kE,[.list ab [.int .i64 1,.int .i64 2],.list ab [.int .i64 2,.int .i64 0]],kM)=some (.inl (2,3,kE,[.list ab [.int .i64 1,.int .i64 2],.list ab [.int .i64 2,.int .i64 0],.list ab [.int .i64 2,.int .i64 2]],kM)):=by simp only[vE,zH,un];exact bs (Mv rfl) (bT rfl (bs apy (bF rfl rfl)))
 have b4:vE CC 0 0 [] [] (2,3,kE,[.list ab [.int .i64 1,.int .i64 2],.list ab [.int .i64 2,.int .i64 0],.list ab [.int .i64 2,.int .i64 2]],kM)=some (.inr (.inr (false,2,3,kE,[.list ab [.int .i64 1,.int .i64 2],.list ab [.int .i64 2,.int .i64 0],.list ab [.int .i64 2,.int .i64 2]],kM))):=by simp only[vE,zH,un];exact bs (Mv rfl) (bF rfl rfl)
 refine ao9 ?_;unfold ac2;refine bs ape (bF rfl (bs apf (bs apg (bs ((iR b1).trans ((iR b2).trans ((iR b3).trans (jX b4)))) ?_))));exact bs apz rfl
theorem apB:CC zh [.int .i64 2,.int .i64 0,kF,kN]=some [.int .i64 2,.int .i64 0,kF,kN]:=aD (N:=60) (n:=30) (by kernel_rfl)
theorem apC:CC Rh [.int .i64 3,.int .i64 0,.list cq [],.str [97]]=some [.bool true]:=aD (N:=60) (n:=30) (by kernel_rfl)
theorem Xt:CC yF []=some [.bool true]:=by
 have hl: ∀x,CC Cn [.int .i64 x]=some [.int .i64 3,.int .i64 x,.list cq []]:=fun x=>ao4 rfl;refine apd ?_;unfold ac4;refine bs (hl 0) (bs (hl 1) (bs (ac1 rfl) (bs (ac1 rfl) (bs apA (bT rfl (bs apB (bT rfl (bs (hl 0) (bs apC rfl)))))))))
end Go.AM
set_option maxRecDepth 100000
namespace Go.AM
open Go.IntKind (wrap)
theorem cN {α:Type} {l:List α} {i:Nat} {d:α} (h:i<l.length):l.getD i d=l[i]:=by simp[h]
structure Da where
 L:Nat
 st:Nat
 F:List Bool
 N:List (List Nat)
deriving DecidableEq
namespace Da
def n (d:Da):Nat:=d.F.length
def nx (d:Da) (q x:Nat):Nat:=(d.N.getD q []).getD x 0
def fin (d:Da) (q:Nat):Bool:=d.F.getD q false
def run (d:Da) (q:Nat) (w:List Nat):Nat:=w.foldl d.nx q
def acc (d:Da) (q:Nat) (w:List Nat):Bool:=d.fin (d.run q w)
structure Ok (d:Da):Prop where
 l1:1≤d.L
 l6:d.L≤6
 nN:d.N.length=d.n
 row: ∀r∈d.N,r.length=d.L∧∀q∈r,q<d.n
 s:d.st<d.n
 dP:d.n≤512
end Da
def WL (L:Nat) (w:List Nat):Prop:= ∀x∈w,x<L
theorem WL.nil {L:Nat}:WL L []:=fun _ h=>by cases h
theorem WL.cons {L x:Nat} {w:List Nat} (h:x<L) (hw:WL L w):WL L (x::w):=fun y hy=>by
 rcases fW.1 hy with rfl|hy
 ·exact h
 ·exact hw y hy
theorem WL.head {L x:Nat} {w:List Nat} (h:WL L (x::w)):x<L:=h x (by simp)
theorem WL.tail {L x:Nat} {w:List Nat} (h:WL L (x::w)):WL L w:=fun y hy=>h y (by simp[hy])
theorem WL.app {L:Nat} {v w:List Nat}:WL L (v++w)↔WL L v∧WL L w:=by
 unfold WL;simp only[eF];exact ⟨fun h=>⟨fun x hx=>h x (.inl hx),fun x hx=>h x (.inr hx)⟩,fun h x hx=>hx.elim (h.1 x) (h.2 x)⟩
namespace Da
def rf (d:Da) (q:Nat) (d':Da) (q':Nat):Prop:= ∀w,WL d.L w→d.acc q w=d'.acc q' w
theorem Ok.mg {d:Da} (h:d.Ok) {q x:Nat} (hq:q<d.n) (hx:x<d.L):d.nx q x<d.n:=by
 have dz:q<d.N.length:=by rw[h.nN];exact hq
 have hr:=h.row d.N[q] (dm dz);unfold nx;rw[cN dz,cN (by omega)];exact hr.2 _ (dm _)
theorem Ok.JI {d:Da} (h:d.Ok): ∀(w:List Nat) {q:Nat},q<d.n→WL d.L w→d.run q w<d.n
 | [],q,hq,_=>hq
 | x::w,q,hq,hw=>h.JI w (h.mg hq hw.head) hw.tail
theorem ac5 {d:Da} {q x:Nat} {w:List Nat}:d.run q (x::w)=d.run (d.nx q x) w:=rfl
theorem Mx {d:Da} {q x:Nat} {w:List Nat}:d.acc q (x::w)=d.acc (d.nx q x) w:=rfl
theorem Xq {d:Da} {q:Nat} {v w:List Nat}:d.run q (v++w)=d.run (d.run q v) w:=DJ
theorem Ke {d:Da} {q:Nat} {v w:List Nat}:d.acc q (v++w)=d.acc (d.run q v) w:=by unfold acc;rw[Xq]
theorem tR {d:Da} {q:Nat}:d.acc q []=d.fin q:=rfl
theorem rf.nx {d d':Da} {q q' x:Nat} (h:d.rf q d' q') (hx:x<d.L):d.rf (d.nx q x) d' (d'.nx q' x):=fun w hw=>h (x::w) (hw.cons hx)
def pos (d:Da) (t:Nat):Nat:=d.nx (t/d.L) (t %d.L)
def mt (d:Da):Nat→Nat
 | 0=>1
 | t+1=>if d.pos t=d.mt t then d.mt t+1 else d.mt t
structure EH (d:Da):Prop where
 le: ∀t,t<d.n*d.L→d.pos t≤d.mt t
 row: ∀q,q<d.n→q<d.mt (q*d.L)
 all:d.mt (d.n*d.L)=d.n
structure Canon (d:Da) (L:Nat) (K:List Nat→Bool):Prop where
 ok:d.Ok
 hL:d.L=L
 st:d.st=0
 num:d.EH
 red: ∀p q,p<d.n→q<d.n→d.rf p d q→p=q
 CW: ∀w,WL L w→d.acc 0 w=K w
theorem Kd (d:Da): ∀{s t:Nat},s≤t→d.mt s≤d.mt t:=by
 intro s t h
 induction t with
 | zero=>rw[vY.1 h];exact av _
 | succ t ih=>
  rcases js s (t+1) with h1|h1
  ·have:=ih (by omega);have e:d.mt (t+1)=if d.pos t=d.mt t then d.mt t+1 else d.mt t:=rfl
   rw[e];split<;>omega
  ·rw[show s=t+1 by omega];exact av _
theorem TE {d d':Da} {K:List Nat→Bool} {L:Nat} (h:d.Canon L K) (h':d'.Canon L K): ∀t,t≤d.n*L→t≤d'.n*L→d.mt t=d'.mt t∧(∀s,s<t→d.pos s=d'.pos s)∧∀q,q<d.mt t→d.rf q d' q:=by
 intro t;have e:=h.hL;have e':=h'.hL;have hl:=h.ok.l1
 induction t with
 | zero=>
  intro _ _;refine ⟨rfl,fun s hs=>by omega,fun q hq=> ?_⟩;obtain rfl:q=0:=by have:q<1:=hq;omega
  intro w hw;rw[h.CW w (e▸hw),h'.CW w (e▸hw)]
 | succ t ih=>
  intro h1 h2;obtain ⟨i1,i2,i3⟩:=ih (by omega) (by omega);have hm:d.mt t≤d.n:=by rw[←h.num.all];exact d.Kd (by rw[e];omega)
  have Bg:d'.mt t≤d'.n:=by rw[←h'.num.all];exact d'.Kd (by rw[e'];omega)
  have hq:t/L<d.n:=by rw[IA (by omega)];omega
  have dz:t/L<d'.n:=by rw[IA (by omega)];omega
  have hx:t %L<L:=xI _ (by omega);have hqm:t/L<d.mt t:=by
   have a:=h.num.row _ hq;rw[e] at a;have b:d.mt (t/L*L)≤d.mt t:=d.Kd (Nat.div_mul_le_self t L);omega
  have hE:=(i3 _ hqm).nx (by rw[e];exact hx);have p1:d.pos t=d.nx (t/L) (t %L):=by unfold pos;rw[e]
  have p2:d'.pos t=d'.nx (t/L) (t %L):=by unfold pos;rw[e']
  rw[←p1,←p2] at hE;have l1:=h.num.le t (by rw[e];omega);have l2:=h'.num.le t (by rw[e'];omega);have b1:d.pos t<d.n:=by rw[p1];exact h.ok.mg hq (by rw[e];exact hx)
  have b2:d'.pos t<d'.n:=by rw[p2];exact h'.ok.mg dz (by rw[e'];exact hx)
  have key:d.pos t=d'.pos t:=by
   rcases js (d.pos t) (d.mt t) with c|c
   ·have hA:=i3 _ c;refine h'.red _ _ (by omega) b2 fun w hw=> ?_;have GI:WL d.L w:=by rw[e,←e'];exact hw
    rw[←hA w GI,hE w GI]
   ·rcases js (d'.pos t) (d.mt t) with c'|c'
    ·have hA:=i3 _ c';refine h.red _ _ b1 (by omega) fun w hw=> ?_;rw[hE w hw,hA w hw]
    ·omega
  refine ⟨?_,?_,?_⟩
  ·unfold mt;rw[key,i1]
  ·intro s hs;rcases js s t with c|c
   ·exact i2 s c
   ·rw[show s=t by omega];exact key
  ·intro q u5;rcases js q (d.mt t) with c|c
   ·exact i3 q c
   ·have:d.pos t=d.mt t∧q=d.mt t:=by
     unfold mt at u5;split at u5
     ·rename_i h3;exact ⟨h3,by omega⟩
     ·omega
    rw[←key,this.1,←this.2] at hE;exact hE
theorem apD {a b:List Nat} (hl:a.length=b.length) (h: ∀x,x<a.length→a.getD x 0=b.getD x 0):a=b:=by
 refine ui hl fun x h1 h2=> ?_;have:=h x h1;rwa [cN h1,cN h2] at this
theorem TF {d:Da} (h:d.Ok) {q:Nat} (hq:q<d.n):(d.N.getD q []).length=d.L:=by
 have dz:q<d.N.length:=by rw[h.nN];exact hq
 rw[cN dz];exact (h.row _ (dm dz)).1
theorem Canon.eq {d d':Da} {K:List Nat→Bool} {L:Nat} (h:d.Canon L K) (h':d'.Canon L K):d=d':=by
 have e:=h.hL;have e':=h'.hL;have hl:=h.ok.l1;rw[e] at hl;have hn:d.n=d'.n:=by
  rcases Nat.lt_trichotomy d.n d'.n with c|c|c
  ·obtain ⟨s1,_,_⟩:=TE h h' (d.n*L) (av _) (eZ _ (by omega));have a:=h.num.all;have b:=h'.num.row d.n c;rw[e] at a;rw[e'] at b;omega
  ·exact c
  ·obtain ⟨s1,_,_⟩:=TE h h' (d'.n*L) (eZ _ (by omega)) (av _);have a:=h'.num.all;have b:=h.num.row d'.n c;rw[e'] at a;rw[e] at b;omega
 obtain ⟨s1,s2,s3⟩:=TE h h' (d.n*L) (av _) (by rw[hn];exact av _);have a:=h.num.all;rw[e] at a;have hE: ∀q,q<d.n→d.rf q d' q:=fun q hq=>s3 q (by omega);have hP: ∀q x,q<d.n→x<L→d.nx q x=d'.nx q x:=fun q x hq hx=>by
  have:=s2 (q*L+x) (by
   have:(q+1)*L≤d.n*L:=eZ _ (by omega);rw[kW] at this;omega)
  unfold pos at this;rw[e,e'] at this;rwa [show (q*L+x)/L=q by rw[xJ,Nat.mul_add_div (by omega),Nat.div_eq_of_lt hx];rfl,show (q*L+x) %L=x by rw[xJ,Nat.mul_add_mod,Nat.mod_eq_of_lt hx]] at this
 have hF:d.F=d'.F:=by
  refine ui hn fun q h1 h2=> ?_;have:=hE q h1 [] WL.nil;rw[tR,tR] at this;unfold fin at this;rwa [cN h1,cN h2] at this
 have hN:d.N=d'.N:=by
  refine ui (by rw[h.ok.nN,h'.ok.nN,hn]) fun q h1 h2=> ?_;have hq:q<d.n:=by rw[←h.ok.nN];exact h1
  have r1:=TF h.ok hq;have r2:=TF h'.ok (show q<d'.n by omega);have hx:=fun x hx=>hP q x hq hx;unfold nx at hx;rw[cN h1] at r1 hx;rw[cN h2] at r2 hx;exact apD (by omega) fun x h3=>hx x (by omega)
 obtain ⟨L1,s1,F1,N1⟩:=d;obtain ⟨L2,s2,F2,N2⟩:=d';have q1:=h.st;have q2:=h'.st;simp only at*
 subst hF hN e e' q1 q2;rfl
end Da
section
variable {α:Type} [DecidableEq α]
def cZ (S:List α) (a:α):List α:=if a∈S then S else S++[a]
def cA (next:α→Nat→α) (S:List α) (a:α):Nat→List α
 | 0=>S
 | x+1=>cZ (cA next S a x) (next a x)
def aG (L:Nat) (next:α→Nat→α) (a0:α):Nat→List α
 | 0=>[a0]
 | i+1=>match (aG L next a0 i)[i]? with
  | some a=>cA next (aG L next a0 i) a L
  | none=>aG L next a0 i
theorem zJ (S:List α) (a:α):S <+: cZ S a:=by
 unfold cZ;split
 ·exact rA _
 ·exact List.prefix_append _ _
theorem CX {S:List α} {a:α}:a∈cZ S a:=by
 unfold cZ;split
 ·assumption
 ·simp
theorem TG {S:List α} {a:α} (h:S.Nodup):(cZ S a).Nodup:=by
 unfold cZ;split
 ·exact h
 ·rename_i h2;refine DI.2 ⟨h,by simp,fun x hx y hy e=> ?_⟩;rw[fu.1 hy] at e;exact h2 (e▸hx)
theorem CY {S:List α} {a:α}:(cZ S a).length=if a∈S then S.length else S.length+1:=by
 unfold cZ;split<;>simp
variable {L:Nat} {next:α→Nat→α} {a0:α}
theorem My (S:List α) (a:α): ∀x,S <+: cA next S a x
 | 0=>rA _
 | x+1=>(My S a x).trans (zJ _ _)
theorem CZ (S:List α) (a:α) {x y:Nat} (h:x≤y):cA next S a x <+: cA next S a y:=by
 induction y with
 | zero=>rw[vY.1 h];exact rA _
 | succ y ih=>
  rcases js x (y+1) with c|c
  ·exact (ih (by omega)).trans (zJ _ _)
  ·rw[show x=y+1 by omega];exact rA _
theorem ac6 {S:List α} {a:α} (h:S.Nodup): ∀x,(cA next S a x).Nodup
 | 0=>h
 | x+1=>TG (ac6 h x)
theorem ac7 {S:List α} {a:α} {x y:Nat} (h:x<y):next a x∈cA next S a y:=
 (CZ S a (show x+1≤y by omega)).subset CX
theorem apE {i:Nat} {a:α} (h:(aG L next a0 i)[i]? =some a):aG L next a0 (i+1)=cA next (aG L next a0 i) a L:=by
 rw[aG,h]
theorem apF {i:Nat} (h:(aG L next a0 i).length≤i):aG L next a0 (i+1)=aG L next a0 i:=by
 rw[aG,List.getElem?_eq_none h]
theorem apG (i:Nat):aG L next a0 i <+: aG L next a0 (i+1):=by
 rw[aG];split
 ·exact My _ _ _
 ·exact rA _
theorem vG {i j:Nat} (h:i≤j):aG L next a0 i <+: aG L next a0 j:=by
 induction j with
 | zero=>rw[vY.1 h];exact rA _
 | succ j ih=>
  rcases js i (j+1) with c|c
  ·exact (ih (by omega)).trans (apG j)
  ·rw[show i=j+1 by omega];exact rA _
theorem C3: ∀i,(aG L next a0 i).Nodup
 | 0=>by simp[aG]
 | i+1=>by
  rw[aG];split
  ·exact ac6 (C3 i) _
  ·exact C3 i
theorem ac8 {i j:Nat} (h:(aG L next a0 i).length≤i) (hj:i≤j):aG L next a0 j=aG L next a0 i:=by
 induction j with
 | zero=>rw[vY.1 hj]
 | succ j ih=>
  rcases js i (j+1) with c|c
  ·rw[apF (by rw[ih (by omega)];omega),ih (by omega)]
  ·rw[show i=j+1 by omega]
theorem apH (i:Nat):(aG L next a0 i)[0]? =some a0:=by
 have h:=vG (L:=L) (next:=next) (a0:=a0) (mO i);have h0:0<(aG L next a0 0).length:=by simp[aG]
 rw[bU (oK h0 h.length_le),←h.getElem h0];rfl
theorem TH (i:Nat):0<(aG L next a0 i).length:=oK (by simp[aG]) (vG (L:=L) (next:=next) (a0:=a0) (mO i)).length_le
theorem Mz: ∀i,∀a∈aG L next a0 i,∃w,WL L w∧a=w.foldl next a0
 | 0,a,h=>⟨[],WL.nil,by simpa[aG] using h⟩
 | i+1,a,h=>by
  rw[aG] at h;split at h
  ·rename_i b hb;have au:b∈aG L next a0 i:=mi hb
   obtain ⟨w,hw,rfl⟩:=Mz i b au;have: ∀x,x≤L→∀a∈cA next (aG L next a0 i) (w.foldl next a0) x,∃w,WL L w∧a=w.foldl next a0:=by
    intro x
    induction x with
    | zero=>intro _ a h;exact Mz i a h
    | succ x ih=>
     intro hx a h;rw[cA] at h;unfold cZ at h;split at h
     ·exact ih (by omega) a h
     ·rcases eF.1 h with h|h
      ·exact ih (by omega) a h
      ·refine ⟨w++[x],WL.app.2 ⟨hw,WL.nil.cons (by omega)⟩,?_⟩;rw[fu.1 h,DJ];rfl
   exact this L (av _) a h
  ·exact Mz i a h
section
variable {k:Nat} (hd:(aG L next a0 k).length≤k)
include hd
theorem TI {i:Nat} (h:i<(aG L next a0 k).length):i<(aG L next a0 i).length:=by
 rcases js i (aG L next a0 i).length with c|c
 ·exact c
 ·have:=ac8 c (show i≤k by omega);rw[this] at h;omega
theorem apI {i:Nat} (h:i<(aG L next a0 k).length):(aG L next a0 i)[i]? =some (aG L next a0 k)[i]:=by
 have h1:=TI hd h;rw[bU h1,(vG (show i≤k by omega)).getElem h1]
theorem GJ {i:Nat} (h:i<(aG L next a0 k).length):aG L next a0 (i+1)=cA next (aG L next a0 i) (aG L next a0 k)[i] L:=apE (apI hd h)
theorem ac9 {a:α} (h:a∈aG L next a0 k) {x:Nat} (hx:x<L):next a x∈aG L next a0 k:=by
 obtain ⟨i,hi,rfl⟩:=List.getElem_of_mem h;have h1:next (aG L next a0 k)[i] x∈aG L next a0 (i+1):=by rw[GJ hd hi];exact ac7 hx
 rcases js i k with c|c
 ·exact (vG (show i+1≤k by omega)).subset h1
 ·omega
end
def iO (L:Nat) (next:α→Nat→α) (fin:α→Bool) (S:List α):Da where
 L:=L
 st:=0
 F:=S.map fin
 N:=S.map fun a=>(List.range L).map fun x=>S.idxOf (next a x)
theorem tS {fin:α→Bool} {S:List α}:(iO L next fin S).n=S.length:=by simp[iO,Da.n]
theorem MA {fin:α→Bool} {S:List α} {i x:Nat} (hi:i<S.length) (hx:x<L):(iO L next fin S).nx i x=S.idxOf (next S[i] x):=by
 unfold Da.nx iO;simp[pL,hi,hx]
theorem ada {fin:α→Bool} {S:List α} {i:Nat} (hi:i<S.length):(iO L next fin S).fin i=fin S[i]:=by
 unfold Da.fin iO;simp[pL,hi]
theorem C4 {S T:List α} (hp:T <+: S) {a:α} (h:a∈T):S.idxOf a=T.idxOf a:=by
 obtain ⟨U,rfl⟩:=hp;rw[AP,aE h]
section
variable {k:Nat} (hd:(aG L next a0 k).length≤k) {fin:α→Bool}
include hd
theorem apJ {i x:Nat} (hi:i<(aG L next a0 k).length) (hx:x<L): ∃h:(iO L next fin (aG L next a0 k)).nx i x<(aG L next a0 k).length,(aG L next a0 k)[(iO L next fin (aG L next a0 k)).nx i x]=next (aG L next a0 k)[i] x:=by
 have hm:=ac9 hd (dm hi) hx;rw[MA hi hx];exact ⟨v8 hm,II _⟩
theorem adb: ∀(w:List Nat) {i:Nat} (hi:i<(aG L next a0 k).length),WL L w→∃h:(iO L next fin (aG L next a0 k)).run i w<(aG L next a0 k).length,(aG L next a0 k)[(iO L next fin (aG L next a0 k)).run i w]=w.foldl next (aG L next a0 k)[i]
 | [],i,hi,_=>⟨hi,rfl⟩
 | x::w,i,hi,hw=>by
  obtain ⟨h1,h2⟩:=apJ (fin:=fin) hd hi hw.head;obtain ⟨h3,h4⟩:=adb w h1 hw.tail;refine ⟨h3,?_⟩;rw[List.foldl_cons,←h2];exact h4
theorem apK {w:List Nat} {i:Nat} (hi:i<(aG L next a0 k).length) (hw:WL L w):(iO L next fin (aG L next a0 k)).acc i w=fin (w.foldl next (aG L next a0 k)[i]):=by
 obtain ⟨h1,h2⟩:=adb (fin:=fin) hd w hi hw;unfold Da.acc;rw[ada h1,h2]
theorem apL (h1:1≤L) (h6:L≤6) (hm:(aG L next a0 k).length≤512):(iO L next fin (aG L next a0 k)).Ok where
 l1:=h1
 l6:=h6
 nN:=by rw[tS];simp[iO]
 row r hr:=by
  rw[tS];obtain ⟨a,ha,rfl⟩:=iQ.1 (show r∈(aG L next a0 k).map _ from hr);refine ⟨by simp[iO],fun q hq=> ?_⟩;obtain ⟨x,hx,rfl⟩:=iQ.1 hq;exact v8 (ac9 hd ha (iD.1 hx))
 s:=by rw[tS];exact TH k
 dP:=by rw[tS];exact hm
theorem TJ (h1:1≤L): ∀i,i≤(aG L next a0 k).length→(iO L next fin (aG L next a0 k)).mt (i*L)=(aG L next a0 i).length∧∀(hi:i<(aG L next a0 k).length) x,x≤L→(iO L next fin (aG L next a0 k)).mt (i*L+x)=(cA next (aG L next a0 i) (aG L next a0 k)[i] x).length:=by
 have key: ∀i,(iO L next fin (aG L next a0 k)).mt (i*L)=(aG L next a0 i).length→∀(hi:i<(aG L next a0 k).length) x,x≤L→(iO L next fin (aG L next a0 k)).mt (i*L+x)=(cA next (aG L next a0 i) (aG L next a0 k)[i] x).length:=by
  intro i h hi x
  induction x with
  | zero=>intro _;exact h
  | succ x ih=>
   intro hx;have ih:=ih (by omega);have hp:cA next (aG L next a0 i) (aG L next a0 k)[i] (x+1) <+: aG L next a0 k:=by
    refine (CZ _ _ hx).trans ?_;rw[←GJ hd hi];exact vG (by omega)
   have hp0:cA next (aG L next a0 i) (aG L next a0 k)[i] x <+: aG L next a0 k:=(CZ _ _ (by omega)).trans hp
   have eQ:(iO L next fin (aG L next a0 k)).pos (i*L+x)=(aG L next a0 k).idxOf (next (aG L next a0 k)[i] x):=by
    unfold Da.pos;rw[show (iO L next fin (aG L next a0 k)).L=L from rfl,show (i*L+x)/L=i by rw[xJ,Nat.mul_add_div (by omega),Nat.div_eq_of_lt (by omega)];rfl,show (i*L+x) %L=x by rw[xJ,Nat.mul_add_mod,Nat.mod_eq_of_lt (by omega)],MA hi (by omega)]
   show (iO L next fin (aG L next a0 k)).mt ((i*L+x)+1)=_;rw[Da.mt,eQ,ih,cA];rw[cA] at hp;generalize cA next (aG L next a0 i) (aG L next a0 k)[i] x=T at*
   generalize next (aG L next a0 k)[i] x=b at*
   rw[CY];by_cases hb:b∈T
   ·rw[aE hb,C4 hp0 hb,aF (by have:=v8 hb;omega)]
   ·rw[aF hb];unfold cZ at hp;rw[aF hb] at hp;rw[C4 hp (by simp),AP,aF hb];simp
 intro i
 induction i with
 | zero=>
  intro _;have:(iO L next fin (aG L next a0 k)).mt (0*L)=(aG L next a0 0).length:=by rw[Nat.zero_mul];rfl
  exact ⟨this,key 0 this⟩
 | succ i ih=>
  intro hi;obtain ⟨_,h3⟩:=ih (by omega);have h4:=h3 (by omega) L (av _);rw[←GJ hd (by omega),←Nat.succ_mul] at h4;exact ⟨h4,key (i+1) h4⟩
theorem ade:(aG L next a0 (aG L next a0 k).length)=aG L next a0 k:=by
 have hp:=vG (L:=L) (next:=next) (a0:=a0) hd;exact (ac8 hp.length_le hd).symm
theorem apM (h1:1≤L):(iO L next fin (aG L next a0 k)).EH where
 le t ht:=by
  rw[tS] at ht;have hq:t/L<(aG L next a0 k).length:=by rw[IA (by omega)];exact ht
  have hx:t %L<L:=xI _ (by omega);have Ko:t/L*L+t %L=t:=Nat.div_add_mod' t L;have h2:=(TJ (fin:=fin) hd h1 (t/L) (by omega)).2 hq (t %L) (by omega);rw[Ko] at h2;rw[h2];unfold Da.pos;rw[show (iO L next fin (aG L next a0 k)).L=L from rfl,MA hq hx];have hp:cA next (aG L next a0 (t/L)) (aG L next a0 k)[t/L] (t %L+1) <+: aG L next a0 k:=by
   refine (CZ _ _ (show t %L+1≤L by omega)).trans ?_;rw[←GJ hd hq];exact vG (by omega)
  rw[cA] at hp;generalize cA next (aG L next a0 (t/L)) (aG L next a0 k)[t/L] (t %L)=T at*
  generalize next (aG L next a0 k)[t/L] (t %L)=b at*
  rw[C4 hp CX];have:=v8 (CX (S:=T) (a:=b));rw[CY] at this;split at this<;>omega
 row q hq:=by
  rw[tS] at hq;rw[show (iO L next fin (aG L next a0 k)).L=L from rfl,(TJ hd h1 q (by omega)).1];exact TI hd hq
 all:=by
  rw[tS,show (iO L next fin (aG L next a0 k)).L=L from rfl,(TJ hd h1 _ (av _)).1,ade hd]
end
theorem adf {U:List α} (h0:a0∈U) (hU: ∀a∈U,∀x,x<L→next a x∈U) (k:Nat):aG L next a0 k ⊆ U:=by
 intro a ha;obtain ⟨w,hw,rfl⟩:=Mz k a ha;have: ∀(w:List Nat) (b:α),b∈U→WL L w→w.foldl next b∈U:=by
  intro w
  induction w with
  | nil=>intro b hb _;exact hb
  | cons x w ih=>intro b hb hw;exact ih _ (hU b hb x hw.head) hw.tail
 exact this w a0 h0 hw
theorem apO {U:List α} (h0:a0∈U) (hU: ∀a∈U,∀x,x<L→next a x∈U) (k:Nat):(aG L next a0 k).length≤U.length:=
 AK (C3 k) (adf h0 hU k)
end
namespace Da
def trim (d:Da):Da:=iO d.L d.nx d.fin (aG d.L d.nx d.st d.n)
theorem Ok.vH {d:Da} (h:d.Ok) (k:Nat):(aG d.L d.nx d.st k).length≤d.n:=by
 have:=apO (L:=d.L) (next:=d.nx) (a0:=d.st) (U:=List.range d.n) (iD.2 h.s) (fun a ha x hx=>iD.2 (h.mg (iD.1 ha) hx)) k;simpa using this
theorem Ok.GK {d:Da} (h:d.Ok) (k:Nat): ∀q∈aG d.L d.nx d.st k,q<d.n:=fun q hq=>by
 have:=adf (L:=d.L) (next:=d.nx) (a0:=d.st) (U:=List.range d.n) (iD.2 h.s) (fun a ha x hx=>iD.2 (h.mg (iD.1 ha) hx)) k hq;exact iD.1 this
theorem Ok.adg {d:Da} (h:d.Ok):d.trim.Ok:=apL (h.vH _) h.l1 h.l6 (oc (h.vH _) h.dP)
theorem Ok.TK {d:Da} (h:d.Ok) {i:Nat} (hi:i<(aG d.L d.nx d.st d.n).length) {w:List Nat} (hw:WL d.L w):d.trim.acc i w=d.acc (aG d.L d.nx d.st d.n)[i] w:=apK (h.vH _) hi hw
theorem Ok.adh {d:Da} (h:d.Ok) {w:List Nat} (hw:WL d.L w):d.trim.acc 0 w=d.acc d.st w:=by
 rw[h.TK (TH _) hw];have:=apH (L:=d.L) (next:=d.nx) (a0:=d.st) d.n;rw[bU (TH _)] at this;rw[dM this]
theorem Ok.apP {d:Da} (h:d.Ok) (hr: ∀p q,p<d.n→q<d.n→d.rf p d q→p=q):d.trim.Canon d.L (d.acc d.st) where
 ok:=h.adg
 hL:=rfl
 st:=rfl
 num:=apM (h.vH _) h.l1
 red p q hp hq he:=by
  unfold trim at hp hq;rw[tS] at hp hq;have h1:d.rf (aG d.L d.nx d.st d.n)[p] d (aG d.L d.nx d.st d.n)[q]:=fun w hw=>by
   rw[←h.TK hp hw,←h.TK hq hw];exact he w hw
  have h2:=hr _ _ (h.GK _ _ (dm hp)) (h.GK _ _ (dm hq)) h1;rw[←List.Nodup.idxOf_getElem (C3 _) p hp,←List.Nodup.idxOf_getElem (C3 _) q hq,h2]
 CW w hw:=h.adh hw
end Da
end Go.AM
set_option maxRecDepth 100000
namespace Go.AM
open Go.IntKind (wrap)
open Go.Proofs
noncomputable def GL (C:af) (zK:Int) (t38:LV) (t39 t40:Int) (t49:LV) (t50 bz bL:Int) (gG gb:LV) (t51:Int) {β:Type} (kn:Int→Option β) (kr:((Int) ⊕ (Int×Bool))→Option β):Option β:=
 bif decide (t51<t50) then
  (idx t49 t51).bind fun x2=>
  bif decide ((x2.toInt:Int)<0) then
  kr (.inl 4)
  else
  bif decide ((x2.toInt:Int)≥zK) then
   kr (.inl 4)
  else
   kn (wrap .i64 (t51+1))
 else
  kr (.inr (t51,decide (t51<t50)))
noncomputable def MB (C:af) (zK:Int) (t38:LV) (t39 t40:Int) (t49:LV) (t50 bz bL:Int) (gG gb:LV):=fun t51=>GL C zK t38 t39 t40 t49 t50 bz bL gG gb t51 (fun y=>some (Sum.inl y)) (fun r=>some (Sum.inr r))
noncomputable def GM (C:af) (zK:Int) (t38:LV) (t39 bz bL:Int) (gG gb:LV) (t40:Int) {β:Type} (kn:Int→Option β) (kr:((Int) ⊕ (Int×Bool))→Option β):Option β:=
 bif decide (t40<t39) then
  (idx t38 t40).bind fun x1=>
  bif (x1.toList.length:Int) != bz then
  kr (.inl 4)
  else
  (Loop (MB C zK t38 t39 t40 x1.toList (x1.toList.length:Int) bz bL gG gb) 0).bind (gj (fun jJ=>
   kr (.inl jJ)) (un fun (lV:Int) (kC:Bool)=>
   kn (wrap .i64 (t40+1))))
 else
  kr (.inr (t40,decide (t40<t39)))
noncomputable def MC (C:af) (zK:Int) (t38:LV) (t39 bz bL:Int) (gG gb:LV):=fun t40=>GM C zK t38 t39 bz bL gG gb t40 (fun y=>some (Sum.inl y)) (fun r=>some (Sum.inr r))
noncomputable def adi (C:af):cF:=bN 225 R7 [EQ,EQ,EQ,EQ,EQ,EQ,H1,EQ,EQ,EQ,EQ] [[0],[1,2,3,4,5,6,0,0,8,9,10,11]] (@GL C) (bN 145 R8 [EQ,EQ,EQ,H1,EQ,EQ,EQ,EQ] [[0],[1,2,3,0,0,5,6,7,8]] (@GM C) bO)
theorem apQ (C:af):bB C (adi C) 13 (Lp [1,1,1,1,1,0,1,0,0,1,1,0,0,1,1,1,0,0] 13):=bP R7 [EQ,EQ,EQ,EQ,EQ,EQ,H1,EQ,EQ,EQ,EQ] [[0],[1,2,3,4,5,6,0,0,8,9,10,11]] (@GL C) (bu aw)
theorem apR (C:af):bB C (adi C) 13 (Lp [1,1,1,1,1,0,1,0,0] 13):=bP R8 [EQ,EQ,EQ,H1,EQ,EQ,EQ,EQ] [[0],[1,2,3,0,0,5,6,7,8]] (@GM C) (bu (bC (apQ C) aw))
noncomputable def adj (C:af) (cU cX:Int) (cG c8:LV):Option LV:=
 bif decide (cU<1) then
  some [V.int .i64 1]
 else
  bif decide (cU>6) then
  some [V.int .i64 1]
  else
  bif decide ((cG.length:Int)>512) then
   some [V.int .i64 3]
  else
   bif (c8.length:Int) != (cG.length:Int) then
   some [V.int .i64 4]
   else
   bif decide (cX<0) then
    some [V.int .i64 4]
   else
    bif decide (cX≥(cG.length:Int)) then
    some [V.int .i64 4]
    else
    (Loop (MC C (cG.length:Int) c8 (c8.length:Int) cU cX cG c8) 0).bind (gj (fun j7=>
     some [V.int .i64 j7]) (un fun (oo:Int) (wQ:Bool)=>
     some [V.int .i64 0]))
theorem apS {cU cX:Int} {cG c8:LV} {r:Option LV} (h:adj CC cU cX cG c8=r):CC s6 [V.int .i64 cU,V.int .i64 cX,.list ar cG,.list ag c8]=r:=bQ (bC (apR CC) aw) h
abbrev iV (n:Int):V:= .int .i64 n
def ta (r:List Int):V:= .list ab (r.map iV)
@[simp] theorem apU (r:List Int):(ta r).toList=r.map iV:=by simp[ta]
structure Df where
 L:Int
 st:Int
 F:List Bool
 N:List (List Int)
def JR (d:Df) (l:List V):List V:= .int .i64 d.L:: .int .i64 d.st:: .list ar (d.F.map V.bool):: .list ag (d.N.map ta)::l
namespace Df
structure Ok (d:Df):Prop where
 L1: -9223372036854775808≤d.L
 L2:d.L≤9223372036854775807
 s1: -9223372036854775808≤d.st
 s2:d.st≤9223372036854775807
 F:d.F.length≤maxLen
 N:d.N.length≤maxLen
 row: ∀r∈d.N,r.length≤maxLen∧∀q∈r,-9223372036854775808≤q∧q≤9223372036854775807
def rh (d:Df) (r:List Int) (i:Nat):Prop:=0≤r.getD i 0∧r.getD i 0<d.F.length
instance (d:Df) (r:List Int):DecidablePred (d.rh r):=fun i=>by unfold rh;infer_instance
def vI (d:Df) (q:Nat):Prop:=((d.N.getD q []).length:Int)=d.L∧∀i,i<(d.N.getD q []).length→d.rh (d.N.getD q []) i
instance (d:Df):DecidablePred d.vI:=fun i=>by unfold vI;infer_instance
def val (d:Df):Int:=
 if d.L<1∨6<d.L then 1
 else if 512<d.F.length then 3
 else if d.N.length≠d.F.length∨d.st<0∨(d.F.length:Int)≤d.st then 4
 else if∀q,q<d.N.length→d.vI q then 0 else 4
end Df
theorem Pe {α:Type} {f:α→V} {l:List α} {i:Nat} {z:α} (h:i<l.length):idx (l.map f) (i:Int)=some (f (l.getD i z)):=by
 rw[W9 rfl h];simp[h]
section
variable {d:Df} (hd:d.Ok)
include hd
theorem apV {q:Nat} (h:q<d.N.length):(d.N.getD q []).length≤maxLen:=by
 rw[show d.N.getD q []=d.N[q] by simp[h]];exact (hd.row _ (dm h)).1
theorem apW {q:Nat} (hq:q<d.N.length) {t38:List V} {t39:Int} {a b:Int} {l1 l2:List V}:
  Loop (MB CC (d.F.length:Int) t38 t39 (q:Int) ((d.N.getD q []).map iV) (((d.N.getD q []).map iV).length:Int) a b l1 l2) 0=
   some (if∀i,i<(d.N.getD q []).length→d.rh (d.N.getD q []) i then .inr (((d.N.getD q []).length:Int),false) else .inl 4):=by
 have hl:=apV hd hq;have hm:=acZ;generalize d.N.getD q []=r at*
 refine ac0 (d.rh r) r.length (fun i=>(i:Int)) (.inl 4:Int ⊕ (Int×Bool)) (.inr ((r.length:Int),false)) (fun i hi=> ?_) ?_
 ·simp only[MB,GL,db,FO];rw[dv,Pe (z:=0) hi];simp only[Option.bind_some,V.toInt_int];by_cases h1:r.getD i 0<0
  ·rw[aE h1,aF (show¬d.rh r i from fun h=>by unfold Df.rh at h;omega)]
  ·rw[aF h1];by_cases h2:r.getD i 0≥(d.F.length:Int)
   ·rw[aE h2,aF (show¬d.rh r i from fun h=>by unfold Df.rh at h;omega)]
   ·rw[aF h2,aE (show d.rh r i from ⟨by omega,by omega⟩),rZ];rfl
 ·simp only[MB,GL,db,FO];rw[dA,VE]
theorem apX {a b:Int} {l1 l2:List V}:
  Loop (MC CC (d.F.length:Int) (d.N.map ta) ((d.N.map ta).length:Int) d.L b l1 l2) 0=
   some (if∀q,q<d.N.length→d.vI q then .inr ((d.N.length:Int),false) else .inl 4):=by
 have hm:=acZ;have hN:=hd.N;refine ac0 d.vI d.N.length (fun i=>(i:Int)) (.inl 4:Int ⊕ (Int×Bool)) (.inr ((d.N.length:Int),false)) (fun q hq=> ?_) ?_
 ·simp only[MC,GM,db,FO];rw[dv,Pe (z:=[]) hq];simp only[Option.bind_some,apU,db,aah];have:=apW hd hq (t38:=d.N.map ta) (t39:=(d.N.length:Int)) (a:=d.L) (b:=b) (l1:=l1) (l2:=l2);rw[db] at this;by_cases h1:((d.N.getD q []).length:Int)=d.L
  ·rw[aE h1];refine bs this ?_;by_cases h2: ∀i,i<(d.N.getD q []).length→d.rh (d.N.getD q []) i
   ·rw[aE h2,aE (show d.vI q from ⟨h1,h2⟩)];simp only[gj,un];rw[rZ];rfl
   ·rw[aF h2,aF (show¬d.vI q from fun h=>h2 h.2)];rfl
  ·rw[aF h1,aF (show¬d.vI q from fun h=>h1 h.1)]
 ·simp only[MC,GM,db,FO];rw[dA,VE]
theorem apY:CC s6 (JR d [])=some [.int .i64 d.val]:=by
 refine apS ?_;unfold adj Df.val;simp only[db,FO,aah];have h:=apX hd (a:=0) (b:=d.st) (l1:=d.F.map V.bool) (l2:=d.N.map ta);rw[db] at h;by_cases h1:d.L<1
 ·rw[aE h1,aE (.inl h1)]
 rw[aF h1];by_cases h2:d.L>6
 ·rw[aE h2,aE (.inr h2)]
 rw[aF h2,aF (show¬(d.L<1∨6<d.L) by omega)];by_cases h3:512<d.F.length
 ·rw[aE (show (d.F.length:Int)>512 by omega),aE h3]
 rw[aF (show¬(d.F.length:Int)>512 by omega),aF h3];by_cases h4:d.N.length=d.F.length
 ·rw[aE (show (d.N.length:Int)=(d.F.length:Int) by omega)];by_cases h5:d.st<0
  ·rw[aE h5,aE (.inr (.inl h5))]
  rw[aF h5];by_cases h6:d.st≥(d.F.length:Int)
  ·rw[aE h6,aE (.inr (.inr h6))]
  rw[aF h6,aF (show¬(d.N.length≠d.F.length∨d.st<0∨(d.F.length:Int)≤d.st) by omega)];refine bs h ?_;split<;>rfl
 ·rw[aF (show¬(d.N.length:Int)=(d.F.length:Int) by omega),aE (.inl h4)]
end
def sa (r:List Nat):List Int:=r.map fun q:Nat=>(q:Int)
theorem adk (r:List Nat) (i:Nat):(sa r).getD i 0=((r.getD i 0:Nat):Int):=by
 unfold sa;by_cases h:i<r.length
 ·rw[cN h,cN (by simpa using h)];simp
 ·simp[List.getElem?_eq_none (Nat.le_of_not_lt h)]
def Da.df (a:Da):Df:=⟨a.L,a.st,a.F,a.N.map sa⟩
theorem Da.Ok.apZ {a:Da} (h:a.Ok):a.df.Ok:=by
 have h1:=h.l6;have h2:=h.s;have h3:=h.dP;have h4:=h.nN;unfold Da.n at*
 refine ⟨by simp only[Da.df];omega,by simp only[Da.df];omega,by simp only[Da.df];omega,by simp only[Da.df];omega,by simp only[Da.df];unfold maxLen;omega,by simp only[Da.df,db];unfold maxLen;omega,fun r hr=> ?_⟩;obtain ⟨r,qd,rfl⟩:=iQ.1 hr;have:=h.row r qd;refine ⟨by simp only[sa,db];unfold maxLen;omega,fun q hq=> ?_⟩;obtain ⟨q,u5,rfl⟩:=iQ.1 hq;have:=this.2 q u5;unfold Da.n at this;omega
theorem Da.Ok.val {a:Da} (h:a.Ok):a.df.val=0:=by
 have h0:=h.l1;have h1:=h.l6;have h2:=h.s;have h3:=h.dP;have h4:=h.nN;unfold Da.n at*
 unfold Df.val;rw[aF (by simp only[Da.df];omega),aF (by simp only[Da.df];omega),aF (by simp only[Da.df,db];omega),aE];intro q hq;simp only[Da.df,db] at hq;have e:a.df.N.getD q []=sa (a.N.getD q []):=by simp[Da.df,hq]
 have hr:=h.row (a.N.getD q []) (by rw[show a.N.getD q []=a.N[q] by simp[hq]];exact dm hq);unfold Df.vI;rw[e];refine ⟨by simp only[sa,db,Da.df];omega,fun i hi=> ?_⟩;rw[sa,db] at hi;have:=hr.2 ((a.N.getD q [])[i]) (dm hi);unfold Df.rh;rw[adk,cN hi];simp only[Da.df];unfold Da.n at this;omega
def tab {α:Type} (n:Nat) (g:Nat→α):List α:=(List.range n).map g
section
variable {α β:Type} {n i:Nat} {g h:Nat→α}
@[simp] theorem fG:(tab n g).length=n:=by simp[tab]
theorem nq (hi:i<n):(tab n g)[i]? =some (g i):=by simp[tab,hi]
theorem wM (hi:i<n) {z:α}:(tab n g).getD i z=g i:=by simp[tab,hi]
theorem TL (hi:i<(tab n g).length):(tab n g)[i]=g i:=by simp[tab]
theorem dB (e: ∀j,j<n→g j=h j):tab n g=tab n h:=pK fun j hj=>e j (iD.1 hj)
theorem mH {v:α}:(tab n g).set i v=tab n fun j=>if j=i then v else g j:=by
 refine ui (by simp) fun j h1 h2=> ?_;rw[List.getElem_set,TL,TL];simp only[eq_comm]
theorem ap0:tab n g++[g n]=tab (n+1) g:=by simp[tab,List.range_succ]
theorem Bw:tab (n+1) g=tab n g++[g n]:=ap0.symm
theorem qo {v:α}:List.replicate n v=tab n fun _=>v:=by simp[tab,List.map_const']
theorem ap1 {f:α→β}:(tab n g).map f=tab n fun i=>f (g i):=by simp[tab,Function.comp]
theorem adl (l:List α) (z:α):l=tab l.length fun i=>l.getD i z:=by
 refine ui (by simp) fun j h1 h2=> ?_;rw[TL];simp[h1]
theorem zL (l:List α) (z:α) {f:α→β}:l.map f=tab l.length fun i=>f (l.getD i z):=by
 rw[←ap1,←adl]
theorem JJ {a:α}:a∈tab n g↔∃i,i<n∧g i=a:=by simp[tab]
end
section
variable {γ:Type} {n i:Nat} {g:Nat→V}
theorem qp (hi:i<n):idx (tab n g) (i:Int)=some (g i):=by rw[ym rfl,nq hi]
theorem nr (hi:i<n) {K:V→Option γ}:(bif (decide (0≤(i:Int)))&&(decide ((i:Int)<((tab n g).length:Int))) then ((tab n g)[((i:Int)).toNat]?).bind K else none)=K (g i):=by
 rw[Int.toNat_natCast,nq hi,kh.2 ⟨cp (by omega),cp (by rw[fG];omega)⟩];rfl
theorem bX {es:List V} {v:V} (hi:es[i]? =some v) {K:V→Option γ}:(bif (decide (0≤(i:Int)))&&(decide ((i:Int)<(es.length:Int))) then (es[((i:Int)).toNat]?).bind K else none)=K v:=by
 have hl:i<es.length:=by
  rcases js i es.length with h|h
  ·exact h
  ·rw[List.getElem?_eq_none h] at hi;cases hi
 rw[Int.toNat_natCast,hi,kh.2 ⟨cp (by omega),cp (by omega)⟩];rfl
theorem ou {m:Nat} (hi:i<m):((decide (0≤(i:Int)))&&(decide ((i:Int)<(m:Int))))=true:=kh.2 ⟨cp (by omega),cp (by omega)⟩
end
theorem cap {a b m:Nat} (h:a+b≤10000000) (hm:m≤1000):Nat.ble ((a+b)*m) aW=true:=by
 rw[fV,O7];have:=Nat.mul_le_mul h hm;omega
theorem fO {n m:Nat} (h:n≤10000000) (hm:m≤1000):((decide (0≤(n:Int)))&&((decide ((n:Int)≤(n:Int)))&&(Nat.ble (((n:Int).toNat)*m) aW)))=true:=by
 have h2:=Nat.mul_le_mul h hm;rw[Int.toNat_natCast];refine kh.2 ⟨cp (by omega),kh.2 ⟨cp (by omega),?_⟩⟩;rw[fV,O7];omega
theorem br {i:Nat} (h:i≤1000000000):wrap .i64 ((i:Int)+1)=((i+1:Nat):Int):=by rw[rZ];omega
theorem bh {i n:Nat} (h:i<n):decide ((i:Int)<(n:Int))=true:=cp (by omega)
theorem aV {i n:Nat} (h:n≤i):decide ((i:Int)<(n:Int))=false:=da (by omega)
section
variable {X R:Type} {step:X→Option (X ⊕ R)}
theorem gx (n:Nat) (s:Nat→X) (r:R) (h: ∀i,i<n→step (s i)=some (.inl (s (i+1)))) (he:step (s n)=some (.inr r)):Loop step (s 0)=some r:=akZ s n h he
theorem jD (P:Nat→X→Prop) (Q:R→Prop): ∀(n k:Nat) (x:X),(∀i,k≤i→i<k+n→∀x,P i x→∃y,step x=some (.inl y)∧P (i+1) y)→(∀x,P (k+n) x→∃r,step x=some (.inr r)∧Q r)→P k x→∃r,Loop step x=some r∧Q r
 | 0,k,x,_,he,hx=>by
  obtain ⟨r,h1,h2⟩:=he x hx;exact ⟨r,jX h1,h2⟩
 | n+1,k,x,h,he,hx=>by
  obtain ⟨y,h1,h2⟩:=h k (av _) (by omega) x hx;obtain ⟨r,h3,h4⟩:=jD P Q n (k+1) y (fun i hi hn=>h i (by omega) (by omega)) (by rw[show k+1+n=k+(n+1) by omega];exact he) h2;exact ⟨r,(iR h1).trans h3,h4⟩
theorem ap2 (bad:Nat→Bool) (n:Nat) (s:Nat→X) (r1:Nat→R) (r2:R) (h: ∀i,i<n→step (s i)=some (if bad i=true then .inr (r1 i) else .inl (s (i+1)))) (he:step (s n)=some (.inr r2)):
  (∃i,i<n∧bad i=true∧(∀j,j<i→bad j=false)∧Loop step (s 0)=some (r1 i))∨((∀i,i<n→bad i=false)∧Loop step (s 0)=some r2):=by
 have go: ∀(d k:Nat),k+d=n→(∀j,j<k→bad j=false)→Loop step (s 0)=Loop step (s k)→(∃i,i<n∧bad i=true∧(∀j,j<i→bad j=false)∧Loop step (s 0)=some (r1 i))∨((∀i,i<n→bad i=false)∧Loop step (s 0)=some r2):=by
  intro d
  induction d with
  | zero=>
   intro k hk hb e;obtain rfl:k=n:=by omega
   exact .inr ⟨hb,e.trans (jX he)⟩
  | succ d ih=>
   intro k hk hb e;have h1:=h k (by omega);cases vi:bad k with
   | true=>
    rw[aE vi] at h1;exact .inl ⟨k,by omega,vi,hb,e.trans (jX h1)⟩
   | false=>
    rw[aF (by rw[vi];simp)] at h1;refine ih (k+1) (by omega) (fun j hj=> ?_) (e.trans (iR h1));rcases js j k with c|c
    ·exact hb j c
    ·rw[show j=k by omega];exact vi
 exact go n 0 (by omega) (fun j hj=>by omega) rfl
end
def GN (w:List UInt8) (i:Nat):Int:=((w.getD i 0).toNat:Int)-97
def GO (w:List UInt8) (L:Int):Prop:=1≤L∧L≤6∧w.length≤2048∧∀i,i<w.length→0≤GN w i∧GN w i<L
instance (w:List UInt8) (L:Int):Decidable (GO w L):=by unfold GO;infer_instance
def o6 (L:Nat) (f:Nat→Nat):V:= .list ab (tab L fun x=>iV (f x))
def Da.dU (a:Da):List V:=tab a.n fun q=>V.bool (a.fin q)
def Da.eh (a:Da):List V:=tab a.n fun q=>o6 a.L (a.nx q)
@[simp] theorem Da.EE {a:Da}:a.dU.length=a.n:=by simp[Da.dU]
@[simp] theorem Da.ap3 {a:Da}:a.eh.length=a.n:=by simp[Da.eh]
@[simp] theorem EF {L:Nat} {f:Nat→Nat}:(o6 L f).toList=tab L fun x=>iV (f x):=by simp[o6]
def o5 (a:Da) (l:List V):List V:= .int .i64 a.L:: .int .i64 a.st:: .list ar a.dU:: .list ag a.eh::l
def dK (a:Da):List V:=o5 a []
theorem Da.Ok.leaves {a:Da} (h:a.Ok) (l:List V):JR a.df l=o5 a l:=by
 unfold JR o5;have e1:a.df.F.map V.bool=a.dU:=zL _ false;have e2:a.df.N.map ta=a.eh:=by
  unfold Da.eh;rw[zL _ [],show a.df.N.length=a.n by simp[Da.df,h.nN]];refine dB fun q hq=> ?_;have dz:q<a.N.length:=by rw[h.nN];exact hq
  unfold ta o6;rw[show a.df.N.getD q []=sa (a.N.getD q []) by simp[Da.df,dz],zL _ 0];have hl:(sa (a.N.getD q [])).length=a.L:=by simp only[sa,db];exact Da.TF h hq
  rw[hl];exact congrArg _ (dB fun x _=>by rw[adk];rfl)
 rw[e1,e2];rfl
theorem Da.JK {a:Da} {q:Nat} (hq:q<a.n):idx a.dU (q:Int)=some (.bool (a.fin q)):=qp hq
theorem Da.JL {a:Da} {q:Nat} (hq:q<a.n):idx a.eh (q:Int)=some (o6 a.L (a.nx q)):=qp hq
theorem MD {L x:Nat} {f:Nat→Nat} (hx:x<L):idx (tab L fun x=>iV (f x)) (x:Int)=some (iV (f x)):=qp hx
theorem mC {a:Da} (h:a.Ok):CC s6 (dK a)=some [.int .i64 0]:=by
 have:=apY h.apZ;rwa [h.val,h.leaves] at this
def lets (w:List UInt8):List Nat:=w.map fun b=>b.toNat-97
theorem adm {w:List UInt8}:(lets w).length=w.length:=by simp[lets]
theorem ap4 {w:List UInt8} {i:Nat} (hi:i<w.length) (h:0≤GN w i):(((lets w).getD i 0:Nat):Int)=GN w i:=by
 unfold lets GN at*
 rw[cN (by simpa using hi),cN hi] at*
 simp only[DK];omega
theorem GO.WL {w:List UInt8} {L:Nat} (h:GO w (L:Int)):WL L (lets w):=fun x hx=>by
 obtain ⟨i,hi,rfl⟩:=List.getElem_of_mem hx;rw[adm] at hi;obtain ⟨h1,h2⟩:=h.2.2.2 i hi;have:=ap4 hi h1;rw[cN (by rw[adm];exact hi)] at this;omega
section
variable {a:Da} (h:a.Ok) {w:List UInt8} (hw:GO w (a.L:Int)) {q:Nat} (hq:q<a.n)
include h hw hq
end
section
variable {α:Type} (ke:α→V)
def fR (i:Nat):List α→List V
 | []=>[]
 | a::S=> .ba [ke a,iV (i:Int)]::fR (i+1) S
where iV (n:Int):V:= .int .i64 n
end
theorem GP {α:Type} {ke:α→V}: ∀(S:List α) (i:Nat),(fR ke i S).length=S.length
 | [],_=>rfl
 | a::S,i=>by simp[fR,GP S (i+1)]
section
variable {α:Type} [DecidableEq α] {ke:α→V}
variable (hk: ∀a b,ju (ke a) (ke b)=decide (a=b))
include hk
theorem TM (x:α): ∀(S:List α) (i:Nat),gM (ke x) (fR ke i S)=decide (x∈S)
 | [],_=>by simp[fR,gM]
 | a::S,i=>by
  have c: ∀(p q:V),(V.ba [p,q]).comp 0=p:=fun p q=>rfl;rw[fR,gM,c,hk,TM x S (i+1)];rw[xL];simp
theorem TN (x:α) (z:V): ∀(S:List α) (i:Nat),x∈S→ki (ke x) (fR ke i S) z= .int .i64 ((i+S.idxOf x:Nat):Int)
 | [],_,h=>by cases h
 | a::S,i,h=>by
  have c: ∀(p q:V),(V.ba [p,q]).comp 0=p:=fun p q=>rfl;have c1: ∀(p q:V),(V.ba [p,q]).comp 1=q:=fun p q=>rfl;rw[fR,ki,c,c1,hk];by_cases e:x=a
  ·subst e;rw[cp rfl];simp[fR.iV]
  ·rw[da e,cond_false,TN x z S (i+1) ((fW.1 h).resolve_left e),show (a::S).idxOf x=S.idxOf x+1 from by rw[List.idxOf_cons,show (a==x)=false from ue.2 fun h=>e h.symm];rfl];congr 2;omega
theorem TO (x:α): ∀(S:List α) (i:Nat),x∉S→jv (ke x) (.int .i64 ((i+S.length:Nat):Int)) (fR ke i S)=fR ke i (S++[x])
 | [],i,_=>by simp[fR,jv,fR.iV]
 | a::S,i,h=>by
  have c: ∀(p q:V),(V.ba [p,q]).comp 0=p:=fun p q=>rfl;have e:x≠a:=fun e=>h (by simp[e]);rw[fR,jv,c,hk,da e,cond_false,List.cons_append,fR];congr 1;have:=TO x S (i+1) fun hx=>h (by simp[hx]);rw[←this];simp only[List.length_cons];congr 3;omega
end
theorem ap5 (a b:Nat):ju (.int .i64 (a:Int)) (.int .i64 (b:Int))=decide (a=b):=by
 simp only[ju,V.cells,pO,wg,Bool.and_true];rw[xL];simp;omega
theorem TP {n:Nat} (h:n≤1000000000000):gE .i64 (n:Int)=true:=by
 have e1:IntKind.min .i64= -9223372036854775808:=by decide
 have e2:IntKind.max .i64=9223372036854775807:=by decide
 unfold gE;rw[e1,e2];exact kh.2 ⟨cp (by omega),cp (by omega)⟩
theorem ap6 {α:Type} [DecidableEq α] {S:List α} {a:α}:(cZ S a).idxOf a=if a∈S then S.idxOf a else S.length:=by
 unfold cZ;split
 ·rfl
 ·rename_i h;rw[AP,aF h];simp
noncomputable def adn (C:af) (q x gf gg:Int) (zM xw:LV):Option LV:=
 (idx xw q).bind fun x1=>
 (idx x1.toList x).bind fun x2=>
 some [V.int .i64 x2.toInt,V.int .i64 gf,V.int .i64 gg,.list ar zM,.list ag xw]
theorem ap7 {q x gf gg:Int} {zM xw:LV} {r:Option LV} (h:adn CC q x gf gg zM xw=r):CC vu [V.int .i64 q,V.int .i64 x,V.int .i64 gf,V.int .i64 gg,.list ar zM,.list ag xw]=r:=bQ (L:=bO) aw h
noncomputable def ado (C:af) (q ME MF:Int) (GQ MG:LV):Option LV:=
 (idx GQ q).bind fun x1=>
 some [.bool x1.toBool,V.int .i64 ME,V.int .i64 MF,.list ar GQ,.list ag MG]
theorem ap8 {q ME MF:Int} {GQ MG:LV} {r:Option LV} (h:ado CC q ME MF GQ MG=r):CC vw [V.int .i64 q,V.int .i64 ME,V.int .i64 MF,.list ar GQ,.list ag MG]=r:=bQ (L:=bO) aw h
noncomputable def adp (C:af) (x:Int) (bm:LV):Option LV:=
 bif gE .i64 x&&true then
  bif gE .i64 x&&true then
  bif Nat.ble ((bm.length+([V.int .i64 x]:LV).length)*8) aW then
   some [V.int .i64 (bm.length:Int),.list ab (bm++([V.int .i64 x]:LV)),.list kP (jv (V.int .i64 x) (V.int .i64 (bm.length:Int)) ([]:LV))]
  else none
  else none
 else none
theorem ap9 {x:Int} {bm:LV} {r:Option LV} (h:adp CC x bm=r):CC F7 [V.int .i64 x,.list ab bm]=r:=bQ (L:=bO) aw h
noncomputable def adq (C:af) (x:Int) (bm aM:LV):Option LV:=
 bif gE .i64 x&&true then
  bif !(gM (V.int .i64 x) aM) then
  bif gE .i64 x&&true then
   bif Nat.ble ((bm.length+([V.int .i64 x]:LV).length)*8) aW then
   some [V.int .i64 (bm.length:Int),.list kP (jv (V.int .i64 x) (V.int .i64 (bm.length:Int)) aM),.list ab (bm++([V.int .i64 x]:LV))]
   else none
  else none
  else
  some [V.int .i64 ((ki (V.int .i64 x) aM (V.int .i64 0)).toInt),.list kP aM,.list ab bm]
 else none
theorem aqa {x:Int} {bm aM:LV} {r:Option LV} (h:adq CC x bm aM=r):CC Rr [V.int .i64 x,.list ab bm,.list kP aM]=r:=bQ (L:=bO) aw h
noncomputable def GR (C:af) (bc i state t36 C6 C7 bz bL:Int) (aO aA b7 cg:LV) (t37 pA pB:Int) (pC pD rows aQ bw:LV) {β:Type} (kn:(Int×Int×Int×LV×LV×LV×LV×LV)→Option β) (kr:(Int×Bool×Int×Int×LV×LV×LV×LV×LV)→Option β):Option β:=
 bif decide (t37<t36) then
  (C vu [V.int .i64 state,V.int .i64 t37,V.int .i64 pA,V.int .i64 pB,.list ar pC,.list ag pD]).bind fun r3=>
  (C Rr [V.int .i64 ((V.nth r3 0).toInt),.list ab aQ,.list kP bw]).bind fun r4=>
  aP rows t37 fun x5=>
  kn (wrap .i64 (t37+1),(V.nth (r3.drop 1) 0).toInt,(V.nth ((r3.drop 1).drop 1) 0).toInt,(V.nth (((r3.drop 1).drop 1).drop 1) 0).toList,(V.nth ((((r3.drop 1).drop 1).drop 1).drop 1) 0).toList,bj rows t37 (V.int .i64 ((V.nth r4 0).toInt)),(V.nth ((r4.drop 1).drop 1) 0).toList,(V.nth (r4.drop 1) 0).toList)
 else
  kr (t37,decide (t37<t36),pA,pB,pC,pD,rows,aQ,bw)
noncomputable def MH (C:af) (bc i state t36 C6 C7 bz bL:Int) (aO aA b7 cg:LV):=un fun t37=>un fun pA=>un fun pB=>un fun pC=>un fun pD=>un fun rows=>un fun aQ bw=>GR C bc i state t36 C6 C7 bz bL aO aA b7 cg t37 pA pB pC pD rows aQ bw (fun y=>some (Sum.inl y)) (fun r=>some (Sum.inr r))
noncomputable def GS (C:af) (bc C6 C7 bz bL:Int) (aR aO:LV) (i pA pB:Int) (pC pD aA aQ bw b7:LV) {β:Type} (kn:(Int×Int×Int×LV×LV×LV×LV×LV×LV)→Option β) (kr:((Int×Int×Int×LV×LV×Int×Int×LV×LV×LV) ⊕ (Int×Bool×Int×Int×LV×LV×LV×LV×LV×LV))→Option β):Option β:=
 bif decide (i<(aA.length:Int)) then
  aP aA i fun x2=>
  bif (decide (0≤bc))&&((decide (bc≤bc))&&(Nat.ble ((bc.toNat)*8) aW)) then
  (Loop (MH C bc i x2.toInt ((List.replicate (bc.toNat) (V.int .i64 0)).length:Int) C6 C7 bz bL aR aO bw b7) (0,pA,pB,pC,pD,List.replicate (bc.toNat) (V.int .i64 0),aA,aQ)).bind (un fun j7=>un fun (oo:Bool)=>un fun adr=>un fun ads=>un fun (adt:LV)=>un fun (adu:LV)=>un fun (adv:LV)=>un fun (C8:LV) (o7:LV)=>
   bif decide ((C8.length:Int)>512) then
    kr (.inl (3,adr,ads,adt,adu,0,0,([]:LV),([]:LV),([]:LV)))
   else
    bif Nat.ble ((b7.length+([.list ab adv]:LV).length)*24) aW then
    (C vw [V.int .i64 x2.toInt,V.int .i64 adr,V.int .i64 ads,.list ar adt,.list ag adu]).bind fun C9=>
    bif Nat.ble ((bw.length+([.bool ((V.nth C9 0).toBool)]:LV).length)*1) aW then
     kn (wrap .i64 (i+1),(V.nth (C9.drop 1) 0).toInt,(V.nth ((C9.drop 1).drop 1) 0).toInt,(V.nth (((C9.drop 1).drop 1).drop 1) 0).toList,(V.nth ((((C9.drop 1).drop 1).drop 1).drop 1) 0).toList,C8,o7,bw++([.bool ((V.nth C9 0).toBool)]:LV),b7++([.list ab adv]:LV))
    else none
    else none)
  else none
 else
  kr (.inr (i,decide (i<(aA.length:Int)),pA,pB,pC,pD,aA,aQ,bw,b7))
noncomputable def MI (C:af) (bc C6 C7 bz bL:Int) (aR aO:LV):=un fun i=>un fun pA=>un fun pB=>un fun pC=>un fun pD=>un fun aA=>un fun aQ=>un fun bw b7=>GS C bc C6 C7 bz bL aR aO i pA pB pC pD aA aQ bw b7 (fun y=>some (Sum.inl y)) (fun r=>some (Sum.inr r))
noncomputable def adw (C:af):cF:=bN 161 SD [EQ,EQ,EQ,EQ,H1,H1,H1,H1,H1,EQ,EQ,EQ,EQ,H1,EQ,EQ,H1,H1,EQ,EQ] [[1,2,3,4,0,0,0,0,0,0,10,11,12,13,0,15,16,0,0,19,20]] (@GR C) (bN 81 SF [EQ,H1,H1,H1,H1,H1,EQ,EQ,EQ,EQ,EQ,EQ,H1,H1,H1,H1] [[0,0,0,0,0,0,0,0,0,0],[1,0,0,0,0,0,0,7,8,9,10,11,12,0,0,0,0]] (@GS C) bO)
theorem aqb (C:af):bB C (adw C) 82 (Lp [1,1,1,1,0,1,0,0,1,0,0,1,1,0,1,0,0] 82):=bP SD [EQ,EQ,EQ,EQ,H1,H1,H1,H1,H1,EQ,EQ,EQ,EQ,H1,EQ,EQ,H1,H1,EQ,EQ] [[1,2,3,4,0,0,0,0,0,0,10,11,12,13,0,15,16,0,0,19,20]] (@GR C) (bu aw)
theorem aqc (C:af):bB C (adw C) 82 (Lp [1,1,1,1,0,1,0,0] 82):=bP SF [EQ,H1,H1,H1,H1,H1,EQ,EQ,EQ,EQ,EQ,EQ,H1,H1,H1,H1] [[0,0,0,0,0,0,0,0,0,0],[1,0,0,0,0,0,0,7,8,9,10,11,12,0,0,0,0]] (@GS C) (bu (bC (aqb C) aw))
noncomputable def adx (C:af) (bc start pA pB:Int) (pC pD:LV):Option LV:=
 (C F7 [V.int .i64 start,.list ab ([]:LV)]).bind fun r1=>
 (Loop (MI C bc 0 0 bc 0 ([]:LV) ([]:LV)) (0,pA,pB,pC,pD,(V.nth (r1.drop 1) 0).toList,(V.nth ((r1.drop 1).drop 1) 0).toList,([]:LV),([]:LV))).bind (gj (un fun yE=>un fun sB=>un fun vJ=>un fun (p5:LV)=>un fun (o9:LV)=>un fun aqd=>un fun aqe=>un fun (tT:LV)=>un fun (uU:LV) (aqf:LV)=>
  some [V.int .i64 aqd,V.int .i64 aqe,V.int .i64 yE,V.int .i64 sB,V.int .i64 vJ,.list ar p5,.list ag o9,.list ar tT,.list ag uU,.list ab aqf]) (un fun axK=>un fun (axL:Bool)=>un fun aqg=>un fun aqh=>un fun (aqi:LV)=>un fun (aqj:LV)=>un fun (TQ:LV)=>un fun (ady:LV)=>un fun (zN:LV) (GU:LV)=>
  some [V.int .i64 bc,V.int .i64 0,V.int .i64 0,V.int .i64 aqg,V.int .i64 aqh,.list ar aqi,.list ag aqj,.list ar zN,.list ag GU,.list ab TQ]))
theorem aqk {bc start pA pB:Int} {pC pD:LV} {r:Option LV} (h:adx CC bc start pA pB pC pD=r):CC Lx [V.int .i64 bc,V.int .i64 start,V.int .i64 pA,V.int .i64 pB,.list ar pC,.list ag pD]=r:=bQ (bC (aqc CC) aw) h
noncomputable def GV (C:af) (t31 gf gg bI bJ:Int) (tU aR aO aA aQ:LV) (t32:Int) (numbers:LV) {β:Type} (kn:(Int×LV)→Option β) (kr:(Int×Bool×LV)→Option β):Option β:=
 bif decide (t32<t31) then
  aP numbers t32 fun x3=>
  kn (wrap .i64 (t32+1),bj numbers t32 (V.int .i64 (-1)))
 else
  kr (t32,decide (t32<t31),numbers)
noncomputable def MJ (C:af) (t31 gf gg bI bJ:Int) (tU aR aO aA aQ:LV):=un fun t32 numbers=>GV C t31 gf gg bI bJ tU aR aO aA aQ t32 numbers (fun y=>some (Sum.inl y)) (fun r=>some (Sum.inr r))
noncomputable def GW (C:af) (t40 gf gg bI bJ:Int) (zO aR aO aA aQ:LV) (t41:Int) (numbers:LV) {β:Type} (kn:(Int×LV)→Option β) (kr:(Int×Bool×LV)→Option β):Option β:=
 bif decide (t41<t40) then
  aP zO t41 fun x7=>
  bif (decide (0≤x7.toInt))&&(decide (x7.toInt<(numbers.length:Int))) then
  (numbers[(x7.toInt:Int).toNat]?).bind fun x8=>
  kn (wrap .i64 (t41+1),bj numbers (x7.toInt) (V.int .i64 t41))
  else none
 else
  kr (t41,decide (t41<t40),numbers)
noncomputable def MK (C:af) (t40 gf gg bI bJ:Int) (zO aR aO aA aQ:LV):=un fun t41 numbers=>GW C t40 gf gg bI bJ zO aR aO aA aQ t41 numbers (fun y=>some (Sum.inl y)) (fun r=>some (Sum.inr r))
noncomputable def adz (C:af):cF:=bN 97 Sq [EQ,H1,EQ,EQ,EQ,EQ,EQ,H1,EQ,EQ,EQ,EQ] [[1,0,0,3,4,5,6,7,0,9,10,11,12]] (@GV C) (bN 177 Sr [EQ,H1,EQ,EQ,EQ,EQ,H1,EQ,EQ,EQ,EQ,EQ] [[1,0,0,3,4,5,6,0,8,9,10,11,12]] (@GW C) bO)
theorem aql (C:af):bB C (adz C) 58 (Lp [1,1,1,1,0,1,0,0] 58):=bP Sq [EQ,H1,EQ,EQ,EQ,EQ,EQ,H1,EQ,EQ,EQ,EQ] [[1,0,0,3,4,5,6,7,0,9,10,11,12]] (@GV C) (bu aw)
theorem aqm (C:af):bB C (adz C) 58 (Lp [1,1,1,1,1,0,1,0,0] 58):=bP Sr [EQ,H1,EQ,EQ,EQ,EQ,H1,EQ,EQ,EQ,EQ,EQ] [[1,0,0,3,4,5,6,0,8,9,10,11,12]] (@GW C) (bu aw)
noncomputable def adA (C:af) (cU cX:Int) (cG c8:LV):Option LV:=
 (C s6 [V.int .i64 cU,V.int .i64 cX,.list ar cG,.list ag c8]).bind fun r1=>
 bif (((V.nth r1 0).toInt):Int) != 0 then
  some [V.int .i64 0,V.int .i64 0,.list ar ([]:LV),.list ag ([]:LV),.list ab ([]:LV)]
 else
  (C Lx [V.int .i64 cU,V.int .i64 cX,V.int .i64 cU,V.int .i64 cX,.list ar cG,.list ag c8]).bind fun r2=>
  bif (decide (0≤(((V.nth (((r2.drop 3).drop 1).drop 1) 0).toList).length:Int)))&&((decide ((((V.nth (((r2.drop 3).drop 1).drop 1) 0).toList).length:Int)≤(((V.nth (((r2.drop 3).drop 1).drop 1) 0).toList).length:Int)))&&(Nat.ble ((((((V.nth (((r2.drop 3).drop 1).drop 1) 0).toList).length:Int):Int).toNat)*8) aW)) then
  (Loop (MJ C ((List.replicate (((((V.nth (((r2.drop 3).drop 1).drop 1) 0).toList).length:Int):Int).toNat) (V.int .i64 0)).length:Int) 0 0 ((V.nth r2 0).toInt) ((V.nth (r2.drop 1) 0).toInt) ((V.nth ((((r2.drop 3).drop 4).drop 1).drop 1) 0).toList) ([]:LV) ([]:LV) ((V.nth ((r2.drop 3).drop 4) 0).toList) ((V.nth (((r2.drop 3).drop 4).drop 1) 0).toList)) (0,List.replicate (((((V.nth (((r2.drop 3).drop 1).drop 1) 0).toList).length:Int):Int).toNat) (V.int .i64 0))).bind (un fun lV=>un fun (kC:Bool) (aqn:LV)=>
   (Loop (MK C (((V.nth ((((r2.drop 3).drop 4).drop 1).drop 1) 0).toList).length:Int) 0 0 ((V.nth r2 0).toInt) ((V.nth (r2.drop 1) 0).toInt) ((V.nth ((((r2.drop 3).drop 4).drop 1).drop 1) 0).toList) ([]:LV) ([]:LV) ((V.nth ((r2.drop 3).drop 4) 0).toList) ((V.nth (((r2.drop 3).drop 4).drop 1) 0).toList)) (0,aqn)).bind (un fun vK=>un fun (TR:Bool) (aqo:LV)=>
    some [V.int .i64 ((V.nth r2 0).toInt),V.int .i64 ((V.nth (r2.drop 1) 0).toInt),.list ar ((V.nth ((r2.drop 3).drop 4) 0).toList),.list ag ((V.nth (((r2.drop 3).drop 4).drop 1) 0).toList),.list ab aqo]))
  else none
theorem aqp {cU cX:Int} {cG c8:LV} {r:Option LV} (h:adA CC cU cX cG c8=r):CC Cp [V.int .i64 cU,V.int .i64 cX,.list ar cG,.list ag c8]=r:=bQ (bC (aql CC) (bC (aqm CC) aw)) h
def nV (q:Nat):V:= .int .i64 (q:Int)
def nS (S:List Nat):List V:=S.map nV
def mS (S:List Nat):List V:=fR nV 0 S
theorem TS (a b:Nat):ju (nV a) (nV b)=decide (a=b):=ap5 a b
theorem dy {S:List Nat}:(nS S).length=S.length:=by simp[nS]
theorem wP {S:List Nat} {i:Nat} (h:i<S.length):(nS S)[i]? =some (nV S[i]):=by simp[nS,h]
theorem aqq {x:Nat} (hx:x≤1000000):CC F7 [nV x,.list ab []]=some [nV 0,.list ab (nS [x]),.list kP (mS [x])]:=by
 refine ap9 ?_;unfold adp;rw[TP (by omega)];exact bT rfl (bT rfl (bT (cap (by simp) (by omega)) rfl))
theorem aqr {S:List Nat} {x:Nat} (hx:x≤1000000) (hl:S.length≤1000000):CC Rr [nV x,.list ab (nS S),.list kP (mS S)]=some [nV ((cZ S x).idxOf x),.list kP (mS (cZ S x)),.list ab (nS (cZ S x))]:=by
 refine aqa ?_;unfold adq;have e1:=TM TS x S 0;rw[TP (by omega)];refine bT rfl ?_;rw[ap6];by_cases h:x∈S
 ·refine bF (by rw[show gM (.int .i64 (x:Int)) (mS S)=true from e1.trans (cp h)];rfl) ?_;have e2:=TN TS x (.int .i64 0) S 0 h;rw[show ki (.int .i64 (x:Int)) (mS S) (.int .i64 0)=_ from e2,aE h,dt,show cZ S x=S by unfold cZ;rw[aE h]];rfl
 ·refine bT (by rw[show gM (.int .i64 (x:Int)) (mS S)=false from e1.trans (da h)];rfl) ?_;refine bT rfl ?_;refine bT (cap (by rw[dy];simp;omega) (by omega)) ?_;have e2:=TO TS x S 0 h;rw[dt] at e2;rw[dy,show jv (.int .i64 (x:Int)) (.int .i64 (S.length:Int)) (mS S)=_ from e2,aF h,show cZ S x=S++[x] by unfold cZ;rw[aF h]];simp[nS,nV,mS]
theorem aqs {a:Da} {q x:Nat} (hq:q<a.n) (hx:x<a.L):CC vu (nV q::nV x::dK a)=some (nV (a.nx q x)::dK a):=by
 refine ap7 ?_;unfold adn;refine bs (Da.JL hq) ?_;rw[EF];exact bs (MD hx) rfl
theorem aqt {a:Da} {q:Nat} (hq:q<a.n):CC vw (nV q::dK a)=some (.bool (a.fin q)::dK a):=by
 refine ap8 ?_;unfold ado;exact bs (Da.JK hq) rfl
section
variable {a:Da} (h:a.Ok)
include h
theorem aqu {S U:List Nat} {q:Nat} (hq:q<a.n) (hS: ∀s∈S,s<a.n) (hSn:S.length≤1000) (hp:cA a.nx S q a.L <+: U) {i c1 c2:Int} {l1 l2 l3 l4:List V}:
  Loop (MH CC (a.L:Int) i (q:Int) ((List.replicate (((a.L:Nat):Int).toNat) (V.int .i64 0)).length:Int) c1 c2 (a.L:Int) 0 l1 l2 l3 l4) (0,(a.L:Int),(a.st:Int),a.dU,a.eh,List.replicate (((a.L:Nat):Int).toNat) (V.int .i64 0),nS S,mS S)=
   some ((a.L:Int),false,(a.L:Int),(a.st:Int),a.dU,a.eh,(tab a.L fun x=>nV (U.idxOf (a.nx q x))),nS (cA a.nx S q a.L),mS (cA a.nx S q a.L)):=by
 have h6:=h.l6;rw[Int.toNat_natCast,qo,fG];refine (gx a.L (fun x=>((x:Int),(a.L:Int),(a.st:Int),a.dU,a.eh,(tab a.L fun j=>if j<x then nV (U.idxOf (a.nx q j)) else nV 0),nS (cA a.nx S q x),mS (cA a.nx S q x))) _ (fun x hx=> ?_) ?_)
 ·simp only[MH,GR,un,aP,bj];refine bT (bh hx) ?_;refine bs (aqs hq hx) ?_;have hT:(cA a.nx S q x).length≤1000000:=by
   have: ∀x,(cA a.nx S q x).length≤S.length+x:=by
    intro x
    induction x with
    | zero=>exact av _
    | succ x ih=>rw[cA,CY];split<;>omega
   have:=this x;omega
  refine bs (aqr (S:=cA a.nx S q x) (by have:=h.mg hq hx;have:=h.dP;omega) hT) ?_;refine (nr hx).trans ?_;rw[br (by omega),Int.toNat_natCast,mH];have e:(cZ (cA a.nx S q x) (a.nx q x)).idxOf (a.nx q x)=U.idxOf (a.nx q x):=(C4 ((CZ S q (show x+1≤a.L by omega)).trans hp) CX).symm;show some (Sum.inl _)=some (Sum.inl _);refine congrArg (fun x=>some (Sum.inl x)) ?_;refine cK rfl (cK rfl (cK rfl (cK rfl (cK rfl (cK ?_ (cK rfl rfl))))));refine dB fun j _=> ?_;by_cases hj:j=x
  ·rw[aE hj,dv,hj,←e];rfl
  ·rw[aF hj];by_cases dN:j<x
   ·rw[aE dN,dv]
   ·rw[aF dN,dA]
 ·simp only[MH,GR,un,aP,bj];refine bF (aV (av _)) ?_;rw[aV (av _)];have:(tab a.L fun j=>if j<a.L then nV (U.idxOf (a.nx q j)) else nV 0)=tab a.L fun j=>nV (U.idxOf (a.nx q j)):=dB fun j hj=>aE hj;rw[this]
theorem aqv:CC Lx ([nV a.L,nV a.st]++dK a)=some ([nV a.L,nV 0,.int .i64 0]++(dK a++[.list ar a.trim.dU,.list ag a.trim.eh,.list ab (nS (aG a.L a.nx a.st a.n))])):=by
 have h6:=h.l6;have hm:=h.dP;have hd:=h.vH a.n;refine aqk ?_;unfold adx;refine bs (aqq (by have:=h.s;omega)) ?_;have key:Loop (MI CC (a.L:Int) 0 0 (a.L:Int) 0 ([]:List V) ([]:List V)) (0,(a.L:Int),(a.st:Int),a.dU,a.eh,nS [a.st],mS [a.st],([]:List V),([]:List V))=
   some (.inr (((aG a.L a.nx a.st a.n).length:Int),false,(a.L:Int),(a.st:Int),a.dU,a.eh,nS (aG a.L a.nx a.st a.n),mS (aG a.L a.nx a.st a.n),a.trim.dU,a.trim.eh)):=by
  refine (gx (aG a.L a.nx a.st a.n).length (fun i=>((i:Int),(a.L:Int),(a.st:Int),a.dU,a.eh,nS (aG a.L a.nx a.st i),mS (aG a.L a.nx a.st i),(tab i fun j=>V.bool (a.trim.fin j)),(tab i fun j=>o6 a.L (a.trim.nx j)))) _ (fun i hi=> ?_) ?_)
  ·have BU:=TI hd hi;have hUi:(aG a.L a.nx a.st i)[i]=(aG a.L a.nx a.st a.n)[i]:=(vG (show i≤a.n by omega)).getElem BU;have hq:(aG a.L a.nx a.st a.n)[i]<a.n:=h.GK _ _ (dm hi);have hlen:(aG a.L a.nx a.st i).length≤512:=oc (h.vH i) hm;have axM:(aG a.L a.nx a.st (i+1)).length≤512:=oc (h.vH (i+1)) hm;have uG:=GJ hd hi;simp only[MI,GS,un,aP];refine bT (cp (by rw[dy];omega)) ?_;refine (bX (wP BU)).trans ?_;refine bT (fO (by omega) (by omega)) ?_;rw[hUi];refine bs (aqu h hq (h.GK i) (by omega) (U:=aG a.L a.nx a.st a.n) (by rw[←uG];exact vG (by omega))) ?_;rw[←uG];refine bF (da (by rw[dy];omega)) ?_;refine bT (cap (by rw[fG];simp;omega) (by omega)) ?_;refine bs (aqt hq) ?_;refine bT (cap (by rw[fG];simp;omega) (by omega)) ?_;rw[br (by omega),Bw,Bw];have e1:a.trim.fin i=a.fin (aG a.L a.nx a.st a.n)[i]:=ada hi;have e2:o6 a.L (a.trim.nx i)= .list ab (tab a.L fun x=>nV ((aG a.L a.nx a.st a.n).idxOf (a.nx (aG a.L a.nx a.st a.n)[i] x))):=by
    unfold o6;refine congrArg _ (dB fun x hx=> ?_);rw[show a.trim.nx i x=_ from MA hi hx];rfl
   rw[e1,e2];rfl
  ·simp only[MI,GS,un,aP];rw[ade hd,dy];refine bF (aV (av _)) ?_;rw[aV (av _)];have e3:a.trim.n=(aG a.L a.nx a.st a.n).length:=tS;unfold Da.dU Da.eh;rw[e3];rfl
 refine bs key ?_;rfl
end
def oD (U:List Nat) (n:Nat):List V:=tab n fun q=>if q∈U then nV (U.idxOf q) else .int .i64 (-1)
theorem aqw {U:List Nat} {n i:Nat} (hU:U.Nodup) (hi:i<U.length):(tab n fun q=>if q∈U.take i then nV (U.idxOf q) else V.int .i64 (-1)).set U[i] (.int .i64 (i:Int))=tab n fun q=>if q∈U.take (i+1) then nV (U.idxOf q) else V.int .i64 (-1):=by
 rw[mH];refine dB fun q _=> ?_;have e:q∈U.take (i+1)↔q∈U.take i∨q=U[i]:=by rw[N6 hi,eF,fu]
 by_cases hq:q=U[i]
 ·rw[aE hq,aE (e.2 (.inr hq)),hq,hU.idxOf_getElem i hi];rfl
 ·rw[aF hq];by_cases h2:q∈U.take i
  ·rw[aE h2,aE (e.2 (.inl h2))]
  ·rw[aF h2,aF fun h3=>(e.1 h3).elim h2 hq]
theorem adB {a:Da} (h:a.Ok):CC Cp (dK a)=some (dK a.trim++[.list ab (oD (aG a.L a.nx a.st a.n) a.n)]):=by
 have hm:=h.dP;have hU:=h.GK a.n;have hle:=h.vH a.n;refine aqp ?_;unfold adA;refine bs (mC h) ?_;refine bF rfl ?_;refine bs (aqv h) ?_;have e0:((V.nth (((([nV a.L,nV 0,V.int .i64 0]++(dK a++[V.list ar a.trim.dU,V.list ag a.trim.eh,V.list ab (nS (aG a.L a.nx a.st a.n))])).drop 3).drop 1).drop 1) 0).toList)=a.dU:=rfl;rw[e0,Da.EE];refine bT (fO (by omega) (by omega)) ?_;rw[Int.toNat_natCast,qo,fG];generalize hUd:aG a.L a.nx a.st a.n=U at*
 have l1: ∀{c1 c2 c3 c4:Int} {s1 s2 s3 s4 s5:List V},Loop (MJ CC (a.n:Int) c1 c2 c3 c4 s1 s2 s3 s4 s5) (0,tab a.n fun _=>V.int .i64 0)=some ((a.n:Int),false,tab a.n fun q=>if q∈U.take 0 then nV (U.idxOf q) else V.int .i64 (-1)):=by
  intro c1 c2 c3 c4 s1 s2 s3 s4 s5;refine (gx a.n (fun i=>((i:Int),(tab a.n fun j=>if j<i then V.int .i64 (-1) else V.int .i64 0))) _ (fun i hi=> ?_) ?_)
  ·simp only[MJ,GV,un,aP,bj];refine bT (bh hi) ?_;refine (nr hi).trans ?_;rw[br (by omega),Int.toNat_natCast,mH];refine congrArg (fun x=>some (Sum.inl (((i+1:Nat):Int),x))) (dB fun j _=> ?_);by_cases hj:j=i
   ·rw[aE hj,dv]
   ·rw[aF hj];by_cases dN:j<i
    ·rw[aE dN,dv]
    ·rw[aF dN,dA]
  ·simp only[MJ,GV,un,aP,bj];refine bF (aV (av _)) ?_;rw[aV (av _)];refine congrArg (fun x=>some (Sum.inr ((a.n:Int),false,x))) (dB fun j hj=> ?_);rw[aE hj,List.take_zero,aF (by simp)]
 refine bs l1 ?_;simp only[un];have hUn:U.Nodup:=by rw[←hUd];exact C3 _
 have l2: ∀{c1 c2 c3 c4:Int} {s2 s3 s4 s5:List V},Loop (MK CC ((nS U).length:Int) c1 c2 c3 c4 (nS U) s2 s3 s4 s5) (0,tab a.n fun q=>if q∈U.take 0 then nV (U.idxOf q) else V.int .i64 (-1))=some ((U.length:Int),false,oD U a.n):=by
  intro c1 c2 c3 c4 s2 s3 s4 s5;rw[dy];refine (gx U.length (fun i=>((i:Int),(tab a.n fun q=>if q∈U.take i then nV (U.idxOf q) else V.int .i64 (-1)))) _ (fun i hi=> ?_) ?_)
  ·have hq:=hU U[i] (dm hi);simp only[MK,GW,un,aP,bj];refine bT (bh hi) ?_;refine (bX (wP hi)).trans ?_;refine (nr (i:=U[i]) hq).trans ?_;rw[br (by omega)];refine congrArg (fun x=>some (Sum.inl (((i+1:Nat):Int),x))) ?_;exact aqw hUn hi
  ·simp only[MK,GW,un,aP,bj];refine bF (aV (av _)) ?_;rw[aV (av _),vW];rfl
 refine bs l2 ?_;rfl
noncomputable def GX (C:af) (f t13:LV) (t14 t15:Int) {β:Type} (kn:Int→Option β) (kr:((Bool) ⊕ (Int×Bool))→Option β):Option β:=
 bif decide (t15<t14) then
  (idx t13 t15).bind fun x1=>
  bif decide ((x1.toInt:Int)<0) then
  kr (.inl false)
  else
  bif decide ((x1.toInt:Int)≥(f.length:Int)) then
   kr (.inl false)
  else
   kn (wrap .i64 (t15+1))
 else
  kr (.inr (t15,decide (t15<t14)))
noncomputable def TT (C:af) (f t13:LV) (t14:Int):=fun t15=>GX C f t13 t14 t15 (fun y=>some (Sum.inl y)) (fun r=>some (Sum.inr r))
noncomputable def aqx (C:af):cF:=bN 65 S8 [EQ,EQ,EQ,H1] [[0],[1,2,3,0,0]] (@GX C) bO
theorem aqy (C:af):bB C (aqx C) 129 (Lp [1,1,0,1,0,0] 129):=bP S8 [EQ,EQ,EQ,H1] [[0],[1,2,3,0,0]] (@GX C) (bu aw)
noncomputable def adC (C:af) (f:LV):Option LV:=
 bif decide ((f.length:Int)<1) then
  some [.bool false]
 else
  bif decide ((f.length:Int)>32) then
  some [.bool false]
  else
  (Loop (TT C f f (f.length:Int)) 0).bind (gj (fun (zP:Bool)=>
   some [.bool zP]) (un fun (jJ:Int) (lV:Bool)=>
   some [.bool true]))
theorem aqz {f:LV} {r:Option LV} (h:adC CC f=r):CC CB [.list ab f]=r:=bQ (bC (aqy CC) aw) h
noncomputable def GY (C:af) (t14 t15:Int) (fs:LV) {β:Type} (kn:(Int×LV)→Option β) (kr:(Int×Bool×LV)→Option β):Option β:=
 bif decide (t15<t14) then
  aP fs t15 fun x1=>
  kn (wrap .i64 (t15+1),bj fs t15 (V.int .i64 t15))
 else
  kr (t15,decide (t15<t14),fs)
noncomputable def TU (C:af) (t14:Int):=un fun t15 fs=>GY C t14 t15 fs (fun y=>some (Sum.inl y)) (fun r=>some (Sum.inr r))
noncomputable def aqA (C:af):cF:=bN 81 S9 [EQ,H1,H1] [[1,0,0,0]] (@GY C) bO
theorem aqB (C:af):bB C (aqA C) 131 (Lp [1,1,1,0,1,0,0] 131):=bP S9 [EQ,H1,H1] [[1,0,0,0]] (@GY C) (bu aw)
noncomputable def adD (C:af) (n:Int):Option LV:=
 bif decide (n<1) then
  some [.list ab ([]:LV)]
 else
  bif decide (n>32) then
  some [.list ab ([]:LV)]
  else
  bif (decide (0≤n))&&((decide (n≤n))&&(Nat.ble ((n.toNat)*8) aW)) then
   (Loop (TU C ((List.replicate (n.toNat) (V.int .i64 0)).length:Int)) (0,List.replicate (n.toNat) (V.int .i64 0))).bind (un fun zP=>un fun (jJ:Bool) (aqC:LV)=>
    some [.list ab aqC])
  else none
theorem aqD {n:Int} {r:Option LV} (h:adD CC n=r):CC LJ [V.int .i64 n]=r:=bQ (bC (aqB CC) aw) h
noncomputable def GZ (C:af) (g t26:LV) (t27 t28:Int) (G0:LV) {β:Type} (kn:(Int×LV)→Option β) (kr:(Int×Bool×LV)→Option β):Option β:=
 bif decide (t28<t27) then
  (idx t26 t28).bind fun x3=>
  (idx g x3.toInt).bind fun x4=>
  aP G0 t28 fun x5=>
  kn (wrap .i64 (t28+1),bj G0 t28 (V.int .i64 x4.toInt))
 else
  kr (t28,decide (t28<t27),G0)
noncomputable def TV (C:af) (g t26:LV) (t27:Int):=un fun t28 G0=>GZ C g t26 t27 t28 G0 (fun y=>some (Sum.inl y)) (fun r=>some (Sum.inr r))
noncomputable def aqE (C:af):cF:=bN 81 Td [EQ,EQ,EQ,H1,H1] [[1,2,3,0,0,0]] (@GZ C) bO
theorem aqF (C:af):bB C (aqE C) 133 (Lp [1,1,1,0,1,0,0] 133):=bP Td [EQ,EQ,EQ,H1,H1] [[1,2,3,0,0,0]] (@GZ C) (bu aw)
noncomputable def adE (C:af) (f g:LV):Option LV:=
 bif (f.length:Int) != (g.length:Int) then
  some [.list ab ([]:LV)]
 else
  (C CB [.list ab f]).bind fun r1=>
  bif !((V.nth r1 0).toBool) then
  some [.list ab ([]:LV)]
  else
  (C CB [.list ab g]).bind fun r2=>
  bif !((V.nth r2 0).toBool) then
   some [.list ab ([]:LV)]
  else
   bif (decide (0≤(f.length:Int)))&&((decide ((f.length:Int)≤(f.length:Int)))&&(Nat.ble (((f.length:Int).toNat)*8) aW)) then
   (Loop (TV C g f (f.length:Int)) (0,List.replicate ((f.length:Int).toNat) (V.int .i64 0))).bind (un fun j7=>un fun (oo:Bool) (aqG:LV)=>
    some [.list ab aqG])
   else none
theorem aqH {f g:LV} {r:Option LV} (h:adE CC f g=r):CC F8 [.list ab f,.list ab g]=r:=bQ (bC (aqF CC) aw) h
noncomputable def G1 (C:af) (t9:LV) (t10 t11:Int) (G2:LV) {β:Type} (kn:(Int×LV)→Option β) (kr:(Int×Bool×LV)→Option β):Option β:=
 bif decide (t11<t10) then
  (idx t9 t11).bind fun x1=>
  aP G2 t11 fun x2=>
  kn (wrap .i64 (t11+1),bj G2 t11 (.int .u8 (wrap .u8 x1.toInt)))
 else
  kr (t11,decide (t11<t10),G2)
noncomputable def TW (C:af) (t9:LV) (t10:Int):=un fun t11 G2=>G1 C t9 t10 t11 G2 (fun y=>some (Sum.inl y)) (fun r=>some (Sum.inr r))
noncomputable def aqI (C:af):cF:=bN 49 Ta [EQ,EQ,H1,H1] [[1,2,0,0,0]] (@G1 C) bO
theorem aqJ (C:af):bB C (aqI C) 132 (Lp [1,1,0,1,0,0] 132):=bP Ta [EQ,EQ,H1,H1] [[1,2,0,0,0]] (@G1 C) (bu aw)
noncomputable def adF (C:af) (f:LV):Option LV:=
 bif (decide (0≤(f.length:Int)))&&((decide ((f.length:Int)≤(f.length:Int)))&&(Nat.ble (((f.length:Int).toNat)*1) aW)) then
  (Loop (TW C f (f.length:Int)) (0,List.replicate ((f.length:Int).toNat) (V.int .u8 0))).bind (un fun jJ=>un fun (lV:Bool) (aqK:LV)=>
   some [.str (lb aqK)])
 else none
theorem aqL {f:LV} {r:Option LV} (h:adF CC f=r):CC xk [.list ab f]=r:=bQ (bC (aqJ CC) aw) h
section
variable {X R γ:Type} {step:X→Option (X ⊕ R)}
theorem tW (s:Nat→LV→X) (n:Nat) (g:Nat→V) (a0:LV) (h0:a0.length=n) (r:LV→R)
  (h: ∀i,i<n→∀a:LV,a.length=n→step (s i a)=some (.inl (s (i+1) (a.set i (g i))))) (he:step (s n (tab n g))=some (.inr (r (tab n g)))):Loop step (s 0 a0)=some (r (tab n g)):=by
 have key: ∀i,i≤n→step (s i (tab n fun j=>if j<i then g j else a0.getD j (.bool false)))=if i<n then some (.inl (s (i+1) (tab n fun j=>if j<i+1 then g j else a0.getD j (.bool false)))) else some (.inr (r (tab n g))):=by
  intro i hi;by_cases c:i<n
  ·rw[aE c,h i c _ (by simp),mH];refine congrArg (fun t=>some (Sum.inl (s (i+1) t))) (dB fun j _=> ?_);by_cases c2:j=i
   ·rw[aE c2,dv,c2]
   ·rw[aF c2];by_cases c3:j<i
    ·rw[aE c3,dv]
    ·rw[aF c3,dA]
  ·rw[aF c];obtain rfl:i=n:=by omega
   rw[show (tab i fun j=>if j<i then g j else a0.getD j (.bool false))=tab i g from dB fun j hj=>aE hj];exact he
 have e0:a0=tab n fun j=>if j<0 then g j else a0.getD j (.bool false):=by
  conv=>lhs;rw[adl a0 (.bool false),h0]
  exact dB fun j _=>by rw[dA]
 rw[e0];refine gx n (fun i=>s i (tab n fun j=>if j<i then g j else a0.getD j (.bool false))) _ (fun i hi=> ?_) ?_
 ·rw[key i (by omega),aE hi]
 ·rw[key n (av _),aF (nE _)]
theorem ri {es:LV} {i:Nat} (hi:i<es.length) {K:Option γ}:(bif (decide (0≤(i:Int)))&&(decide ((i:Int)<(es.length:Int))) then (es[((i:Int)).toNat]?).bind (fun _=>K) else none)=K:=
 (bX (bU hi)).trans rfl
end
theorem iw {S:List Nat} {i:Nat} (h:i<S.length):idx (nS S) (i:Int)=some (nV S[i]):=by rw[ym rfl,wP h]
theorem TX (S:List Nat):nS S=tab S.length fun i=>nV (S.getD i 0):=zL S 0
theorem Db {i n:Nat} (h:i<n):decide ((i:Int)≥(n:Int))=false:=da (by omega)
theorem xx {i:Nat}:decide ((i:Int)<0)=false:=da (by omega)
def Tr (n:Nat) (f:List Nat):Prop:=f.length=n∧∀y∈f,y<n
def comp (f g:List Nat):List Nat:=f.map fun i=>g.getD i 0
theorem Tr.at {n:Nat} {f:List Nat} (h:Tr n f) {i:Nat} (hi:i<f.length):f[i]<n:=h.2 _ (dm hi)
theorem Tr.comp {n:Nat} {f g:List Nat} (hf:Tr n f) (hg:Tr n g):Tr n (comp f g):=by
 refine ⟨by simp[Go.AM.comp,hf.1],fun y hy=> ?_⟩;obtain ⟨i,hi,rfl⟩:=iQ.1 hy;have:=hf.2 i hi;rw[cN (by rw[hg.1];exact this)];exact hg.at _
theorem G3 {n:Nat}:Tr n (List.range n):=⟨by simp,fun y hy=>iD.1 hy⟩
section
variable {n:Nat} {f g:List Nat} (h1:1≤n) (fA:n≤32)
include h1 fA
theorem TY (hf:Tr n f):CC CB [.list ab (nS f)]=some [.bool true]:=by
 have hl:=hf.1;refine aqz ?_;unfold adC;rw[dy,hl];refine bF (da (by omega)) (bF (da (by omega)) ?_);refine bs (gx n (fun i=>(i:Int)) (.inr ((n:Int),false)) (fun i hi=> ?_) ?_) rfl
 ·simp only[TT,GX];have bp:i<f.length:=by omega
  refine bT (bh hi) (bs (iw bp) (bF xx (bF ?_ ?_)))
  ·rw[dy,hl];exact Db (hf.at bp)
  ·rw[br (by omega)]
 ·simp only[TT,GX];rw[aV (av _)];rfl
theorem aqM:CC LJ [.int .i64 (n:Int)]=some [.list ab (nS (List.range n))]:=by
 refine aqD ?_;unfold adD;refine bF (da (by omega)) (bF (da (by omega)) (bT (fO (by omega) (by omega)) ?_));rw[Int.toNat_natCast,v5];refine bs (tW (fun i a=>((i:Int),a)) n nV _ (by simp) (fun a=>((n:Int),false,a)) (fun i hi a ha=> ?_) ?_) ?_
 ·simp only[TU,GY,un,aP,bj];refine bT (bh hi) ((ri (by omega)).trans ?_);rw[br (by omega),Int.toNat_natCast];rfl
 ·simp only[TU,GY,un];rw[aV (av _)];rfl
 ·rw[TX];refine congrArg (fun t=>some [V.list ab t]) ?_;rw[jN];exact dB fun j hj=>by rw[cN (by simpa using hj)];simp
theorem aqN (hf:Tr n f) (hg:Tr n g):CC F8 [.list ab (nS f),.list ab (nS g)]=some [.list ab (nS (comp f g))]:=by
 have hl:=hf.1;have hlg:=hg.1;refine aqH ?_;unfold adE;rw[dy,dy,hl,hlg];refine bF (by simp) (bs (TY h1 fA hf) (bF rfl (bs (TY h1 fA hg) (bF rfl (bT (fO (by omega) (by omega)) ?_)))));rw[Int.toNat_natCast];refine bs (tW (fun i a=>((i:Int),a)) n (fun i=>nV (g.getD (f.getD i 0) 0)) _ (by simp) (fun a=>((n:Int),false,a)) (fun i hi a ha=> ?_) ?_) ?_
 ·simp only[TV,GZ,un,aP,bj];have bp:i<f.length:=by omega
  have h2:=hf.at bp;refine bT (bh hi) (bs (iw bp) (bs (iw (i:=f[i]) (by omega)) ((ri (by omega)).trans ?_)));rw[br (by omega),Int.toNat_natCast,cN bp,cN (by omega)];rfl
 ·simp only[TV,GZ,un];rw[aV (av _)];rfl
 ·rw[TX];refine congrArg (fun t=>some [V.list ab t]) ?_;rw[show (comp f g).length=n by simp[comp,hl]];refine dB fun j hj=> ?_;have dZ:j<f.length:=by omega
  rw[cN (l:=comp f g) (by simpa[comp] using dZ),cN dZ];simp[comp]
end
def nt (f:List Nat):List UInt8:=f.map fun y=>UInt8.ofNat y
theorem aqO {n:Nat} (hn:n≤256) {f g:List Nat} (hf:Tr n f) (hg:Tr n g) (e:nt f=nt g):f=g:=by
 refine ui (hf.1.trans hg.1.symm) fun i h1 h2=> ?_;have:=List.getElem_of_eq e (i:=i) (by simpa[nt] using h1);simp only[nt,DK] at this;have a:=hf.at h1;have b:=hg.at h2;have:=congrArg UInt8.toNat this;simp only[UInt8.toNat_ofNat'] at this;omega
theorem TZ {n:Nat} {f:List Nat} (hn:n≤32) (hf:Tr n f):CC xk [.list ab (nS f)]=some [.str (nt f)]:=by
 have hl:=hf.1;refine aqL ?_;unfold adF;rw[dy,hl];refine bT (fO (by omega) (by omega)) ?_;rw[Int.toNat_natCast];refine bs (tW (fun i a=>((i:Int),a)) n (fun i=> .int .u8 ((f.getD i 0:Nat):Int)) _ (by simp) (fun a=>((n:Int),false,a)) (fun i hi a ha=> ?_) ?_) ?_
 ·simp only[TW,G1,un,aP,bj];have bp:i<f.length:=by omega
  have h2:=hf.at bp;refine bT (bh hi) (bs (iw bp) ((ri (by omega)).trans ?_));rw[br (by omega),Int.toNat_natCast,cN bp,show (nV f[i]).toInt=(f[i]:Int) from rfl,akY (by omega) (by omega)]
 ·simp only[TW,G1,un];rw[aV (av _)];rfl
 ·refine congrArg (fun t=>some [V.str t]) ?_;rw[←hl];have:(tab f.length fun i=>V.int .u8 ((f.getD i 0:Nat):Int))=f.map fun y=> .int .u8 (y:Int):=(zL (f:=fun y:Nat=>V.int .u8 (y:Int)) f 0).symm;rw[this];simp[lb,nt]
end Go.AM
set_option maxRecDepth 100000
namespace Go.AM
open Go.IntKind (wrap)
section
variable {α:Type} [DecidableEq α] {L:Nat} {next:α→Nat→α} {a0:α}
theorem adG (S:List α) (a:α): ∀x,(cA next S a x).length≤S.length+x
 | 0=>av _
 | x+1=>by
  have:=adG S a x;rw[cA,CY];split<;>omega
end
end Go.AM
set_option maxRecDepth 100000
namespace Go.AM
open Go.IntKind (wrap)
open Go.Proofs
noncomputable def adH (C:af) (f:LV) (G4 last:Int) (word:List UInt8) (behind bW:Int) (cd:Bool) (c6:Int) (bm aM aN aR aO aA aQ bw b7 cg:LV):Option LV:=
 (C xk [.list ab f]).bind fun r1=>
 bif Nat.ble (((V.nth r1 0).toStr).length) maxLen&&true then
  bif Nat.ble ((aM.length+([.list ab f]:LV).length)*24) aW then
  bif Nat.ble ((aN.length+([V.int .i64 G4]:LV).length)*8) aW then
   bif Nat.ble ((aR.length+([V.int .i64 last]:LV).length)*8) aW then
   bif Nat.ble ((bw.length+([.str word]:LV).length)*16) aW then
    bif Nat.ble ((b7.length+([V.int .i64 behind]:LV).length)*8) aW then
    some [V.int .i64 (aM.length:Int),V.int .i64 bW,.bool cd,V.int .i64 c6,.list ag bm,.list cD (jv (.str ((V.nth r1 0).toStr)) (V.int .i64 (aM.length:Int)) aQ),.list ag (aM++([.list ab f]:LV)),.list ab (aN++([V.int .i64 G4]:LV)),.list ab (aR++([V.int .i64 last]:LV)),.list ag aO,.list dY aA,.list bZ (bw++([.str word]:LV)),.list ab (b7++([V.int .i64 behind]:LV)),.list ab cg]
    else none
   else none
   else none
  else none
  else none
 else none
theorem aqP {f:LV} {G4 last:Int} {word:List UInt8} {behind bW:Int} {cd:Bool} {c6:Int} {bm aM aN aR aO aA aQ bw b7 cg:LV} {r:Option LV} (h:adH CC f G4 last word behind bW cd c6 bm aM aN aR aO aA aQ bw b7 cg=r):CC CD [.list ab f,V.int .i64 G4,V.int .i64 last,.str word,V.int .i64 behind,V.int .i64 bW,.bool cd,V.int .i64 c6,.list ag bm,.list ag aM,.list ab aN,.list ab aR,.list ag aO,.list dY aA,.list cD aQ,.list bZ bw,.list ab b7,.list ab cg]=r:=bQ (L:=bO) aw h
noncomputable def adI (C:af) (i x bW:Int) (cd:Bool) (c6:Int) (bm aM aN aR aO aA aQ bw b7 cg:LV):Option LV:=
 bif i==(-1) then
  aP cg x fun x1=>
  some [V.int .i64 x1.toInt,V.int .i64 bW,.bool cd,V.int .i64 c6,.list ag bm,.list cD aQ,.list ag aM,.list ab aN,.list ab aR,.list ag aO,.list dY aA,.list bZ bw,.list ab b7,.list ab cg]
 else
  aP aO i fun x2=>
  (idx x2.toList x).bind fun x3=>
  some [V.int .i64 x3.toInt,V.int .i64 bW,.bool cd,V.int .i64 c6,.list ag bm,.list cD aQ,.list ag aM,.list ab aN,.list ab aR,.list ag aO,.list dY aA,.list bZ bw,.list ab b7,.list ab cg]
theorem aqQ {i x bW:Int} {cd:Bool} {c6:Int} {bm aM aN aR aO aA aQ bw b7 cg:LV} {r:Option LV} (h:adI CC i x bW cd c6 bm aM aN aR aO aA aQ bw b7 cg=r):CC F9 [V.int .i64 i,V.int .i64 x,V.int .i64 bW,.bool cd,V.int .i64 c6,.list ag bm,.list ag aM,.list ab aN,.list ab aR,.list ag aO,.list dY aA,.list cD aQ,.list bZ bw,.list ab b7,.list ab cg]=r:=bQ (L:=bO) aw h
end Go.AM
