/-
  Functions of the program, lifted to plain data.
-/
import Derived.Test.YtpigoedhkpjgeaaGreatDoorProg
import Derived.Tactics
import Derived.Tactics2
import Derived.StillTactics
import Derived.Laws.Pointers
import Derived.Lib.LazyBuf
import Derived.RegionTactic
import Derived.LoopTactic
import Derived.WalkKit
import Derived.Laws.Externs
import Derived.Lib.Builder
import Derived.Recover
import Derived.Test.YtpigoedhkpjgeaaGreatDoorRows
import Derived.Lib.LaidTab
import Derived.LaidHandle
import Derived.MakeChecks
import Derived.Lay
import Derived.Test.YtpigoedhkpjgeaaGreatDoorP4
set_option linter.unusedVariables false
set_option linter.unusedSimpArgs false
set_option linter.unusedSectionVars false
set_option maxRecDepth 100000
namespace Go.AM
open Go.IntKind (wrap)
open Go.Proofs
abbrev An:List UInt8:=[0,1,2,2,3,3,3,3,4,4,4,4,4,4,4,4,5,5,5,5,5,5,5,5,5,5,5,5,5,5,5,5,6,6,6,6,6,6,6,6,6,6,6,6,6,6,6,6,6,6,6,6,6,6,6,6,6,6,6,6,6,6,6,6,7,7,7,7,7,7,7,7,7,7,7,7,7,7,7,7,7,7,7,7,7,7,7,7,7,7,7,7,7,7,7,7,7,7,7,7,7,7,7,7,7,7,7,7,7,7,7,7,7,7,7,7,7,7,7,7,7,7,7,7,7,7,7,7,8,8,8,8,8,8,8,8,8,8,8,8,8,8,8,8,8,8,8,8,8,8,8,8,8,8,8,8,8,8,8,8,8,8,8,8,8,8,8,8,8,8,8,8,8,8,8,8,8,8,8,8,8,8,8,8,8,8,8,8,8,8,8,8,8,8,8,8,8,8,8,8,8,8,8,8,8,8,8,8,8,8,8,8,8,8,8,8,8,8,8,8,8,8,8,8,8,8,8,8,8,8,8,8,8,8,8,8,8,8,8,8,8,8,8,8,8,8,8,8,8,8,8,8,8,8,8,8]
abbrev DU:FuncId:=3
abbrev DV:FuncId:=4
abbrev uw:FuncId:=5
abbrev DW:FuncId:=6
abbrev J0:FuncId:=7
abbrev ow:FuncId:=8
abbrev DX:FuncId:=9
abbrev J1:FuncId:=10
abbrev J2:FuncId:=11
abbrev J3:FuncId:=12
abbrev J4:FuncId:=13
abbrev J5:FuncId:=14
abbrev J6:FuncId:=15
abbrev J7:FuncId:=16
abbrev Ao:FuncId:=17
abbrev ux:FuncId:=18
abbrev Qc:FuncId:=19
abbrev DY:FuncId:=20
abbrev J8:FuncId:=21
abbrev Ap:FuncId:=22
abbrev J9:FuncId:=23
abbrev sF:FuncId:=24
abbrev Ka:FuncId:=25
abbrev DZ:FuncId:=26
abbrev D0:FuncId:=27
abbrev D1:FuncId:=28
abbrev Kb:FuncId:=29
abbrev Kd:FuncId:=30
abbrev D2:FuncId:=31
abbrev D3:FuncId:=32
abbrev uy:FuncId:=33
abbrev D4:FuncId:=34
abbrev Aq:FuncId:=35
abbrev rj:FuncId:=36
abbrev Ke:FuncId:=37
abbrev Qd:FuncId:=38
abbrev Qe:FuncId:=39
abbrev Qf:FuncId:=40
abbrev Qg:FuncId:=41
abbrev Ar:FuncId:=42
abbrev Qh:FuncId:=43
abbrev Kf:FuncId:=44
abbrev aiC:FuncId:=45
abbrev aiD:FuncId:=46
abbrev Zq:FuncId:=47
abbrev aiE:FuncId:=48
abbrev aiF:FuncId:=49
abbrev Kg:FuncId:=50
abbrev Kh:FuncId:=52
abbrev Ki:FuncId:=53
abbrev Kj:FuncId:=54
abbrev Kk:FuncId:=55
abbrev D5:FuncId:=56
abbrev Kl:FuncId:=57
abbrev D6:FuncId:=58
abbrev Km:FuncId:=59
abbrev As:FuncId:=60
abbrev jc:FuncId:=61
abbrev D7:FuncId:=62
abbrev Kn:FuncId:=63
abbrev Ko:FuncId:=64
abbrev Kp:FuncId:=65
abbrev Qi:FuncId:=66
abbrev aiG:FuncId:=67
abbrev aiH:FuncId:=68
abbrev Kq:FuncId:=69
abbrev aiI:FuncId:=70
abbrev vZ:FuncId:=71
abbrev v5:FuncId:=72
abbrev D8:FuncId:=73
abbrev Au:FuncId:=74
abbrev Kr:FuncId:=75
abbrev aiJ:FuncId:=76
abbrev aiK:FuncId:=77
abbrev aiL:FuncId:=78
abbrev aiM:FuncId:=79
abbrev v7:FuncId:=80
abbrev Av:FuncId:=81
abbrev Ks:FuncId:=82
abbrev Kt:FuncId:=83
abbrev D9:FuncId:=84
abbrev Ku:FuncId:=85
abbrev Ea:FuncId:=86
abbrev Eb:FuncId:=88
abbrev Ec:FuncId:=89
abbrev Kv:FuncId:=90
abbrev Ed:FuncId:=91
abbrev Kw:FuncId:=92
abbrev Kx:FuncId:=93
abbrev jC:FuncId:=94
abbrev xU:FuncId:=95
abbrev qc:FuncId:=96
abbrev Ky:FuncId:=98
abbrev qd:FuncId:=99
abbrev aiN:FuncId:=100
abbrev aiO:FuncId:=101
abbrev aiP:FuncId:=102
abbrev aiQ:FuncId:=103
abbrev aiR:FuncId:=104
abbrev aiS:FuncId:=105
abbrev Qj:FuncId:=106
abbrev Kz:FuncId:=107
abbrev uz:FuncId:=108
abbrev uA:FuncId:=109
abbrev Aw:FuncId:=110
abbrev aiT:FuncId:=111
abbrev v8:FuncId:=112
abbrev Ax:FuncId:=113
abbrev Ay:FuncId:=114
abbrev Az:FuncId:=115
abbrev AA:FuncId:=116
abbrev AB:FuncId:=117
abbrev AD:FuncId:=118
abbrev aiU:FuncId:=119
abbrev AE:FuncId:=120
abbrev AF:FuncId:=121
abbrev KA:FuncId:=122
abbrev v9:FuncId:=123
abbrev Ee:FuncId:=124
abbrev Ef:FuncId:=125
abbrev Eg:FuncId:=126
abbrev Eh:FuncId:=127
abbrev KC:FuncId:=128
abbrev KD:FuncId:=129
abbrev AG:FuncId:=130
abbrev Ei:FuncId:=131
abbrev Ej:FuncId:=132
abbrev aiV:FuncId:=133
abbrev aiW:FuncId:=134
abbrev aiX:FuncId:=135
abbrev aiY:FuncId:=136
abbrev aiZ:FuncId:=137
abbrev ai0:FuncId:=138
abbrev ai1:FuncId:=139
abbrev ai2:FuncId:=140
abbrev KE:FuncId:=141
abbrev Ek:FuncId:=142
abbrev wa:FuncId:=143
abbrev AH:FuncId:=144
abbrev ai3:FuncId:=145
abbrev Qk:FuncId:=146
abbrev ai4:FuncId:=147
abbrev ai5:FuncId:=148
abbrev ai6:FuncId:=149
abbrev ai7:FuncId:=150
abbrev xV:FuncId:=151
abbrev ai8:FuncId:=152
abbrev ai9:FuncId:=154
abbrev aja:FuncId:=155
abbrev ajb:FuncId:=156
abbrev cA:FuncId:=157
abbrev ajc:FuncId:=158
abbrev AI:FuncId:=159
abbrev ajd:FuncId:=161
abbrev aje:FuncId:=162
abbrev ajf:FuncId:=163
abbrev ajg:FuncId:=164
abbrev ajh:FuncId:=165
abbrev aji:FuncId:=166
abbrev ajj:FuncId:=167
abbrev ajk:FuncId:=168
abbrev ajl:FuncId:=169
abbrev ajm:FuncId:=170
abbrev ajn:FuncId:=171
abbrev ajo:FuncId:=172
abbrev ajp:FuncId:=173
abbrev ajq:FuncId:=174
abbrev ajr:FuncId:=175
abbrev ae:TypeId:=3
abbrev ax:TypeId:=4
abbrev El:TypeId:=5
abbrev cp:TypeId:=9
abbrev ko:TypeId:=22
abbrev Ql:TypeId:=23
abbrev ah:TypeId:=33
abbrev cm:TypeId:=50
abbrev AJ:TypeId:=89
abbrev jD:TypeId:=95
abbrev cC:TypeId:=115
abbrev uB:TypeId:=126
abbrev Em:TypeId:=163
abbrev dU:TypeId:=171
abbrev jE:TypeId:=186
abbrev Qm:Nat:=197
def KF:List V:=[.int .u8 0,.int .u8 1,.int .u8 56,.int .u8 2,.int .u8 57,.int .u8 49,.int .u8 28,.int .u8 3,.int .u8 61,.int .u8 58,.int .u8 42,.int .u8 50,.int .u8 38,.int .u8 29,.int .u8 17,.int .u8 4,.int .u8 62,.int .u8 47,.int .u8 59,.int .u8 36,.int .u8 45,.int .u8 43,.int .u8 51,.int .u8 22,.int .u8 53,.int .u8 39,.int .u8 33,.int .u8 30,.int .u8 24,.int .u8 18,.int .u8 12,.int .u8 5,.int .u8 63,.int .u8 55,.int .u8 48,.int .u8 27,.int .u8 60,.int .u8 41,.int .u8 37,.int .u8 16,.int .u8 46,.int .u8 35,.int .u8 44,.int .u8 21,.int .u8 52,.int .u8 32,.int .u8 23,.int .u8 11,.int .u8 54,.int .u8 26,.int .u8 40,.int .u8 15,.int .u8 34,.int .u8 20,.int .u8 31,.int .u8 10,.int .u8 25,.int .u8 14,.int .u8 19,.int .u8 9,.int .u8 13,.int .u8 8,.int .u8 7,.int .u8 6]
abbrev aa:VS:= .one (.int .i64)
abbrev ao:VS:= .one (.bool)
abbrev aV:VS:= .one (.aG 0 0 0)
abbrev cD:VS:= .one (.list ah)
abbrev b7:VS:= .one (.list ae)
abbrev dp:VS:= .one (.list cm)
abbrev dd:VS:= .one (.whole ae 0)
abbrev sG:VS:= .one (.list ax)
abbrev b8:VS:= .one (.whole cm 0)
abbrev c7:VS:= .one (.aG 1 0 0)
abbrev jd:VS:= .one (.str)
abbrev dx:VS:= .one (.list uB)
abbrev e7:VS:= .one (.aG 2 0 0)
abbrev ajs:VS:= .one (.whole AJ 3)
abbrev ox:VS:= .one (.whole ae 3)
abbrev nv:VS:= .one (.whole ae 4)
abbrev nw:VS:= .one (.list cp)
abbrev gf:VS:= .one (.int .u64)
abbrev mM:VS:= .one (.whole ah 1)
abbrev AK:VS:= .one (.whole ah 5)
abbrev xW:VS:= .one (.whole ah 2)
abbrev ajt:VS:= .one (.whole AJ 4)
abbrev lS:VS:= .one (.whole ae 1)
abbrev xX:VS:= .one (.tu)
abbrev En:VS:= .one (.cN cC 7)
abbrev xY:VS:= .one (.whole ah 6)
abbrev Qn:VS:= .one (.whole ae 10)
abbrev pc:VS:= .one (.aG 3 0 0)
abbrev uC:VS:= .one (.whole ah 7)
abbrev KG:VS:= .one (.whole ax 5)
abbrev xZ:VS:= .one (.whole ae 2)
abbrev wc:VS:= .one (.aG 5 0 0)
abbrev Qo:VS:= .one (.whole cp 8)
abbrev Qp:VS:= .one (.whole ae 9)
abbrev we:VS:= .one (.whole ah 12)
abbrev Zr:VS:= .one (.whole dU 6)
abbrev Zs:VS:= .one (.whole ax 3)
abbrev Eo:VS:= .one (.whole cm 4)
abbrev ya:VS:= .one (.aG 4 0 0)
abbrev KH:VS:= .one (.whole ah 9)
abbrev yb:VS:= .one (.cN cC 3)
abbrev Zt:VS:= .one (.whole uB 4)
abbrev AL:VS:= .one (.whole ah 13)
abbrev KI:VS:= .one (.whole cm 1)
abbrev Qq:VS:= .one (.whole ax 6)
abbrev AN:VS:= .one (.whole ah 8)
abbrev Ep:VS:= .one (.whole ae 15)
abbrev Er:VS:= .one (.whole ae 16)
abbrev aju:VS:= .one (.whole El 2)
abbrev Qr:VS:= .one (.whole ax 4)
abbrev Es:VS:= .one (.whole ax 11)
abbrev Qs:VS:= .one (.whole ae 20)
abbrev KJ:VS:= .one (.whole ah 14)
abbrev AO:VS:= .one (.whole cm 5)
abbrev Qt:VS:= .one (.whole ax 2)
abbrev Qu:VS:= .one (.whole dU 17)
abbrev KK:VS:= .one (.whole ae 6)
abbrev AP:VS:= .one (.whole cm 3)
abbrev ajv:VS:= .one (.whole ah 4)
abbrev KL:VS:= .one (.whole ax 0)
abbrev Qv:VS:= .one (.whole ae 14)
abbrev Zu:VS:= .one (.whole ah 18)
abbrev Zv:VS:= .one (.whole ax 22)
abbrev Zw:VS:= .one (.whole jD 7)
abbrev yc:VS:= .one (.whole cm 6)
abbrev ajw:VS:= .one (.whole ax 8)
abbrev KM:VS:= .one (.whole ah 11)
abbrev ajx:VS:= .one (.whole AJ 5)
abbrev Zx:VS:= .one (.whole cp 19)
abbrev Qw:VS:= .one (.whole ae 17)
abbrev Et:VS:= .one (.whole ae 5)
abbrev ajy:VS:= .one (.whole El 3)
abbrev AQ:VS:= .one (.whole ax 10)
abbrev ajz:VS:= .one (.whole ax 21)
abbrev ajA:VS:= .one (.whole cp 9)
abbrev ajB:VS:= .one (.whole ax 12)
abbrev Zy:VS:= .one (.whole ah 10)
abbrev Qx:VS:= .one (.whole ae 12)
abbrev KN:VS:= .one (.whole ae 11)
abbrev Qy:VS:= .one (.whole cm 2)
abbrev Zz:VS:= .one (.whole uB 2)
abbrev ZA:VS:= .one (.whole ae 19)
abbrev ZB:VS:= .one (.whole ae 13)
abbrev ZC:VS:= .one (.whole ae 18)
abbrev ajC:VS:= .one (.whole uB 5)
abbrev ZD:VS:= .one (.whole ah 3)
abbrev ZE:VS:= .one (.nilS jD)
abbrev ZF:VS:= .one (.whole ah 16)
abbrev ZG:VS:= .one (.whole ah 15)
abbrev KO:VS:= .one (.whole uB 0)
abbrev ajD:VS:= .one (.whole El 1)
abbrev ajE:VS:= .one (.whole AJ 0)
abbrev Qz:VS:= .one (.whole ax 1)
abbrev ZH:VS:= .one (.whole ko 6)
abbrev QA:VS:= .one (.whole jD 8)
abbrev ZI:VS:= .one (.whole ax 23)
abbrev ajF:VS:= .one (.whole ax 9)
abbrev ZJ:VS:= .one (.cN Em 2)
abbrev QB:VS:= .one (.whole AJ 2)
abbrev ajG:VS:= .one (.whole ah 0)
abbrev ZK:VS:= .one (.whole ah 17)
abbrev ZL:VS:= .one (.whole dU 18)
abbrev ZM:VS:= .one (.whole ae 21)
abbrev ajH:VS:= .one (.whole cp 18)
abbrev ajI:VS:= .one (.whole dU 16)
abbrev ajJ:VS:= .one (.whole cp 17)
abbrev ajK:VS:= .one (.whole dU 15)
abbrev ajL:VS:= .one (.whole cp 16)
abbrev pd:VS:= .agg [.int .i64,.int .i64,.list cm]
abbrev AR:VS:= .agg [.int .i64,.int .i64,.list ax,.list ah]
abbrev yd:VS:= .agg [.int .i64,.list ah,.list cp,.list ae,.list ax,.list ax]
abbrev Eu:VS:= .agg [.int .i64,.int .i64,.whole ax 0,.whole ah 1]
abbrev QC:VS:= .agg [.str]
abbrev ajM:VS:= .agg [.int .i64,.int .i64,.list cm,.int .i64,.int .i64,.list cm,.bool]
abbrev ajN:VS:= .agg [.int .i64,.bool]
abbrev ajO:VS:= .agg [.int .i64,.int .i64,.whole cm 0]
abbrev uD:BS:= .var 91 [ajs]
abbrev wg:BS:= .var 3 [aa]
abbrev j6:BS:= .var 25 [aa,aa,sG,cD]
abbrev pe:BS:= .var 50 [aa,aa,dp]
abbrev pf:BS:= .var 87 [jd]
abbrev ye:BS:= .var 91 [ajt]
abbrev oy:BS:= .var 35 [aa,cD,nw,b7,sG,sG]
abbrev KP:BS:= .var 4 [ao]
abbrev ajP:BS:= .var 133 [aa,ao,mM,xW,ox,nv,AK,Zr,aa,En,Qo,Qp,Qn]
abbrev ajQ:BS:= .var 89 [Zt]
abbrev ajR:BS:= .var 156 [xX,aju]
abbrev AS:BS:= .var 25 [aa,aa,KG,xY]
abbrev AT:BS:= .var 25 [aa,aa,Qq,uC]
abbrev KQ:BS:= .var 173 [gf]
abbrev Ev:BS:= .var 25 [aa,aa,Zs,ajv]
abbrev Ew:BS:= .var 25 [aa,aa,Qr,AK]
abbrev ZN:BS:= .var 33 [ox]
abbrev yf:BS:= .var 25 [aa,aa,ajw,KH]
abbrev ajS:BS:= .var 91 [ajx]
abbrev ajT:BS:= .var 33 [xZ]
abbrev ZO:BS:= .var 33 [nv]
abbrev ajU:BS:= .var 156 [xX,ajy]
abbrev QD:BS:= .var 35 [aa,Zu,Zx,Qs,ajz,Zv]
abbrev ZP:BS:= .var 60 [mM,Zw,aa]
abbrev ZQ:BS:= .var 35 [aa,AN,ajA,Qn,Es,ajB]
abbrev ajV:BS:= .var 22 [Zs]
abbrev ajW:BS:= .var 89 [ajC]
abbrev ajX:BS:= .var 71 [cD,lS,Qt,ox]
abbrev ajY:BS:= .var 71 [cD,nv,KG,KK]
abbrev Ex:BS:= .var 150 [aa,aa,Eo,aa,aa,AO,ao]
abbrev ajZ:BS:= .var 119 [aa,KI,xW,aa,yb]
abbrev aj0:BS:= .var 156 [xX,ajD]
abbrev aj1:BS:= .var 60 [xW,ZE,aa]
abbrev aj2:BS:= .var 98 [aa,ao,AL,KJ,Ep,Er,xY,Qu,aa]
abbrev aj3:BS:= .var 119 [aa,Eo,AK,aa,yb]
abbrev QE:BS:= .var 25 [aa,aa,ajF,Zy]
abbrev KR:BS:= .var 152 [aa,ao]
abbrev aj4:BS:= .var 89 [Zz]
abbrev ZR:BS:= .var 25 [aa,aa,Qt,ZD]
abbrev aj5:BS:= .var 133 [aa,ao,we,AL,Qv,Ep,ZF,Qu,aa,En,ajH,ZA,Qs]
abbrev aj6:BS:= .var 133 [aa,ao,KM,we,ZB,Qv,ZG,ajI,aa,En,ajJ,ZC,ZA]
abbrev aj7:BS:= .var 133 [aa,ao,mM,KM,Qx,ZB,KJ,ajK,aa,En,ajL,Qw,ZC]
abbrev aj8:BS:= .var 119 [aa,Eo,AK,aa,.one (.cN cC 6)]
abbrev ZS:BS:= .var 98 [aa,ao,we,AL,Qv,Ep,ZF,Qu,aa]
abbrev ZT:BS:= .var 35 [aa,Zy,.one (.whole cp 11),Qx,.one (.whole ax 13),.one (.whole ax 14)]
abbrev ZU:BS:= .var 98 [aa,ao,ZG,KH,Er,Qw,Zu,.one (.whole dU 19),aa]
abbrev ZV:BS:= .var 35 [aa,.one (.whole ah 20),.one (.whole cp 21),.one (.whole ae 22),ZI,.one (.whole ax 24)]
abbrev aj9:BS:= .var 98 [aa,ao,AL,KJ,Ep,Er,ZK,ZL,aa]
abbrev aka:BS:= .var 35 [aa,.one (.whole ah 19),.one (.whole cp 20),ZM,Zv,ZI]
abbrev akb:BS:= .var 98 [aa,ao,xW,ZD,nv,Et,xY,.one (.whole dU 7),aa]
abbrev akc:BS:= .var 133 [aa,ao,AN,KH,Qn,KN,we,.one (.whole dU 13),aa,.one (.cN cC 14),.one (.whole cp 15),Er,Qw]
abbrev akd:BS:= .var 188 [.one (.whole ae 7),.one (.cN jE 8)]
abbrev aT:BS:= .arr ae false
abbrev aZ:BS:= .arr ah false
abbrev dv:BS:= .arr cm false
abbrev bQ:BS:= .arr ax false
abbrev lh:BS:= .arr cp false
abbrev ny:BS:= .arr dU false
abbrev mN:BS:= .arr uB false
abbrev Ey:BS:= .arr El false
abbrev Ez:BS:= .arr ae true
abbrev uE:BS:= .arr jD false
abbrev yg:BS:= .arr ah true
abbrev gg:BS:= .nest AJ
abbrev qe:BS:= .nest ah
abbrev QF:BS:= .nest ko
abbrev bp:List BS:=[dv]
abbrev bC:List BS:=[aT]
abbrev fg:List BS:=[wg]
abbrev lT:List BS:=[j6]
abbrev oz:List BS:=[ajP,aZ,aZ,aT,aT,aZ,ny,.map cC,lh,aT,aT]
abbrev qf:List BS:=[ajQ,uD,.dead,gg,mN]
abbrev rl:List BS:=[ajR,.dead,Ey]
abbrev sH:List BS:=[pf,uD,pe,gg]
abbrev sI:List BS:=[uD,pe,ye,gg,gg]
abbrev wh:List BS:=[bQ]
abbrev wi:List BS:=[pf,wg,uD,gg]
abbrev wj:List BS:=[pf,ye,KP,ajS,gg,gg]
abbrev yh:List BS:=[ajT,ZN,aT,Ez]
abbrev yi:List BS:=[ajU,.dead,pe,Ey]
abbrev AU:List BS:=[aT,ZO,ajV,bQ,Ez]
abbrev AV:List BS:=[.dead,dv]
abbrev AW:List BS:=[KP,ajW,ye,.dead,gg,mN]
abbrev EA:List BS:=[ajX,aT,bQ,aT]
abbrev EB:List BS:=[ajY,.dead,.dead,.dead,aT,bQ,aT]
abbrev EC:List BS:=[ajZ,dv,aZ,.map cC]
abbrev ED:List BS:=[aj0,Ey]
abbrev KS:List BS:=[oy,aT]
abbrev KT:List BS:=[aT,qe]
abbrev KU:List BS:=[aj1,j6,qe]
abbrev KV:List BS:=[ZP,yg,.dead,ZQ,aj2,QD,aZ,uE,aZ,lh,aT,bQ,bQ,aZ,aZ,aT,aT,ny,qe,lh,aT,bQ,bQ]
abbrev KW:List BS:=[aj3,.dead,.dead,.map cC,dv,aZ]
abbrev KX:List BS:=[oy,Ev,AS,bQ,aZ,bQ,qe]
abbrev KY:List BS:=[Ew,AT,aT,aT,bQ,aZ,bQ,aZ]
abbrev KZ:List BS:=[aT,KQ]
abbrev K0:List BS:=[dv,KQ]
abbrev K3:List BS:=[aj4,uD,mN,gg]
abbrev K4:List BS:=[bQ,aZ]
abbrev QG:List BS:=[aj5,.dead,.dead,.dead,.dead,.dead,.dead,.map cC,.dead,.dead,.dead,aT,aZ,aZ,aT,aT,aZ,ny,lh,aT,aT]
abbrev QH:List BS:=[aj6,.dead,.dead,.dead,.dead,.dead,.dead,.map cC,.dead,.dead,.dead,aZ,aZ,aT,aT,aZ,ny,lh,aT,aT]
abbrev QI:List BS:=[aj7,aZ,.dead,.dead,.dead,.dead,.dead,.map cC,.dead,.dead,.dead,aZ,aT,aT,aZ,ny,lh,aT,aT]
abbrev ZW:List BS:=[ZR,aj8,bQ,aZ,dv,aZ,.map cC]
abbrev ZX:List BS:=[ZP,yg,.dead,ZQ,aj9,aka,QF,uE,aZ,lh,aT,bQ,bQ,aZ,aZ,aT,aT,aZ,ny,qe,lh,aT,bQ,bQ]
abbrev ZY:List BS:=[AT,aT,yf,aT,aT,aT,bQ,aZ,bQ,aZ]
abbrev ZZ:List BS:=[akb,akc,aZ,aZ,aT,aT,aZ,ny,aZ,aZ,aT,aT,aZ,ny,.map cC,lh,aT,aT]
abbrev Z0:List BS:=[j6,AS,akd,QE,aT,bQ,aZ,aT,.map jE,bQ,aZ]
abbrev dK:List (Nat×VS):=[(0,ao)]
abbrev dV:List (Nat×VS):=[(0,aa)]
abbrev lj:List (Nat×VS):=[(0,pd)]
abbrev pg:List (Nat×VS):=[(4,ao)]
abbrev sJ:List (Nat×VS):=[(0,aV)]
abbrev uF:List (Nat×VS):=[(2,aa)]
abbrev wk:List (Nat×VS):=[(0,AR)]
abbrev yj:List (Nat×VS):=[(0,pd),(1,aa)]
abbrev yk:List (Nat×VS):=[(0,dd)]
abbrev yl:List (Nat×VS):=[(0,b8)]
abbrev AX:List (Nat×VS):=[(0,aa),(1,aa)]
abbrev EE:List (Nat×VS):=[(4,aa)]
abbrev EF:List (Nat×VS):=[(0,dd),(1,aa),(10,aa),(11,aa)]
abbrev EG:List (Nat×VS):=[(0,cD),(1,b7)]
abbrev EH:List (Nat×VS):=[(0,cD)]
abbrev EI:List (Nat×VS):=[(0,gf)]
abbrev EJ:List (Nat×VS):=[(0,dd),(1,aa),(2,aa)]
abbrev EK:List (Nat×VS):=[(0,ajE)]
abbrev EL:List (Nat×VS):=[(0,KI)]
abbrev K5:List (Nat×VS):=[(0,aV),(1,aa)]
abbrev K6:List (Nat×VS):=[(0,b7),(1,aa)]
abbrev K7:List (Nat×VS):=[(0,QC),(1,pd),(2,dx)]
abbrev K8:List (Nat×VS):=[(0,dd),(1,aa),(2,aa),(3,aa)]
abbrev K9:List (Nat×VS):=[(0,aa),(1,aV),(2,c7),(3,e7)]
abbrev La:List (Nat×VS):=[(0,ajM)]
abbrev Lb:List (Nat×VS):=[(0,ajN),(1,pd)]
abbrev Lc:List (Nat×VS):=[(0,ajO)]
abbrev QJ:List (Nat×VS):=[(4,aV),(5,aa)]
abbrev QK:List (Nat×VS):=[(4,ajG),(5,aa)]
abbrev QL:List (Nat×VS):=[(8,dd),(9,ao)]
abbrev QM:List (Nat×VS):=[(0,dd),(1,aa),(2,aa),(7,aa),(8,aa)]
abbrev QN:List (Nat×VS):=[(0,dd),(1,aa),(9,aa),(10,aa)]
abbrev QO:List (Nat×VS):=[(0,cD),(1,cD),(2,b7)]
abbrev QP:List (Nat×VS):=[(0,aa),(1,dp)]
abbrev QQ:List (Nat×VS):=[(0,aa),(1,aV),(2,c7)]
abbrev QR:List (Nat×VS):=[(0,Eu),(1,aa)]
abbrev Z1:List (Nat×VS):=[(11,aV),(13,lS),(16,b7),(17,cD),(122,lS),(123,aa),(124,aa)]
abbrev Z2:List (Nat×VS):=[(1,aV),(3,aa),(38,cD),(39,aa),(40,aa),(49,b7),(50,aa),(51,aa)]
abbrev Z3:List (Nat×VS):=[(1,aV),(3,aa),(38,cD),(39,aa),(40,aa),(49,b7),(50,aa),(51,aa),(52,ao)]
abbrev Z4:List (Nat×VS):=[(1,aV),(3,aa),(38,cD),(39,aa),(40,aa),(41,ao)]
abbrev Z5:List (Nat×VS):=[(0,dd),(1,aa),(2,aa),(7,aa),(8,aa),(9,aa)]
abbrev Z6:List (Nat×VS):=[(0,dd),(1,aa),(2,aa),(7,aa),(8,aa),(10,aa)]
abbrev Z7:List (Nat×VS):=[(1,nw),(2,aV),(39,nw),(40,aa),(41,aa)]
def QS:Shape×List (Out×Shape):=(⟨Z7,lT⟩,[(.ret,⟨pg,[]⟩),(.exit 0,⟨Z7++[(42,ao)],lT⟩)])
abbrev Z8:List (Nat×VS):=[(9,aV),(11,c7),(13,xZ),(96,nw),(97,aa),(98,aa)]
def QT:Shape×List (Out×Shape):=(⟨Z8,[oy,oy,aT]⟩,[(.exit 2,⟨Z8++[(99,ao)],[oy,oy,aT]⟩)])
def QU:Shape×List (Out×Shape):=(⟨[(11,aV),(13,lS),(16,b7),(17,cD),(19,aa),(20,aa),(122,lS),(123,aa),(124,aa),(129,b7),(130,aa),(131,aa)],KS⟩,[(.exit 6,⟨Z1,KS⟩)])
def QV:Shape×List (Out×Shape):=(⟨Z1,KS⟩,[(.exit 4,⟨[(11,aV),(13,lS),(16,b7),(17,cD),(122,lS),(123,aa),(124,aa),(125,ao)],KS⟩)])
abbrev Z9:List (Nat×VS):=[(0,jd),(1,aa),(5,aa)]
def QW:Shape×List (Out×Shape):=(⟨Z9,[]⟩,[(.ret,⟨pg,[]⟩),(.exit 0,⟨Z9++[(17,ao)],[]⟩)])
abbrev aaa:List (Nat×VS):=[(1,nw),(2,aV),(4,c7),(6,e7),(33,nw),(34,aa),(35,aa)]
def QX:Shape×List (Out×Shape):=(⟨aaa,[j6,Ev,AS,bQ,aZ,bQ,aZ]⟩,[(.ret,⟨QJ,[.var 25 [aa,aa,Qz,xW],bQ,aZ]⟩),(.exit 0,⟨aaa++[(36,ao)],[j6,Ev,AS,bQ,aZ,bQ,aZ]⟩)])
abbrev aab:List (Nat×VS):=[(1,nw),(4,aV),(6,c7),(10,e7),(11,aa),(12,ox),(55,aa),(56,aa),(62,nw),(63,aa),(64,aa)]
def QY:Shape×List (Out×Shape):=(⟨aab,[Ew,AT,.var 25 [aa,aa,Qq,AN],aT,bQ,aZ,bQ,aZ,aZ]⟩,[(.exit 4,⟨aab++[(65,ao)],[Ew,AT,.var 25 [aa,aa,Qq,AN],aT,bQ,aZ,bQ,aZ,aZ]⟩)])
abbrev aac:List (Nat×VS):=[(1,nw),(4,aV),(6,c7),(10,e7),(55,aa),(56,aa)]
def QZ:Shape×List (Out×Shape):=(⟨aac,[Ev,AS,.var 25 [aa,aa,KG,uC],bQ,aZ,bQ,aZ,aZ]⟩,[(.exit 2,⟨aac++[(57,ao)],[Ev,AS,.var 25 [aa,aa,KG,uC],bQ,aZ,bQ,aZ,aZ]⟩)])
abbrev aad:List (Nat×VS):=[(5,aV),(14,b7),(15,aa),(16,aa)]
def Q0:Shape×List (Out×Shape):=(⟨aad,EA⟩,[(.exit 0,⟨aad++[(17,ao)],EA⟩)])
abbrev aae:List (Nat×VS):=[(0,cD),(1,b7),(7,dd),(34,aa),(35,aa)]
def Q1:Shape×List (Out×Shape):=(⟨aae,bC⟩,[(.exit 0,⟨aae++[(36,ao)],bC⟩)])
abbrev aaf:List (Nat×VS):=[(0,cD),(1,b7),(7,dd),(42,b7),(43,aa),(44,aa)]
def Q2:Shape×List (Out×Shape):=(⟨aaf,bC⟩,[(.ret,⟨QK,[aZ]⟩),(.exit 2,⟨aaf++[(45,ao)],bC⟩)])
abbrev aag:List (Nat×VS):=[(0,cD),(1,b7),(7,dd),(11,mM),(12,aa),(13,aa),(68,b7),(69,aa),(70,aa),(81,b7),(82,aa),(83,aa)]
def Q3:Shape×List (Out×Shape):=(⟨aag,KT⟩,[(.ret,⟨QK,[aZ]⟩),(.exit 6,⟨aag++[(84,ao)],KT⟩)])
abbrev aah:List (Nat×VS):=[(0,cD),(1,b7),(7,dd),(11,mM),(68,b7),(69,aa),(70,aa)]
def Q4:Shape×List (Out×Shape):=(⟨aah,KT⟩,[(.ret,⟨QK,[aZ]⟩),(.exit 4,⟨aah++[(71,ao)],KT⟩)])
abbrev aai:List (Nat×VS):=[(0,cD),(1,b7),(2,cD),(3,b7),(10,aV),(54,aa),(55,aa)]
def Q5:Shape×List (Out×Shape):=(⟨aai,[.var 33 [lS],aT]⟩,[(.exit 0,⟨aai++[(56,ao)],[.var 33 [lS],aT]⟩)])
def Q6:Shape×List (Out×Shape):=(⟨[(0,cD),(2,cD),(3,b7),(10,aV),(12,c7),(13,.fn rj [] [.aG 0 0 0,.aG 1 0 0]),(63,b7),(64,aa),(65,aa)],yh⟩,[(.ret,⟨QL,bC⟩),(.exit 2,⟨[(0,cD),(2,cD),(3,b7),(10,aV),(12,c7),(13,.fn rj [] [.aG 0 0 0,.aG 1 0 0]),(63,b7),(64,aa),(65,aa),(66,ao)],yh⟩)])
def Q7:Shape×List (Out×Shape):=(⟨[(0,cD),(2,cD),(10,aV),(12,c7),(13,.fn rj [] [.aG 0 0 0,.aG 1 0 0]),(16,b7),(17,aa),(18,aa),(95,b7),(96,aa),(97,aa)],yh⟩,[(.ret,⟨QL,bC⟩),(.exit 6,⟨[(0,cD),(2,cD),(10,aV),(12,c7),(13,.fn rj [] [.aG 0 0 0,.aG 1 0 0]),(16,b7),(17,aa),(18,aa),(95,b7),(96,aa),(97,aa),(98,ao)],yh⟩)])
def Q8:Shape×List (Out×Shape):=(⟨[(0,cD),(2,cD),(10,aV),(12,c7),(13,.fn rj [] [.aG 0 0 0,.aG 1 0 0]),(16,b7),(17,aa)],yh⟩,[(.ret,⟨QL,bC⟩),(.exit 4,⟨[(0,cD),(2,cD),(10,aV),(12,c7),(13,.fn rj [] [.aG 0 0 0,.aG 1 0 0]),(16,b7),(17,aa),(88,ao)],yh⟩)])
abbrev aaj:List (Nat×VS):=[(7,KL),(21,b7),(22,aa),(23,aa)]
def Q9:Shape×List (Out×Shape):=(⟨aaj,wh⟩,[(.exit 0,⟨aaj++[(24,ao)],wh⟩)])
abbrev aak:List (Nat×VS):=[(10,dd),(31,Qz),(32,aa),(33,aa)]
def Ra:Shape×List (Out×Shape):=(⟨aak,[aT,bQ]⟩,[(.exit 2,⟨aak++[(34,ao)],[aT,bQ]⟩)])
def Rb:Shape×List (Out×Shape):=(⟨Z2,lT⟩,[(.ret,⟨uF,[]⟩),(.exit 2,⟨Z3,lT⟩)])
def Rc:Shape×List (Out×Shape):=(⟨[(1,aV),(3,aa),(38,cD),(39,aa),(40,aa)],lT⟩,[(.ret,⟨uF,[]⟩),(.exit 0,⟨Z4,lT⟩)])
def Re:Shape×List (Out×Shape):=(⟨[(4,aV),(7,c7)],ZW⟩,[(.ret,⟨QJ,[.var 25 [aa,aa,Qz,xW],bQ,aZ]⟩),(.exit 0,⟨[(4,aV),(7,c7),(22,ao)],ZW⟩)])
abbrev aal:List (Nat×VS):=[(0,jd),(1,aa),(18,aa),(19,aa)]
def Rf:Shape×List (Out×Shape):=(⟨aal,[]⟩,[(.ret,⟨pg,[]⟩),(.exit 0,⟨aal++[(20,ao)],[]⟩)])
abbrev aam:List (Nat×VS):=[(1,aa),(2,jd),(3,aV),(30,aa),(31,aa)]
def Rg:Shape×List (Out×Shape):=(⟨aam,lT⟩,[(.exit 0,⟨aam++[(32,ao)],lT⟩)])
def Rh:Shape×List (Out×Shape):=(⟨Z2,lT⟩,[(.ret,⟨uF,[]⟩),(.exit 2,⟨Z3,lT⟩)])
def Ri:Shape×List (Out×Shape):=(⟨[(1,aV),(3,aa),(38,cD),(39,aa),(40,aa)],lT⟩,[(.ret,⟨uF,[]⟩),(.exit 0,⟨Z4,lT⟩)])
abbrev aan:List (Nat×VS):=[(0,aV),(3,c7),(5,aa),(6,aa),(33,aa),(34,aa),(37,aa),(38,aa)]
def Rj:Shape×List (Out×Shape):=(⟨aan,KU⟩,[(.exit 2,⟨aan++[(39,ao)],KU⟩)])
abbrev aao:List (Nat×VS):=[(0,aV),(3,c7),(5,aa),(33,aa),(34,aa)]
def Rk:Shape×List (Out×Shape):=(⟨aao,KU⟩,[(.exit 0,⟨aao++[(35,ao)],KU⟩)])
abbrev aap:List (Nat×VS):=[(0,aV),(2,pc),(5,ya),(7,aa),(8,wc),(9,aa)]
def Rl:Shape×List (Out×Shape):=(⟨aap,[.var 60 [mM,.one (.whole jD 6),aa],yg,.dead,.var 35 [aa,uC,Qo,Qp,AQ,Es],ZS,QD,uE,aZ,lh,aT,bQ,bQ,aZ,aZ,aT,aT,aZ,ny,qe,lh,aT,bQ,bQ]⟩,[(.exit 0,⟨aap++[(55,ao)],[.var 60 [mM,.one (.whole jD 6),aa],yg,.dead,.var 35 [aa,uC,Qo,Qp,AQ,Es],ZS,QD,uE,aZ,lh,aT,bQ,bQ,aZ,aZ,aT,aT,aZ,ny,qe,lh,aT,bQ,bQ]⟩)])
abbrev aaq:List (Nat×VS):=[(0,aV),(2,pc),(5,ya),(7,aa),(8,wc),(10,aa),(12,aa),(86,xY),(87,aa),(88,aa)]
def Rm:Shape×List (Out×Shape):=(⟨aaq,KV⟩,[(.exit 4,⟨aaq++[(119,ao)],KV⟩)])
abbrev aar:List (Nat×VS):=[(0,aV),(2,pc),(5,ya),(7,aa),(8,wc),(86,xY),(87,aa),(88,aa)]
def Rn:Shape×List (Out×Shape):=(⟨aar,KV⟩,[(.exit 2,⟨aar++[(89,ao)],KV⟩)])
abbrev aas:List (Nat×VS):=[(2,pc),(5,ya),(7,aa),(8,wc),(13,ZH),(14,aa),(15,.one (.aG 7 0 0)),(162,QA),(163,aa),(164,aa),(175,KH),(176,aa),(177,aa)]
def Ro:Shape×List (Out×Shape):=(⟨aas,[.var 60 [mM,QA,aa],yg,.dead,ZT,ZU,ZV,QF,.var 95 [aa,sG,aa],uE,aZ,aZ,lh,aT,bQ,bQ,aZ,aT,aT,aZ,ny,qe,lh,aT,bQ,bQ]⟩,[(.exit 8,⟨aas++[(178,ao)],[.var 60 [mM,QA,aa],yg,.dead,ZT,ZU,ZV,QF,.var 95 [aa,sG,aa],uE,aZ,aZ,lh,aT,bQ,bQ,aZ,aT,aT,aZ,ny,qe,lh,aT,bQ,bQ]⟩)])
abbrev aat:List (Nat×VS):=[(2,pc),(5,ya),(7,aa),(8,wc),(13,ZH),(162,Zw),(163,aa),(164,aa)]
def Rp:Shape×List (Out×Shape):=(⟨aat,ZX⟩,[(.exit 6,⟨aat++[(165,ao)],ZX⟩)])
abbrev aau:List (Nat×VS):=[(1,aV),(3,c7),(28,cD),(29,aa),(30,aa)]
def Rq:Shape×List (Out×Shape):=(⟨aau,[oy,oy]⟩,[(.ret,⟨uF,[]⟩),(.exit 0,⟨aau++[(31,ao)],[oy,oy]⟩)])
abbrev aav:List (Nat×VS):=[(1,jd),(2,aV),(5,aa),(13,aa),(14,aa)]
def Rr:Shape×List (Out×Shape):=(⟨aav,[oy]⟩,[(.exit 0,⟨aav++[(15,ao)],[oy]⟩)])
abbrev aaw:List (Nat×VS):=[(0,aV),(1,aa),(4,aa),(5,aa),(66,nv),(67,aa),(68,aa)]
def Rs:Shape×List (Out×Shape):=(⟨aaw,EB⟩,[(.exit 2,⟨aaw++[(69,ao)],EB⟩)])
abbrev aax:List (Nat×VS):=[(0,aV),(1,aa),(4,aa),(5,aa)]
def Rt:Shape×List (Out×Shape):=(⟨aax,EB⟩,[(.exit 0,⟨aax++[(39,ao)],EB⟩)])
abbrev aay:List (Nat×VS):=[(0,cD),(7,b7),(8,aa),(9,aa)]
def Ru:Shape×List (Out×Shape):=(⟨aay,[]⟩,[(.ret,⟨pg,[]⟩),(.exit 0,⟨aay++[(10,ao)],[]⟩)])
abbrev aaz:List (Nat×VS):=[(1,aa),(7,b7),(8,aa),(9,aa)]
def Rv:Shape×List (Out×Shape):=(⟨aaz,[]⟩,[(.ret,⟨pg,[]⟩),(.exit 0,⟨aaz++[(10,ao)],[]⟩)])
abbrev aaA:List (Nat×VS):=[(0,aV),(3,nv),(16,aa),(17,aa)]
def Rw:Shape×List (Out×Shape):=(⟨aaA,[.var 119 [aa,AO,xY,aa,yb],.dead,.dead,.map cC,aT,dv,aZ]⟩,[(.ret,⟨uF,KW⟩),(.exit 0,⟨aaA++[(18,ao)],[.var 119 [aa,AO,xY,aa,yb],.dead,.dead,.map cC,aT,dv,aZ]⟩)])
abbrev aaB:List (Nat×VS):=[(2,ya),(3,wc),(21,yc),(22,aa),(23,aa)]
def ake:Shape×List (Out×Shape):=(⟨aaB,[.var 119 [aa,yc,uC,aa,yb],.dead,.dead,.map cC,yf,.var 25 [aa,aa,AQ,uC],dv,aZ,bQ,aZ,bQ]⟩,[(.exit 0,⟨aaB++[(24,ao)],[.var 119 [aa,yc,uC,aa,yb],.dead,.dead,.map cC,yf,.var 25 [aa,aa,AQ,uC],dv,aZ,bQ,aZ,bQ]⟩)])
abbrev aaC:List (Nat×VS):=[(1,aV),(2,c7),(4,e7),(5,ox),(6,nv),(7,wc),(8,aa),(10,KK),(28,nv),(29,aa),(30,aa),(47,b7),(48,aa),(49,aa)]
def Rx:Shape×List (Out×Shape):=(⟨aaC,[j6,.var 25 [aa,aa,.one (.whole ax 7),AN],QE,aT,aT,.var 25 [aa,aa,Es,we],aT,bQ,aZ,bQ,aZ,bQ,aZ]⟩,[(.exit 2,⟨aaC++[(50,ao)],[j6,.var 25 [aa,aa,.one (.whole ax 7),AN],QE,aT,aT,.var 25 [aa,aa,Es,we],aT,bQ,aZ,bQ,aZ,bQ,aZ]⟩)])
abbrev aaD:List (Nat×VS):=[(1,aV),(2,c7),(4,e7),(5,ox),(6,nv),(7,wc),(28,nv),(29,aa),(30,aa)]
def Ry:Shape×List (Out×Shape):=(⟨aaD,[j6,AT,yf,aT,aT,.var 25 [aa,aa,AQ,KM],bQ,aZ,bQ,aZ,bQ,aZ]⟩,[(.exit 0,⟨aaD++[(31,ao)],[j6,AT,yf,aT,aT,.var 25 [aa,aa,AQ,KM],bQ,aZ,bQ,aZ,bQ,aZ]⟩)])
abbrev aaE:List (Nat×VS):=[(2,aV),(6,lS),(13,e7),(14,ox),(15,nv),(87,Et),(88,aa),(89,aa)]
def Rz:Shape×List (Out×Shape):=(⟨aaE,ZY⟩,[(.exit 4,⟨aaE++[(90,ao)],ZY⟩)])
def RA:Shape×List (Out×Shape):=(⟨[(4,aV),(6,c7)],ZZ⟩,[(.ret,⟨QJ,[.var 98 [aa,ao,mM,xW,ox,nv,AK,Zr,aa],aZ,aZ,aT,aT,aZ,ny]⟩),(.exit 0,⟨[(4,aV),(6,c7),(21,ao)],ZZ⟩)])
abbrev aaF:List (Nat×VS):=[(1,aV),(3,aa),(53,cD),(54,aa),(55,aa)]
def RB:Shape×List (Out×Shape):=(⟨aaF,[oy]⟩,[(.ret,⟨[(2,ao)],[]⟩),(.exit 0,⟨aaF++[(56,ao)],[oy]⟩)])
abbrev aaG:List (Nat×VS):=[(1,aV),(2,c7),(3,e7),(4,aa),(5,b7),(19,cD),(20,aa),(21,aa),(34,b7),(35,aa),(36,aa)]
def RC:Shape×List (Out×Shape):=(⟨aaG,KX⟩,[(.exit 2,⟨aaG++[(37,ao)],KX⟩)])
abbrev aaH:List (Nat×VS):=[(1,aV),(2,c7),(3,e7),(19,cD),(20,aa),(21,aa)]
def RD:Shape×List (Out×Shape):=(⟨aaH,KX⟩,[(.exit 0,⟨aaH++[(22,ao)],KX⟩)])
abbrev aaI:List (Nat×VS):=[(0,b7),(1,b7),(12,aa),(13,aa)]
def RE:Shape×List (Out×Shape):=(⟨aaI,[]⟩,[(.ret,⟨pg,[]⟩),(.exit 0,⟨aaI++[(14,ao)],[]⟩)])
abbrev aaJ:List (Nat×VS):=[(0,nw),(1,nw),(12,aa),(13,aa)]
def RF:Shape×List (Out×Shape):=(⟨aaJ,[]⟩,[(.ret,⟨pg,[]⟩),(.exit 0,⟨aaJ++[(14,ao)],[]⟩)])
abbrev aaK:List (Nat×VS):=[(0,sG),(1,sG),(12,aa),(13,aa)]
def RG:Shape×List (Out×Shape):=(⟨aaK,[]⟩,[(.ret,⟨pg,[]⟩),(.exit 0,⟨aaK++[(14,ao)],[]⟩)])
def RH:Shape×List (Out×Shape):=(⟨[(0,dd),(1,aa),(2,aa),(3,aa),(8,ao),(9,ao),(10,aa),(35,ao)],bC⟩,[(.norm,⟨[(0,dd),(1,aa),(2,aa),(3,aa),(8,ao),(9,ao),(10,aa)],bC⟩)])
def RI:Shape×List (Out×Shape):=(⟨[(0,dd),(1,aa),(2,aa),(3,aa),(8,ao),(9,ao),(10,aa),(11,aa),(12,aa),(50,ao)],bC⟩,[(.norm,⟨[(0,dd),(1,aa),(2,aa),(3,aa),(8,ao),(9,ao),(10,aa),(11,aa),(12,aa)],bC⟩)])
def RJ:Shape×List (Out×Shape):=(⟨[(0,dd),(1,aa),(2,aa),(3,aa),(8,ao),(9,ao),(10,aa),(11,aa),(68,ao)],bC⟩,[(.ret,⟨[(0,dd),(1,aa),(2,aa),(3,aa),(8,ao),(9,ao),(10,aa),(11,aa),(72,ao)],bC⟩),(.norm,⟨[(0,dd),(1,aa),(2,aa),(3,aa),(8,ao),(9,ao),(10,aa),(11,aa)],bC⟩)])
def RK:Shape×List (Out×Shape):=(⟨[(0,dd),(1,aa),(2,aa),(3,aa),(8,ao),(9,ao)],bC⟩,[(.ret,⟨[],bC⟩)])
abbrev aaL:List (Nat×VS):=[(0,cD),(13,cD),(14,aa),(15,aa),(24,b7),(25,aa),(26,aa)]
def RL:Shape×List (Out×Shape):=(⟨aaL,[]⟩,[(.ret,⟨uF,[]⟩),(.exit 2,⟨aaL++[(27,ao)],[]⟩)])
abbrev aaM:List (Nat×VS):=[(0,cD),(13,cD),(14,aa),(15,aa)]
def RM:Shape×List (Out×Shape):=(⟨aaM,[]⟩,[(.ret,⟨uF,[]⟩),(.exit 0,⟨aaM++[(16,ao)],[]⟩)])
abbrev aaN:List (Nat×VS):=[(0,cD),(5,KL),(7,aa),(9,b7),(10,b7),(16,b7),(17,aa),(18,aa),(29,cD),(30,aa),(31,aa),(45,b7),(46,aa),(47,aa)]
def RN:Shape×List (Out×Shape):=(⟨aaN,wh⟩,[(.ret,⟨pg,[]⟩),(.exit 4,⟨aaN++[(48,ao)],wh⟩)])
abbrev aaO:List (Nat×VS):=[(0,cD),(5,KL),(7,aa),(16,b7),(17,aa),(18,aa),(29,cD),(30,aa),(31,aa)]
def RO:Shape×List (Out×Shape):=(⟨aaO,wh⟩,[(.ret,⟨pg,[]⟩),(.exit 2,⟨aaO++[(32,ao)],wh⟩)])
abbrev aaP:List (Nat×VS):=[(0,cD),(5,KL),(16,b7),(17,aa),(18,aa)]
def RP:Shape×List (Out×Shape):=(⟨aaP,wh⟩,[(.ret,⟨pg,[]⟩),(.exit 0,⟨aaP++[(19,ao)],wh⟩)])
def RQ:Shape×List (Out×Shape):=(⟨[(0,cD),(3,dd),(4,c7),(5,e7),(6,.fn qd [] [.aG 2 0 0,.aG 1 0 0]),(7,aa),(9,aa),(17,aa),(18,aa),(45,b7),(46,aa),(47,aa)],AU⟩,[(.exit 4,⟨[(0,cD),(3,dd),(4,c7),(5,e7),(6,.fn qd [] [.aG 2 0 0,.aG 1 0 0]),(7,aa),(9,aa),(17,aa),(18,aa),(45,b7),(46,aa),(47,aa),(48,ao)],AU⟩)])
def RR:Shape×List (Out×Shape):=(⟨[(0,cD),(3,dd),(4,c7),(5,e7),(6,.fn qd [] [.aG 2 0 0,.aG 1 0 0]),(7,aa),(17,aa),(18,aa)],AU⟩,[(.exit 2,⟨[(0,cD),(3,dd),(4,c7),(5,e7),(6,.fn qd [] [.aG 2 0 0,.aG 1 0 0]),(7,aa),(17,aa),(18,aa),(35,ao)],AU⟩)])
def RS:Shape×List (Out×Shape):=(⟨[(0,cD),(3,dd),(4,c7),(5,e7),(6,.fn qd [] [.aG 2 0 0,.aG 1 0 0]),(7,aa),(17,aa),(18,aa)],AU⟩,[(.exit 0,⟨[(0,cD),(3,dd),(4,c7),(5,e7),(6,.fn qd [] [.aG 2 0 0,.aG 1 0 0]),(7,aa),(17,aa),(18,aa),(19,ao)],AU⟩)])
abbrev aaQ:List (Nat×VS):=[(1,cD),(2,b7),(7,aa),(23,cD),(24,aa),(25,aa),(30,b7),(31,aa),(32,aa)]
def RT:Shape×List (Out×Shape):=(⟨aaQ,[]⟩,[(.ret,⟨[(6,ao)],[]⟩),(.exit 2,⟨aaQ++[(33,ao)],[]⟩)])
abbrev aaR:List (Nat×VS):=[(1,cD),(2,b7),(23,cD),(24,aa),(25,aa)]
def RU:Shape×List (Out×Shape):=(⟨aaR,[]⟩,[(.ret,⟨[(6,ao)],[]⟩),(.exit 0,⟨aaR++[(26,ao)],[]⟩)])
abbrev aaS:List (Nat×VS):=[(1,aa),(53,dp),(54,aa),(55,aa)]
def akf:Shape×List (Out×Shape):=(⟨aaS,[]⟩,[(.ret,⟨pg,[]⟩),(.exit 1,⟨aaS++[(56,ao)],[]⟩)])
abbrev aaT:List (Nat×VS):=[(1,aV),(2,c7),(3,Qy),(20,dp),(21,aa),(22,aa)]
def akg:Shape×List (Out×Shape):=(⟨aaT,[pe,.var 50 [aa,aa,AP],dv,dv]⟩,[(.exit 0,⟨aaT++[(23,ao)],[pe,.var 50 [aa,aa,AP],dv,dv]⟩)])
abbrev aaU:List (Nat×VS):=[(19,dp),(20,aa),(21,aa)]
def akh:Shape×List (Out×Shape):=(⟨aaU,[]⟩,[(.ret,⟨[(2,ao)],[]⟩),(.exit 1,⟨aaU++[(22,ao)],[]⟩)])
abbrev aaV:List (Nat×VS):=[(2,aV),(4,c7),(5,xZ),(7,ox),(31,aa),(32,aa)]
def RV:Shape×List (Out×Shape):=(⟨aaV,KY⟩,[(.exit 0,⟨aaV++[(33,ao)],KY⟩)])
abbrev aaW:List (Nat×VS):=[(2,aV),(4,c7),(7,xZ),(39,ox),(40,aa),(41,aa)]
def RW:Shape×List (Out×Shape):=(⟨aaW,KY⟩,[(.exit 2,⟨aaW++[(42,ao)],KY⟩)])
abbrev aaX:List (Nat×VS):=[(1,aV),(3,lS),(4,aa),(24,sG),(25,aa),(26,aa)]
def RX:Shape×List (Out×Shape):=(⟨aaX,[j6,aT]⟩,[(.exit 0,⟨aaX++[(27,ao)],[j6,aT]⟩)])
abbrev aaY:List (Nat×VS):=[(1,aV),(3,lS),(4,aa),(7,ZJ),(8,ox),(9,aa),(11,ya),(46,cD),(47,aa),(48,aa),(58,b7),(59,aa),(60,aa)]
def RY:Shape×List (Out×Shape):=(⟨aaY,[j6,aT,.map Em,aT,.var 165 [aa,aa,aa,aa,aa,aa,aa]]⟩,[(.exit 6,⟨aaY++[(61,ao)],[j6,aT,.map Em,aT,.var 165 [aa,aa,aa,aa,aa,aa,aa]]⟩)])
abbrev aaZ:List (Nat×VS):=[(1,aV),(3,lS),(4,aa),(7,ZJ),(8,ox),(46,cD),(47,aa),(48,aa)]
def RZ:Shape×List (Out×Shape):=(⟨aaZ,[j6,aT,.map Em,aT]⟩,[(.exit 4,⟨aaZ++[(49,ao)],[j6,aT,.map Em,aT]⟩)])
def R0:Shape×List (Out×Shape):=(⟨[(1,aV),(3,lS),(4,aa)],[j6,aT]⟩,[(.ret,⟨[(2,dd)],bC⟩)])
abbrev aa0:List (Nat×VS):=[(2,dx),(3,aV),(7,c7),(20,dp),(21,aa),(22,aa)]
def aki:Shape×List (Out×Shape):=(⟨aa0,[pf,.var 91 [QB],gg]⟩,[(.exit 0,⟨aa0++[(23,ao)],[pf,.var 91 [QB],gg]⟩)])
abbrev aa1:List (Nat×VS):=[(3,aV),(4,c7),(7,Zz),(8,pc),(9,aa)]
def akj:Shape×List (Out×Shape):=(⟨aa1,[pf,pe,mN,wg]⟩,[(.exit 0,⟨aa1++[(28,ao)],[pf,pe,mN,wg]⟩)])
abbrev aa2:List (Nat×VS):=[(3,aV),(8,c7),(10,QB),(11,pc),(12,aa)]
def akk:Shape×List (Out×Shape):=(⟨aa2,[pf,wg,gg,ye,gg]⟩,[(.exit 2,⟨aa2++[(48,ao)],[pf,wg,gg,ye,gg]⟩)])
abbrev aa3:List (Nat×VS):=[(2,dx),(3,aV),(4,c7),(7,e7),(20,dp),(21,aa),(22,aa)]
def akl:Shape×List (Out×Shape):=(⟨aa3,[pf,pe,uD,gg]⟩,[(.exit 0,⟨aa3++[(23,ao)],[pf,pe,uD,gg]⟩)])
def akm:Shape×List (Out×Shape):=(⟨[(1,.fn Av [] [.aG 0 0 0,.aG 1 0 0,.aG 2 0 0]),(4,aa),(5,gf),(6,dx),(7,aa),(8,aa)],sH⟩,[(.exit 2,⟨[(1,.fn Av [] [.aG 0 0 0,.aG 1 0 0,.aG 2 0 0]),(4,aa),(5,gf),(6,dx),(7,aa),(8,aa),(14,ao)],sH⟩)])
def akn:Shape×List (Out×Shape):=(⟨[(1,.fn Av [] [.aG 0 0 0,.aG 1 0 0,.aG 2 0 0]),(6,dx),(7,aa),(8,aa)],sH⟩,[(.exit 0,⟨[(1,.fn Av [] [.aG 0 0 0,.aG 1 0 0,.aG 2 0 0]),(6,dx),(7,aa),(8,aa),(9,ao)],sH⟩)])
def ako:Shape×List (Out×Shape):=(⟨[(0,aa),(1,aV),(2,c7),(3,e7),(10,ao)],sH⟩,[(.norm,⟨[],sH⟩)])
abbrev aa4:List (Nat×VS):=[(1,ao),(6,aV),(39,cD),(40,aa),(41,aa)]
def R3:Shape×List (Out×Shape):=(⟨aa4,oz⟩,[(.ret,⟨[(4,.one (.eg)),(5,aa)],[]⟩),(.exit 0,⟨aa4++[(42,ao)],oz⟩)])
def R4:Shape×List (Out×Shape):=(⟨[(6,aV),(9,aa),(72,ao)],oz⟩,[(.norm,⟨[(6,aV),(9,aa)],oz⟩)])
def R5:Shape×List (Out×Shape):=(⟨[(6,aV),(9,aa),(10,aa),(11,b7),(12,jd),(13,aa),(85,mM),(86,aa),(87,aa),(106,ao)],oz⟩,[(.norm,⟨[(6,aV),(9,aa),(13,aa),(85,mM),(86,aa),(87,aa)],oz⟩)])
abbrev aa5:List (Nat×VS):=[(6,aV),(9,aa),(85,mM),(86,aa),(87,aa)]
def R6:Shape×List (Out×Shape):=(⟨aa5,oz⟩,[(.exit 2,⟨aa5++[(88,ao)],oz⟩)])
def R7:Shape×List (Out×Shape):=(⟨[(0,aV),(3,aa),(4,KN),(5,aa),(7,Qx),(8,aa),(10,jd),(27,AL),(28,aa),(29,aa),(78,ao)],[.var 133 [aa,ao,AL,KJ,Ep,Er,ZK,ZL,aa,En,Zx,Qs,ZM],.dead,.dead,.dead,.dead,.dead,.dead,.map cC,.dead,.dead,.dead,aT,aT,aZ,aZ,aT,aT,aZ,ny,lh,aT,aT]⟩,[(.norm,⟨[(0,aV),(3,aa),(4,KN),(5,aa),(8,aa),(27,we),(28,aa),(29,aa)],QG⟩)])
abbrev aa6:List (Nat×VS):=[(0,aV),(3,aa),(4,KN),(27,we),(28,aa),(29,aa)]
def R8:Shape×List (Out×Shape):=(⟨aa6,QG⟩,[(.ret,⟨uF,QH⟩),(.exit 0,⟨aa6++[(30,ao)],QG⟩)])
abbrev aa7:List (Nat×VS):=[(0,b7),(1,aa),(7,aa),(8,aa)]
def R9:Shape×List (Out×Shape):=(⟨aa7,[]⟩,[(.ret,⟨EE,[]⟩),(.exit 0,⟨aa7++[(9,ao)],[]⟩)])
abbrev aa8:List (Nat×VS):=[(1,aa),(7,b7),(8,aa),(9,aa)]
def Sa:Shape×List (Out×Shape):=(⟨aa8,[]⟩,[(.ret,⟨pg,[]⟩),(.exit 0,⟨aa8++[(10,ao)],[]⟩)])
abbrev aa9:List (Nat×VS):=[(0,dd),(1,aa),(2,aa),(6,aa),(7,aa)]
def Sb:Shape×List (Out×Shape):=(⟨aa9,bC⟩,[(.exit 2,⟨aa9++[(30,ao)],bC⟩)])
abbrev aba:List (Nat×VS):=[(0,dd),(1,aa),(2,aa),(6,aa)]
def Sd:Shape×List (Out×Shape):=(⟨aba,bC⟩,[(.exit 0,⟨aba++[(12,ao)],bC⟩)])
abbrev abb:List (Nat×VS):=[(0,dd),(6,aa),(7,aa),(8,aa),(9,aa)]
def Se:Shape×List (Out×Shape):=(⟨abb,bC⟩,[(.exit 0,⟨abb++[(19,ao)],bC⟩)])
abbrev abc:List (Nat×VS):=[(0,dd),(6,aa),(7,aa),(10,aa)]
def Sf:Shape×List (Out×Shape):=(⟨abc,bC⟩,[(.exit 2,⟨abc++[(30,ao)],bC⟩)])
def Sg:Shape×List (Out×Shape):=(⟨[(0,dd),(1,aa),(6,aa),(7,c7),(8,gf),(9,aa),(10,aa),(43,ao)],KZ⟩,[(.norm,⟨[(0,dd),(1,aa),(6,aa),(7,c7),(8,gf),(9,aa),(10,aa)],KZ⟩)])
abbrev abd:List (Nat×VS):=[(0,dd),(1,aa),(6,aa),(7,c7),(8,gf),(9,aa)]
def Sh:Shape×List (Out×Shape):=(⟨abd,KZ⟩,[(.exit 0,⟨abd++[(33,ao)],KZ⟩)])
def Si:Shape×List (Out×Shape):=(⟨[(0,b7),(9,aV),(10,aa),(11,aa),(12,aa),(34,ao)],fg⟩,[(.norm,⟨[(0,b7),(9,aV),(10,aa),(11,aa),(12,aa)],fg⟩)])
def Sj:Shape×List (Out×Shape):=(⟨[(0,b7),(8,aa),(9,aV),(10,aa),(11,aa),(12,aa),(32,ao)],fg⟩,[(.norm,⟨[(9,aV),(11,aa)],fg⟩)])
abbrev abe:List (Nat×VS):=[(0,dd),(6,aa),(7,aa)]
def Sk:Shape×List (Out×Shape):=(⟨abe,bC⟩,[(.exit 0,⟨abe++[(13,ao)],bC⟩)])
def Sl:Shape×List (Out×Shape):=(⟨QM,bC⟩,[(.exit 2,⟨[(0,dd),(1,aa),(2,aa),(7,aa),(8,aa),(32,ao)],bC⟩)])
def Sm:Shape×List (Out×Shape):=(⟨Z5,bC⟩,[(.exit 4,⟨Z5,bC⟩)])
def Sn:Shape×List (Out×Shape):=(⟨[(0,dd),(1,aa),(2,aa),(7,aa),(8,aa),(61,ao)],bC⟩,[(.norm,⟨QM,bC⟩)])
def So:Shape×List (Out×Shape):=(⟨Z6,bC⟩,[(.exit 6,⟨Z6,bC⟩)])
def Sp:Shape×List (Out×Shape):=(⟨QM,bC⟩,[(.ret,⟨[(6,ao)],bC⟩),(.exit 0,⟨[(0,dd),(1,aa),(2,aa),(7,aa),(8,aa),(14,ao)],bC⟩)])
def Sq:Shape×List (Out×Shape):=(⟨QN,bC⟩,[(.exit 2,⟨[(0,dd),(1,aa),(9,aa),(10,aa),(43,ao)],bC⟩)])
def Sr:Shape×List (Out×Shape):=(⟨QN,bC⟩,[(.exit 4,⟨[(0,dd),(1,aa),(9,aa),(10,aa),(59,ao)],bC⟩)])
def Ss:Shape×List (Out×Shape):=(⟨QN,bC⟩,[(.exit 0,⟨[(0,dd),(1,aa),(9,aa),(10,aa),(64,ao)],bC⟩)])
def Su:Shape×List (Out×Shape):=(⟨EF,bC⟩,[(.exit 0,⟨[(0,dd),(1,aa),(10,aa),(11,aa),(43,ao)],bC⟩)])
def Sv:Shape×List (Out×Shape):=(⟨EF,bC⟩,[(.exit 2,⟨[(0,dd),(1,aa),(10,aa),(11,aa),(60,ao)],bC⟩)])
def Sw:Shape×List (Out×Shape):=(⟨EF,bC⟩,[(.exit 6,⟨[(0,dd),(1,aa),(10,aa),(11,aa),(112,ao)],bC⟩)])
def Sy:Shape×List (Out×Shape):=(⟨EF,bC⟩,[(.exit 8,⟨[(0,dd),(1,aa),(10,aa),(11,aa),(129,ao)],bC⟩)])
def Sz:Shape×List (Out×Shape):=(⟨EF,bC⟩,[(.exit 4,⟨[(0,dd),(1,aa),(10,aa),(11,aa),(134,ao)],bC⟩)])
def SA:Shape×List (Out×Shape):=(⟨[(0,gf),(2,aa),(4,ao)],[]⟩,[(.norm,⟨[(0,gf),(2,aa)],[]⟩)])
def SB:Shape×List (Out×Shape):=(⟨[(0,gf),(2,aa),(8,ao)],[]⟩,[(.norm,⟨[(0,gf),(2,aa)],[]⟩)])
abbrev abf:List (Nat×VS):=[(1,aa),(2,aV),(23,dp),(24,aa),(25,aa)]
def akp:Shape×List (Out×Shape):=(⟨abf,fg⟩,[(.ret,⟨[(6,ao)],fg⟩),(.exit 0,⟨abf++[(26,ao)],fg⟩)])
def akq:Shape×List (Out×Shape):=(⟨[(3,aV),(4,c7),(5,e7),(6,pc),(24,ao)],[pe,Ex,.var 50 [aa,aa,yc],.var 50 [aa,aa,.one (.whole cm 7)],dv,dv,dv,dv]⟩,[(.norm,⟨[(3,aV),(4,c7),(5,e7)],[pe,.var 150 [aa,aa,AP,aa,aa,Eo,ao],.var 50 [aa,aa,AO],dv,dv,dv]⟩)])
def akr:Shape×List (Out×Shape):=(⟨[(0,aV),(3,e7),(5,aa),(28,ao)],yi⟩,[(.norm,⟨[],rl⟩)])
def aks:Shape×List (Out×Shape):=(⟨[(0,aV),(3,e7),(5,aa),(22,ao)],yi⟩,[(.norm,⟨[],rl⟩)])
def akt:Shape×List (Out×Shape):=(⟨[(0,aV),(3,e7),(5,aa),(14,ao)],yi⟩,[(.norm,⟨[],rl⟩)])
def aku:Shape×List (Out×Shape):=(⟨[(0,aV),(3,e7),(5,aa),(10,ao)],yi⟩,[(.norm,⟨[],rl⟩)])
def akv:Shape×List (Out×Shape):=(⟨[(0,aV),(3,e7),(5,aa),(6,ao)],yi⟩,[(.norm,⟨[],rl⟩)])
def SC:Shape×List (Out×Shape):=(⟨[(0,aa),(2,.fn uz [] [.aG 0 0 0]),(3,.fn uA [] [.aG 0 0 0]),(8,c7),(11,e7),(12,pc),(13,aa),(14,aa),(15,nv),(36,aa),(37,aa)],Z0⟩,[(.exit 2,⟨[(0,aa),(2,.fn uz [] [.aG 0 0 0]),(3,.fn uA [] [.aG 0 0 0]),(8,c7),(11,e7),(12,pc),(13,aa),(14,aa),(15,nv),(36,aa),(37,aa),(38,ao)],Z0⟩)])
def SD:Shape×List (Out×Shape):=(⟨[(0,aa),(2,.fn uz [] [.aG 0 0 0]),(3,.fn uA [] [.aG 0 0 0]),(8,c7),(11,e7),(12,pc),(13,aa)],[j6,Ew,.var 188 [KK,.one (.cN jE 7)],yf,bQ,aZ,aT,.map jE,bQ,aZ]⟩,[(.ret,⟨[(8,c7),(9,nv),(10,aa)],[j6,ZR,bQ,aZ,aT]⟩),(.exit 0,⟨[(0,aa),(2,.fn uz [] [.aG 0 0 0]),(3,.fn uA [] [.aG 0 0 0]),(8,c7),(11,e7),(12,pc),(13,aa),(25,ao)],[j6,Ew,.var 188 [KK,.one (.cN jE 7)],yf,bQ,aZ,aT,.map jE,bQ,aZ]⟩)])
abbrev abg:List (Nat×VS):=[(0,KO),(1,dx),(6,aa)]
def akw:Shape×List (Out×Shape):=(⟨abg,[mN]⟩,[(.exit 0,⟨abg++[(12,ao)],[mN]⟩)])
abbrev abh:List (Nat×VS):=[(0,aa),(1,aV),(2,c7),(3,e7),(10,aa),(11,aa)]
def akx:Shape×List (Out×Shape):=(⟨abh,sI⟩,[(.exit 0,⟨abh++[(12,ao)],sI⟩)])
abbrev abi:List (Nat×VS):=[(0,aa),(1,aV),(2,c7),(3,e7),(5,Zt),(6,aa)]
def aky:Shape×List (Out×Shape):=(⟨abi,[pf,wg,uD,gg,mN]⟩,[(.exit 0,⟨abi++[(13,ao)],[pf,wg,uD,gg,mN]⟩)])
abbrev abj:List (Nat×VS):=[(0,b7),(13,b7),(14,aa),(15,aa)]
def SF:Shape×List (Out×Shape):=(⟨abj,[]⟩,[(.ret,⟨[(2,ao)],[]⟩),(.exit 0,⟨abj++[(16,ao)],[]⟩)])
abbrev abk:List (Nat×VS):=[(3,dd),(14,aa),(15,aa)]
def SG:Shape×List (Out×Shape):=(⟨abk,bC⟩,[(.exit 0,⟨abk++[(16,ao)],bC⟩)])
abbrev abl:List (Nat×VS):=[(3,.one (.whole El 0)),(9,b7),(10,aa),(11,aa)]
def SH:Shape×List (Out×Shape):=(⟨abl,[Ey]⟩,[(.exit 0,⟨abl++[(12,ao)],[Ey]⟩)])
abbrev abm:List (Nat×VS):=[(1,b7),(5,dd),(26,b7),(27,aa),(28,aa)]
def SI:Shape×List (Out×Shape):=(⟨abm,bC⟩,[(.exit 0,⟨abm++[(29,ao)],bC⟩)])
def SJ:Shape×List (Out×Shape):=(⟨[(0,dd),(2,aa),(3,aa),(8,aa),(9,aa),(36,ao)],bC⟩,[(.norm,⟨[(0,dd),(2,aa),(3,aa),(8,aa),(9,aa)],bC⟩)])
abbrev SK:List (Nat×VS):=[(0,dd),(2,aa),(3,aa),(8,aa)]
def SL:Shape×List (Out×Shape):=(⟨SK,bC⟩,[(.exit 0,⟨SK++[(9,aa),(16,ao)],bC⟩),(.ret,⟨SK++[(9,aa),(52,ao)],bC⟩)])
abbrev abn:List (Nat×VS):=[(2,aV),(3,c7),(4,e7),(5,AP),(6,Eo),(7,aa),(21,dp),(22,aa),(23,aa)]
def akz:Shape×List (Out×Shape):=(⟨abn,[KR,pe,.var 150 [aa,aa,AO,aa,aa,yc,ao],dv,dv,dv,dv]⟩,[(.exit 0,⟨abn++[(24,ao)],[KR,pe,.var 150 [aa,aa,AO,aa,aa,yc,ao],dv,dv,dv,dv]⟩)])
abbrev abo:List (Nat×VS):=[(2,aV),(4,c7),(5,Qy),(6,AP),(7,ao),(20,dp),(21,aa),(22,aa)]
def akA:Shape×List (Out×Shape):=(⟨abo,[KR,Ex,dv,dv,dv,dv]⟩,[(.exit 0,⟨abo++[(23,ao)],[KR,Ex,dv,dv,dv,dv]⟩)])
abbrev abp:List (Nat×VS):=[(4,aV),(6,KI),(7,ao),(11,Qy),(54,AP),(55,aa),(56,aa)]
def akB:Shape×List (Out×Shape):=(⟨abp,[Ex,dv,dv,dv,dv,dv]⟩,[(.exit 2,⟨abp++[(57,ao)],[Ex,dv,dv,dv,dv,dv]⟩)])
def akC:Shape×List (Out×Shape):=(⟨[(0,aV),(2,jd),(3,aa),(9,e7),(10,dp),(11,aa),(12,aa),(18,ao)],yi⟩,[(.norm,⟨[(0,aV),(2,jd),(3,aa),(9,e7),(10,dp),(11,aa),(12,aa)],yi⟩)])
abbrev abq:List (Nat×VS):=[(0,aV),(2,jd),(3,aa),(10,dp),(11,aa),(12,aa)]
def akD:Shape×List (Out×Shape):=(⟨abq,rl⟩,[(.exit 0,⟨abq++[(13,ao)],rl⟩)])
def akE:Shape×List (Out×Shape):=(⟨[(0,dp),(1,.fn wa [] []),(7,aa),(8,aa)],[]⟩,[(.ret,⟨EE,[]⟩),(.exit 0,⟨[(0,dp),(1,.fn wa [] []),(7,aa),(8,aa),(9,ao)],[]⟩)])
def akF:Shape×List (Out×Shape):=(⟨[(0,b8),(1,.fn v8 [] []),(5,aa),(6,aa)],bp⟩,[(.exit 0,⟨[(0,b8),(1,.fn v8 [] []),(5,aa),(6,aa),(19,ao)],bp⟩)])
abbrev abr:List (Nat×VS):=[(0,aa),(5,b8),(8,dp),(9,aa),(10,aa)]
def akG:Shape×List (Out×Shape):=(⟨abr,bp⟩,[(.exit 0,⟨abr++[(11,ao)],bp⟩)])
def akH:Shape×List (Out×Shape):=(⟨[(0,b8),(1,.fn AI [] []),(5,aa),(6,.one (.sub cm 0)),(7,aa)],bp⟩,[(.exit 2,⟨[(0,b8),(1,.fn AI [] []),(5,aa),(6,.one (.sub cm 0)),(7,aa),(35,ao)],bp⟩)])
def akI:Shape×List (Out×Shape):=(⟨[(0,b8),(1,.fn AI [] []),(5,aa)],bp⟩,[(.ret,⟨[(4,KI)],AV⟩),(.exit 0,⟨[(0,b8),(1,.fn AI [] []),(5,aa),(15,ao)],bp⟩)])
def akJ:Shape×List (Out×Shape):=(⟨[(0,b8),(1,aa),(2,aa),(3,aa),(4,.fn cA [] []),(10,ao),(11,ao),(12,aa),(39,ao)],bp⟩,[(.norm,⟨[(0,b8),(1,aa),(2,aa),(3,aa),(4,.fn cA [] []),(10,ao),(11,ao),(12,aa)],bp⟩)])
def akK:Shape×List (Out×Shape):=(⟨[(0,b8),(1,aa),(2,aa),(3,aa),(4,.fn cA [] []),(10,ao),(11,ao),(12,aa),(13,aa),(14,aa),(56,ao)],bp⟩,[(.norm,⟨[(0,b8),(1,aa),(2,aa),(3,aa),(4,.fn cA [] []),(10,ao),(11,ao),(12,aa),(13,aa),(14,aa)],bp⟩)])
def akL:Shape×List (Out×Shape):=(⟨[(0,b8),(1,aa),(2,aa),(3,aa),(4,.fn cA [] []),(10,ao),(11,ao),(12,aa),(13,aa),(75,ao)],bp⟩,[(.ret,⟨[(0,b8),(1,aa),(2,aa),(3,aa),(4,.fn cA [] []),(10,ao),(11,ao),(12,aa),(13,aa),(80,ao)],bp⟩),(.norm,⟨[(0,b8),(1,aa),(2,aa),(3,aa),(4,.fn cA [] []),(10,ao),(11,ao),(12,aa),(13,aa)],bp⟩)])
def akM:Shape×List (Out×Shape):=(⟨[(0,b8),(1,aa),(2,aa),(3,aa),(4,.fn cA [] []),(10,ao),(11,ao)],bp⟩,[(.ret,⟨[],bp⟩)])
def akN:Shape×List (Out×Shape):=(⟨[(0,dp),(1,dp),(2,.fn cA [] []),(11,dp),(12,aa),(13,aa)],[]⟩,[(.ret,⟨[(6,aa)],[]⟩),(.exit 0,⟨[(0,dp),(1,dp),(2,.fn cA [] []),(11,dp),(12,aa),(13,aa),(14,ao)],[]⟩)])
def akO:Shape×List (Out×Shape):=(⟨[(0,b8),(1,aa),(2,aa),(3,.fn cA [] []),(8,aa),(9,aa)],bp⟩,[(.exit 2,⟨[(0,b8),(1,aa),(2,aa),(3,.fn cA [] []),(8,aa),(9,aa),(34,ao)],bp⟩)])
def akP:Shape×List (Out×Shape):=(⟨[(0,b8),(1,aa),(2,aa),(3,.fn cA [] []),(8,aa)],bp⟩,[(.exit 0,⟨[(0,b8),(1,aa),(2,aa),(3,.fn cA [] []),(8,aa),(14,ao)],bp⟩)])
def akQ:Shape×List (Out×Shape):=(⟨[(0,b8),(3,.fn cA [] []),(8,aa),(9,aa),(10,aa),(11,aa)],bp⟩,[(.exit 0,⟨[(0,b8),(3,.fn cA [] []),(8,aa),(9,aa),(10,aa),(11,aa),(21,ao)],bp⟩)])
def akR:Shape×List (Out×Shape):=(⟨[(0,b8),(3,.fn cA [] []),(8,aa),(9,aa),(12,aa)],bp⟩,[(.exit 2,⟨[(0,b8),(3,.fn cA [] []),(8,aa),(9,aa),(12,aa),(33,ao)],bp⟩)])
def akS:Shape×List (Out×Shape):=(⟨[(0,b8),(1,aa),(8,aa),(9,c7),(10,gf),(11,aa),(12,aa),(45,ao)],K0⟩,[(.norm,⟨[(0,b8),(1,aa),(8,aa),(9,c7),(10,gf),(11,aa),(12,aa)],K0⟩)])
abbrev abt:List (Nat×VS):=[(0,b8),(1,aa),(8,aa),(9,c7),(10,gf),(11,aa)]
def akT:Shape×List (Out×Shape):=(⟨abt,K0⟩,[(.exit 0,⟨abt++[(35,ao)],K0⟩)])
def akU:Shape×List (Out×Shape):=(⟨[(0,dp),(3,.fn cA [] []),(11,aV),(12,aa),(13,aa),(14,aa),(36,ao)],fg⟩,[(.norm,⟨[(0,dp),(3,.fn cA [] []),(11,aV),(12,aa),(13,aa),(14,aa)],fg⟩)])
def akV:Shape×List (Out×Shape):=(⟨[(0,dp),(3,.fn cA [] []),(10,aa),(11,aV),(12,aa),(13,aa),(14,aa),(34,ao)],fg⟩,[(.norm,⟨[(11,aV),(13,aa)],fg⟩)])
abbrev abu:List (Nat×VS):=[(0,b8),(8,aa),(9,aa)]
def akW:Shape×List (Out×Shape):=(⟨abu,bp⟩,[(.exit 0,⟨abu++[(15,ao)],bp⟩)])
def akX:Shape×List (Out×Shape):=(⟨[(0,b8),(1,aa),(2,aa),(3,.fn cA [] []),(9,aa),(10,aa)],bp⟩,[(.exit 2,⟨[(0,b8),(1,aa),(2,aa),(3,.fn cA [] []),(9,aa),(10,aa),(36,ao)],bp⟩)])
def akY:Shape×List (Out×Shape):=(⟨[(0,b8),(1,aa),(2,aa),(3,.fn cA [] []),(9,aa),(10,aa),(11,aa)],bp⟩,[(.exit 4,⟨[(0,b8),(1,aa),(2,aa),(3,.fn cA [] []),(9,aa),(10,aa),(11,aa)],bp⟩)])
def akZ:Shape×List (Out×Shape):=(⟨[(0,b8),(1,aa),(2,aa),(3,.fn cA [] []),(9,aa),(10,aa),(65,ao)],bp⟩,[(.norm,⟨[(0,b8),(1,aa),(2,aa),(3,.fn cA [] []),(9,aa),(10,aa)],bp⟩)])
def ak0:Shape×List (Out×Shape):=(⟨[(0,b8),(1,aa),(2,aa),(3,.fn cA [] []),(9,aa),(10,aa),(12,aa)],bp⟩,[(.exit 6,⟨[(0,b8),(1,aa),(2,aa),(3,.fn cA [] []),(9,aa),(10,aa),(12,aa)],bp⟩)])
def ak1:Shape×List (Out×Shape):=(⟨[(0,b8),(1,aa),(2,aa),(3,.fn cA [] []),(9,aa),(10,aa)],bp⟩,[(.ret,⟨[(8,ao)],bp⟩),(.exit 0,⟨[(0,b8),(1,aa),(2,aa),(3,.fn cA [] []),(9,aa),(10,aa),(16,ao)],bp⟩)])
def ak2:Shape×List (Out×Shape):=(⟨[(0,b8),(1,aa),(4,.fn cA [] []),(11,aa),(12,aa)],bp⟩,[(.exit 2,⟨[(0,b8),(1,aa),(4,.fn cA [] []),(11,aa),(12,aa),(47,ao)],bp⟩)])
def ak3:Shape×List (Out×Shape):=(⟨[(0,b8),(1,aa),(4,.fn cA [] []),(11,aa),(12,aa)],bp⟩,[(.exit 4,⟨[(0,b8),(1,aa),(4,.fn cA [] []),(11,aa),(12,aa),(65,ao)],bp⟩)])
def ak4:Shape×List (Out×Shape):=(⟨[(0,b8),(1,aa),(4,.fn cA [] []),(11,aa),(12,aa)],bp⟩,[(.exit 0,⟨[(0,b8),(1,aa),(4,.fn cA [] []),(11,aa),(12,aa),(70,ao)],bp⟩)])
def ak5:Shape×List (Out×Shape):=(⟨[(0,b8),(1,aa),(4,.fn cA [] []),(12,aa),(13,aa)],bp⟩,[(.exit 0,⟨[(0,b8),(1,aa),(4,.fn cA [] []),(12,aa),(13,aa),(47,ao)],bp⟩)])
def ak6:Shape×List (Out×Shape):=(⟨[(0,b8),(1,aa),(4,.fn cA [] []),(12,aa),(13,aa)],bp⟩,[(.exit 2,⟨[(0,b8),(1,aa),(4,.fn cA [] []),(12,aa),(13,aa),(66,ao)],bp⟩)])
def ak7:Shape×List (Out×Shape):=(⟨[(0,b8),(1,aa),(4,.fn cA [] []),(12,aa),(13,aa)],bp⟩,[(.exit 6,⟨[(0,b8),(1,aa),(4,.fn cA [] []),(12,aa),(13,aa),(120,ao)],bp⟩)])
def ak8:Shape×List (Out×Shape):=(⟨[(0,b8),(1,aa),(4,.fn cA [] []),(12,aa),(13,aa)],bp⟩,[(.exit 8,⟨[(0,b8),(1,aa),(4,.fn cA [] []),(12,aa),(13,aa),(139,ao)],bp⟩)])
def ak9:Shape×List (Out×Shape):=(⟨[(0,b8),(1,aa),(4,.fn cA [] []),(12,aa),(13,aa)],bp⟩,[(.exit 4,⟨[(0,b8),(1,aa),(4,.fn cA [] []),(12,aa),(13,aa),(144,ao)],bp⟩)])
def ala:Shape×List (Out×Shape):=(⟨[(0,b8),(2,aa),(3,aa),(4,.fn cA [] []),(10,aa),(11,aa),(40,ao)],bp⟩,[(.norm,⟨[(0,b8),(2,aa),(3,aa),(4,.fn cA [] []),(10,aa),(11,aa)],bp⟩)])
def alb:Shape×List (Out×Shape):=(⟨[(0,b8),(2,aa),(3,aa),(4,.fn cA [] []),(10,aa)],bp⟩,[(.exit 0,⟨[(0,b8),(2,aa),(3,aa),(4,.fn cA [] []),(10,aa),(11,aa),(18,ao)],bp⟩),(.ret,⟨[(0,b8),(2,aa),(3,aa),(4,.fn cA [] []),(10,aa),(11,aa),(58,ao)],bp⟩)])
def alc:Shape×List (Out×Shape):=(⟨[(0,dp),(1,.fn v8 [] []),(7,aa),(8,aa)],[]⟩,[(.ret,⟨EE,[]⟩),(.exit 0,⟨[(0,dp),(1,.fn v8 [] []),(7,aa),(8,aa),(9,ao)],[]⟩)])
def ald:Shape×List (Out×Shape):=(⟨[(1,.fn Az [] [.aG 0 0 0]),(4,aa),(5,gf),(6,dx),(7,aa),(8,aa)],fg⟩,[(.exit 2,⟨[(1,.fn Az [] [.aG 0 0 0]),(4,aa),(5,gf),(6,dx),(7,aa),(8,aa),(14,ao)],fg⟩)])
def ale:Shape×List (Out×Shape):=(⟨[(1,.fn Az [] [.aG 0 0 0]),(6,dx),(7,aa),(8,aa)],fg⟩,[(.exit 0,⟨[(1,.fn Az [] [.aG 0 0 0]),(6,dx),(7,aa),(8,aa),(9,ao)],fg⟩)])
def alf:Shape×List (Out×Shape):=(⟨[(0,b8),(1,.fn xV [] []),(5,aa),(6,aa)],bp⟩,[(.exit 0,⟨[(0,b8),(1,.fn xV [] []),(5,aa),(6,aa),(19,ao)],bp⟩)])
def alg:Shape×List (Out×Shape):=(⟨[(0,dp),(1,.fn xV [] []),(7,aa),(8,aa)],[]⟩,[(.ret,⟨EE,[]⟩),(.exit 0,⟨[(0,dp),(1,.fn xV [] []),(7,aa),(8,aa),(9,ao)],[]⟩)])
def alh:Shape×List (Out×Shape):=(⟨[(0,b8),(1,.fn wa [] []),(5,aa),(6,aa)],bp⟩,[(.exit 0,⟨[(0,b8),(1,.fn wa [] []),(5,aa),(6,aa),(19,ao)],bp⟩)])
def ali:Shape×List (Out×Shape):=(⟨[(1,.fn AD [] [.aG 0 0 0,.aG 1 0 0,.aG 2 0 0]),(4,aa),(5,gf),(6,dx),(7,aa),(8,aa)],wi⟩,[(.exit 2,⟨[(1,.fn AD [] [.aG 0 0 0,.aG 1 0 0,.aG 2 0 0]),(4,aa),(5,gf),(6,dx),(7,aa),(8,aa),(14,ao)],wi⟩)])
def alj:Shape×List (Out×Shape):=(⟨[(1,.fn AD [] [.aG 0 0 0,.aG 1 0 0,.aG 2 0 0]),(6,dx),(7,aa),(8,aa)],wi⟩,[(.exit 0,⟨[(1,.fn AD [] [.aG 0 0 0,.aG 1 0 0,.aG 2 0 0]),(6,dx),(7,aa),(8,aa),(9,ao)],wi⟩)])
def alk:Shape×List (Out×Shape):=(⟨[(1,.fn AB [] [.aG 0 0 0,.aG 1 0 0,.aG 2 0 0]),(4,aa),(5,gf),(6,dx),(7,aa),(8,aa)],sI⟩,[(.exit 2,⟨[(1,.fn AB [] [.aG 0 0 0,.aG 1 0 0,.aG 2 0 0]),(4,aa),(5,gf),(6,dx),(7,aa),(8,aa),(14,ao)],sI⟩)])
def alm:Shape×List (Out×Shape):=(⟨[(1,.fn AB [] [.aG 0 0 0,.aG 1 0 0,.aG 2 0 0]),(6,dx),(7,aa),(8,aa)],sI⟩,[(.exit 0,⟨[(1,.fn AB [] [.aG 0 0 0,.aG 1 0 0,.aG 2 0 0]),(6,dx),(7,aa),(8,aa),(9,ao)],sI⟩)])
def aln:Shape×List (Out×Shape):=(⟨[(1,.fn AA [] [.aG 0 0 0,.aG 1 0 0]),(4,aa),(5,gf),(6,dx),(7,aa),(8,aa)],qf⟩,[(.exit 2,⟨[(1,.fn AA [] [.aG 0 0 0,.aG 1 0 0]),(4,aa),(5,gf),(6,dx),(7,aa),(8,aa),(14,ao)],qf⟩)])
def alo:Shape×List (Out×Shape):=(⟨[(1,.fn AA [] [.aG 0 0 0,.aG 1 0 0]),(6,dx),(7,aa),(8,aa)],qf⟩,[(.exit 0,⟨[(1,.fn AA [] [.aG 0 0 0,.aG 1 0 0]),(6,dx),(7,aa),(8,aa),(9,ao)],qf⟩)])
def alp:Shape×List (Out×Shape):=(⟨[(1,.fn Aw [] [.aG 0 0 0,.aG 1 0 0]),(4,aa),(5,gf),(6,dx),(7,aa),(8,aa)],qf⟩,[(.exit 2,⟨[(1,.fn Aw [] [.aG 0 0 0,.aG 1 0 0]),(4,aa),(5,gf),(6,dx),(7,aa),(8,aa),(14,ao)],qf⟩)])
def alq:Shape×List (Out×Shape):=(⟨[(1,.fn Aw [] [.aG 0 0 0,.aG 1 0 0]),(6,dx),(7,aa),(8,aa)],qf⟩,[(.exit 0,⟨[(1,.fn Aw [] [.aG 0 0 0,.aG 1 0 0]),(6,dx),(7,aa),(8,aa),(9,ao)],qf⟩)])
def alr:Shape×List (Out×Shape):=(⟨[(1,.fn Ax [] [.aG 0 0 0,.aG 1 0 0,.aG 2 0 0,.aG 3 0 0]),(4,aa),(5,gf),(6,dx),(7,aa),(8,aa)],wj⟩,[(.exit 2,⟨[(1,.fn Ax [] [.aG 0 0 0,.aG 1 0 0,.aG 2 0 0,.aG 3 0 0]),(4,aa),(5,gf),(6,dx),(7,aa),(8,aa),(14,ao)],wj⟩)])
def als:Shape×List (Out×Shape):=(⟨[(1,.fn Ax [] [.aG 0 0 0,.aG 1 0 0,.aG 2 0 0,.aG 3 0 0]),(6,dx),(7,aa),(8,aa)],wj⟩,[(.exit 0,⟨[(1,.fn Ax [] [.aG 0 0 0,.aG 1 0 0,.aG 2 0 0,.aG 3 0 0]),(6,dx),(7,aa),(8,aa),(9,ao)],wj⟩)])
def alu:Shape×List (Out×Shape):=(⟨[(1,.fn Ay [] [.aG 0 0 0,.aG 1 0 0,.aG 2 0 0]),(4,aa),(5,gf),(6,dx),(7,aa),(8,aa)],AW⟩,[(.exit 2,⟨[(1,.fn Ay [] [.aG 0 0 0,.aG 1 0 0,.aG 2 0 0]),(4,aa),(5,gf),(6,dx),(7,aa),(8,aa),(14,ao)],AW⟩)])
def alv:Shape×List (Out×Shape):=(⟨[(1,.fn Ay [] [.aG 0 0 0,.aG 1 0 0,.aG 2 0 0]),(6,dx),(7,aa),(8,aa)],AW⟩,[(.exit 0,⟨[(1,.fn Ay [] [.aG 0 0 0,.aG 1 0 0,.aG 2 0 0]),(6,dx),(7,aa),(8,aa),(9,ao)],AW⟩)])
def alw:Shape×List (Out×Shape):=(⟨[(0,dp),(1,.fn D8 [] []),(7,aa),(8,aa)],[]⟩,[(.ret,⟨EE,[]⟩),(.exit 0,⟨[(0,dp),(1,.fn D8 [] []),(7,aa),(8,aa),(9,ao)],[]⟩)])
def alx:List (Nat×FuncId):=[(3,DU),
 (4,DV),
 (5,uw),
 (6,DW),
 (7,J0),
 (8,ow),
 (9,DX),
 (10,J1),
 (11,J2),
 (12,J3),
 (13,J4),
 (14,J5),
 (15,J6),
 (16,J7),
 (17,Ao),
 (18,ux),
 (19,Qc),
 (20,DY),
 (21,J8),
 (22,Ap),
 (23,J9),
 (24,sF),
 (25,Ka),
 (26,DZ),
 (27,D0),
 (28,D1),
 (29,Kb),
 (30,Kd),
 (31,D2),
 (32,D3),
 (33,uy),
 (34,D4),
 (35,Aq),
 (36,rj),
 (37,Ke),
 (38,Qd),
 (39,Qe),
 (40,Qf),
 (41,Qg),
 (42,Ar),
 (43,Qh),
 (44,Kf),
 (45,aiC),
 (46,aiD),
 (47,Zq),
 (48,aiE),
 (49,aiF),
 (50,Kg),
 (52,Kh),
 (53,Ki),
 (54,Kj),
 (55,Kk),
 (56,D5),
 (57,Kl),
 (58,D6),
 (59,Km),
 (60,As),
 (61,jc),
 (62,D7),
 (63,Kn),
 (64,Ko),
 (65,Kp),
 (66,Qi),
 (67,aiG),
 (68,aiH),
 (69,Kq),
 (70,aiI),
 (71,vZ),
 (72,v5),
 (73,D8),
 (74,Au),
 (75,Kr),
 (76,aiJ),
 (77,aiK),
 (78,aiL),
 (79,aiM),
 (80,v7),
 (81,Av),
 (82,Ks),
 (83,Kt),
 (84,D9),
 (85,Ku),
 (86,Ea),
 (88,Eb),
 (89,Ec),
 (90,Kv),
 (91,Ed),
 (92,Kw),
 (93,Kx),
 (94,jC),
 (95,xU),
 (96,qc),
 (98,Ky),
 (99,qd),
 (100,aiN),
 (101,aiO),
 (102,aiP),
 (103,aiQ),
 (104,aiR),
 (105,aiS),
 (106,Qj),
 (107,Kz),
 (108,uz),
 (109,uA),
 (110,Aw),
 (111,aiT),
 (112,v8),
 (113,Ax),
 (114,Ay),
 (115,Az),
 (116,AA),
 (117,AB),
 (118,AD),
 (119,aiU),
 (120,AE),
 (121,AF),
 (122,KA),
 (123,v9),
 (124,Ee),
 (125,Ef),
 (126,Eg),
 (127,Eh),
 (128,KC),
 (129,KD),
 (130,AG),
 (131,Ei),
 (132,Ej),
 (133,aiV),
 (134,aiW),
 (135,aiX),
 (136,aiY),
 (137,aiZ),
 (138,ai0),
 (139,ai1),
 (140,ai2),
 (141,KE),
 (142,Ek),
 (143,wa),
 (144,AH),
 (145,ai3),
 (146,Qk),
 (147,ai4),
 (148,ai5),
 (149,ai6),
 (150,ai7),
 (151,xV),
 (152,ai8),
 (154,ai9),
 (155,aja),
 (156,ajb),
 (157,cA),
 (158,ajc),
 (159,AI),
 (161,ajd),
 (162,aje),
 (163,ajf),
 (164,ajg),
 (165,ajh),
 (166,aji),
 (167,ajj),
 (168,ajk),
 (169,ajl),
 (170,ajm),
 (171,ajn),
 (172,ajo),
 (173,ajp),
 (174,ajq),
 (175,ajr),
 (197,Ek),
 (198,Qj),
 (199,KE),
 (200,v7),
 (201,Qk),
 (202,KE),
 (203,Qk),
 (204,Zq),
 (205,v7),
 (206,v7),
 (207,v7),
 (208,v7),
 (209,v7),
 (210,v7),
 (211,Qj),
 (212,KE)]
def aly:List (Nat×Shape):=[(3,⟨[(0,AR),(1,nw)],[]⟩),
 (4,⟨[(0,AR),(1,aa)],[]⟩),
 (5,⟨[],[]⟩),
 (6,⟨[(0,jd),(1,aa)],[]⟩),
 (7,⟨[(0,AR),(1,nw)],[]⟩),
 (8,⟨wk,[]⟩),
 (9,⟨[(0,yd),(1,jd)],[]⟩),
 (10,⟨EG,[]⟩),
 (11,⟨EG,[]⟩),
 (12,⟨[(0,cD),(1,b7),(2,cD),(3,b7)],[]⟩),
 (13,⟨QO,[]⟩),
 (14,⟨wk,[]⟩),
 (15,⟨yj,[]⟩),
 (16,⟨QP,[]⟩),
 (17,⟨dV,[]⟩),
 (18,⟨wk,[]⟩),
 (19,⟨[(0,pd),(1,jd)],[]⟩),
 (20,⟨dV,[]⟩),
 (21,⟨wk,[]⟩),
 (22,⟨[(0,jd),(1,aa)],[]⟩),
 (23,⟨[(0,AR),(1,aa),(2,jd)],[]⟩),
 (24,⟨wk,[]⟩),
 (25,⟨[(0,aV),(1,AR)],[.var 60 [.one (.nilS ah),ZE,aa]]⟩),
 (26,⟨sJ,[.var 60 [mM,.one (.whole jD 2),aa],qe,uE]⟩),
 (27,⟨[(0,yd)],[]⟩),
 (28,⟨[(0,yd),(1,jd)],[]⟩),
 (29,⟨EG,[]⟩),
 (30,⟨EH,[]⟩),
 (31,⟨K5,EA⟩),
 (32,⟨yk,bC⟩),
 (33,⟨EH,[]⟩),
 (34,⟨EG,[]⟩),
 (35,⟨K6,[]⟩),
 (36,⟨[(0,aa),(1,aa),(2,aV),(3,c7)],yh⟩),
 (37,⟨QO,[]⟩),
 (38,⟨yj,[]⟩),
 (39,⟨yj,[]⟩),
 (40,⟨lj,[]⟩),
 (41,⟨sJ,EC⟩),
 (42,⟨sJ,EC⟩),
 (43,⟨sJ,EC⟩),
 (44,⟨wk,[]⟩),
 (45,⟨lj,[]⟩),
 (46,⟨[(0,QC)],[]⟩),
 (47,⟨[(0,KO),(1,aa)],[mN]⟩),
 (48,⟨K7,[]⟩),
 (49,⟨[(0,dx),(1,aa)],[]⟩),
 (50,⟨[(0,cD),(1,ao)],[]⟩),
 (52,⟨K6,[]⟩),
 (53,⟨[(0,.agg [.int .i64,.list ax,.int .i64]),(1,b7)],[]⟩),
 (54,⟨[(0,yd)],[]⟩),
 (55,⟨[(0,yd)],[]⟩),
 (56,⟨[(0,b7),(1,b7)],[]⟩),
 (57,⟨[(0,nw),(1,nw)],[]⟩),
 (58,⟨[(0,sG),(1,sG)],[]⟩),
 (59,⟨EH,[]⟩),
 (60,⟨K5,EA⟩),
 (61,⟨K8,bC⟩),
 (62,⟨EI,[]⟩),
 (63,⟨EH,[]⟩),
 (64,⟨EG,[]⟩),
 (65,⟨EH,[]⟩),
 (66,⟨QO,[]⟩),
 (67,⟨lj,[]⟩),
 (68,⟨yj,[]⟩),
 (69,⟨[(0,aV),(1,pd)],EC⟩),
 (70,⟨lj,[]⟩),
 (71,⟨yj,[]⟩),
 (72,⟨lj,[]⟩),
 (73,⟨lj,[]⟩),
 (74,⟨wk,[]⟩),
 (75,⟨wk,[]⟩),
 (76,⟨[(0,QC),(1,dp),(2,dx)],[]⟩),
 (77,⟨K7,[]⟩),
 (78,⟨K7,[]⟩),
 (79,⟨K7,[]⟩),
 (80,⟨[(0,dx),(1,.fn Av [] [.aG 0 0 0,.aG 1 0 0,.aG 2 0 0])],sH⟩),
 (81,⟨K9,sH⟩),
 (82,⟨[(0,cD),(1,ao)],[]⟩),
 (83,⟨sJ,oz⟩),
 (84,⟨sJ,oz⟩),
 (85,⟨K6,[]⟩),
 (86,⟨K6,[]⟩),
 (88,⟨EJ,bC⟩),
 (89,⟨EJ,bC⟩),
 (90,⟨EJ,bC⟩),
 (91,⟨[(0,b7),(1,aa),(2,aa)],[]⟩),
 (92,⟨EJ,bC⟩),
 (93,⟨EJ,bC⟩),
 (94,⟨AX,[]⟩),
 (95,⟨K8,bC⟩),
 (96,⟨K8,bC⟩),
 (98,⟨EI,[]⟩),
 (99,⟨QQ,[.var 22 [Qt],ZN,bQ,Ez]⟩),
 (100,⟨[(0,pd),(1,aa),(2,aV)],fg⟩),
 (101,⟨QP,[]⟩),
 (102,⟨La,[]⟩),
 (103,⟨Lb,[]⟩),
 (104,⟨[(0,aV),(1,pd)],ED⟩),
 (105,⟨sJ,ED⟩),
 (106,⟨[(0,dp),(1,.fn wa [] [])],[]⟩),
 (107,⟨[(0,aa),(1,aa),(2,.fn uz [] [.aG 0 0 0]),(3,.fn uA [] [.aG 0 0 0])],lT⟩),
 (108,⟨[(0,aa),(1,aa),(2,aV)],lT⟩),
 (109,⟨[(0,aa),(1,aV)],lT⟩),
 (110,⟨QQ,K3⟩),
 (111,⟨[(0,KO),(1,dx),(2,aa)],[mN]⟩),
 (112,⟨lj,[]⟩),
 (113,⟨[(0,aa),(1,aV),(2,c7),(3,e7),(4,pc)],wj⟩),
 (114,⟨K9,[KP,.var 89 [.one (.whole uB 3)],ye,mN,gg]⟩),
 (115,⟨[(0,aa),(1,aV)],fg⟩),
 (116,⟨QQ,K3⟩),
 (117,⟨K9,sI⟩),
 (118,⟨K9,wi⟩),
 (119,⟨EI,[]⟩),
 (120,⟨[(0,b7)],[]⟩),
 (121,⟨[(0,aV),(1,b7),(2,aa),(3,aa),(4,jd),(5,aa)],oz⟩),
 (122,⟨dV,[]⟩),
 (123,⟨[(0,b7)],[]⟩),
 (124,⟨[(0,b7),(1,b7)],[]⟩),
 (125,⟨[(0,aV),(1,aa),(2,aa)],oz⟩),
 (126,⟨[(0,aV),(1,aa),(2,aa)],oz⟩),
 (127,⟨K8,bC⟩),
 (128,⟨dV,[]⟩),
 (129,⟨sJ,[KQ]⟩),
 (130,⟨[(0,b7),(1,aa),(2,aV)],fg⟩),
 (131,⟨[(0,b7),(1,aa),(2,aa),(3,aa),(4,aV)],fg⟩),
 (132,⟨dV,[]⟩),
 (133,⟨[(0,dp)],[]⟩),
 (134,⟨[(0,dp)],[]⟩),
 (135,⟨[(0,dp)],[]⟩),
 (136,⟨[],[]⟩),
 (137,⟨Lb,[]⟩),
 (138,⟨Lb,[]⟩),
 (139,⟨[(0,aV),(1,.one (.int .u8))],ED⟩),
 (140,⟨[(0,aV),(1,dp),(2,jd),(3,aa)],ED⟩),
 (141,⟨[(0,dp),(1,.fn wa [] [])],[]⟩),
 (142,⟨K5,[.var 188 [lS,.one (.eu jE)],aT]⟩),
 (143,⟨lj,[]⟩),
 (144,⟨[(0,b7),(1,aa),(2,aa),(3,aV)],fg⟩),
 (145,⟨[],[]⟩),
 (146,⟨[(0,b8),(1,.fn v8 [] [])],bp⟩),
 (147,⟨QP,[]⟩),
 (148,⟨[(0,aa),(1,dp),(2,pd)],[]⟩),
 (149,⟨yl,bp⟩),
 (150,⟨[],[]⟩),
 (151,⟨lj,[]⟩),
 (152,⟨Lb,[]⟩),
 (154,⟨[(0,aV),(1,jd)],ED⟩),
 (155,⟨dV,[]⟩),
 (156,⟨[(0,b8),(1,.fn cA [] [])],bp⟩),
 (157,⟨[(0,pd),(1,pd)],[]⟩),
 (158,⟨[(0,b8),(1,.fn AI [] [])],bp⟩),
 (159,⟨[(0,pd),(1,pd)],[]⟩),
 (161,⟨[(0,b8),(1,aa),(2,aa),(3,aa),(4,.fn cA [] [])],bp⟩),
 (162,⟨AX,[]⟩),
 (163,⟨[(0,dp),(1,dp),(2,.fn cA [] [])],[]⟩),
 (164,⟨[(0,b8),(1,aa),(2,aa),(3,.fn cA [] [])],bp⟩),
 (165,⟨[(0,b8),(1,aa),(2,aa),(3,.fn cA [] [])],bp⟩),
 (166,⟨[(0,b8),(1,aa),(2,aa),(3,.fn cA [] [])],bp⟩),
 (167,⟨[(0,dp),(1,aa),(2,aa),(3,.fn cA [] [])],[]⟩),
 (168,⟨[(0,b8),(1,aa),(2,aa),(3,.fn cA [] [])],bp⟩),
 (169,⟨[(0,b8),(1,aa),(2,aa),(3,.fn cA [] [])],bp⟩),
 (170,⟨[(0,b8),(1,aa),(2,aa),(3,aa),(4,.fn cA [] [])],bp⟩),
 (171,⟨[(0,b8),(1,aa),(2,aa),(3,aa),(4,.fn cA [] [])],bp⟩),
 (172,⟨[(0,b8),(1,aa),(2,aa),(3,aa),(4,.fn cA [] [])],bp⟩),
 (173,⟨[(0,dp),(1,aa),(2,aV),(3,.fn cA [] [])],fg⟩),
 (174,⟨[(0,dp),(1,aa),(2,aa),(3,aa),(4,aV),(5,.fn cA [] [])],fg⟩),
 (175,⟨[(0,dp),(1,aa),(2,aa),(3,aV),(4,.fn cA [] [])],fg⟩),
 (197,⟨K5,[.var 188 [lS,.one (.cN jE 2)],aT,.map jE]⟩),
 (198,⟨[(0,dp),(1,.fn v8 [] [])],[]⟩),
 (199,⟨[(0,dp),(1,.fn v8 [] [])],[]⟩),
 (200,⟨[(0,dx),(1,.fn Az [] [.aG 0 0 0])],fg⟩),
 (201,⟨[(0,b8),(1,.fn xV [] [])],bp⟩),
 (202,⟨[(0,dp),(1,.fn xV [] [])],[]⟩),
 (203,⟨[(0,b8),(1,.fn wa [] [])],bp⟩),
 (204,⟨[(0,.one (.row uB 0 [0])),(1,aa)],[gg]⟩),
 (205,⟨[(0,dx),(1,.fn AD [] [.aG 0 0 0,.aG 1 0 0,.aG 2 0 0])],wi⟩),
 (206,⟨[(0,dx),(1,.fn AB [] [.aG 0 0 0,.aG 1 0 0,.aG 2 0 0])],sI⟩),
 (207,⟨[(0,dx),(1,.fn AA [] [.aG 0 0 0,.aG 1 0 0])],K3⟩),
 (208,⟨[(0,dx),(1,.fn Aw [] [.aG 0 0 0,.aG 1 0 0])],K3⟩),
 (209,⟨[(0,dx),(1,.fn Ax [] [.aG 0 0 0,.aG 1 0 0,.aG 2 0 0,.aG 3 0 0])],wj⟩),
 (210,⟨[(0,dx),(1,.fn Ay [] [.aG 0 0 0,.aG 1 0 0,.aG 2 0 0])],[KP,.var 89 [.one (.whole uB 3)],ye,mN,gg]⟩),
 (211,⟨[(0,dp),(1,.fn D8 [] [])],[]⟩),
 (212,⟨[(0,dp),(1,.fn D8 [] [])],[]⟩)]
def alz:List (Nat×Shape):=[(3,⟨dK,[]⟩),
 (4,⟨dK,[]⟩),
 (5,⟨dK,[]⟩),
 (6,⟨dK,[]⟩),
 (7,⟨QR,K4⟩),
 (8,⟨[(0,yd),(1,aa)],[]⟩),
 (9,⟨dV,[]⟩),
 (10,⟨yk,bC⟩),
 (11,⟨[(0,cD),(1,aa)],[]⟩),
 (12,⟨[(0,dd),(1,ao)],bC⟩),
 (13,⟨yk,bC⟩),
 (14,⟨dV,[]⟩),
 (15,⟨QR,K4⟩),
 (16,⟨lj,[]⟩),
 (17,⟨Lc,bp⟩),
 (18,⟨[(0,Eu)],K4⟩),
 (19,⟨dK,[]⟩),
 (20,⟨dK,[]⟩),
 (21,⟨QR,K4⟩),
 (22,⟨dK,[]⟩),
 (23,⟨dV,[]⟩),
 (24,⟨dV,[]⟩),
 (25,⟨dV,[.var 60 [mM,.one (.whole jD 2),aa],qe,uE]⟩),
 (26,⟨[(0,yd),(1,.one (.list ko)),(2,aa)],[.var 60 [mM,.one (.whole jD 3),aa],yg,.dead,uE]⟩),
 (27,⟨dV,[]⟩),
 (28,⟨dV,[]⟩),
 (29,⟨dK,[]⟩),
 (30,⟨sJ,EA⟩),
 (31,⟨[],EB⟩),
 (32,⟨[],bC⟩),
 (33,⟨dV,[]⟩),
 (34,⟨dK,[]⟩),
 (35,⟨dK,[]⟩),
 (36,⟨dK,[ZO,.var 33 [Et],.dead,.dead,aT,Ez]⟩),
 (37,⟨dK,[]⟩),
 (38,⟨dV,[]⟩),
 (39,⟨sJ,EC⟩),
 (40,⟨lj,[]⟩),
 (41,⟨dK,KW⟩),
 (42,⟨dV,KW⟩),
 (43,⟨[(0,.agg [.int .i64,.int .i64,.whole ax 4,.whole ah 5])],[.var 119 [aa,yc,AK,aa,yb],.dead,.dead,.map cC,bQ,aZ,dv]⟩),
 (44,⟨[(0,Eu),(1,xZ)],[bQ,aZ,aT]⟩),
 (45,⟨dK,[]⟩),
 (46,⟨[(0,KO)],[mN]⟩),
 (47,⟨[],[mN]⟩),
 (48,⟨EK,[gg]⟩),
 (49,⟨dK,[]⟩),
 (50,⟨[(0,.agg [.int .i64,.bool,.whole ah 0,.whole ah 1,.whole ae 2,.whole ae 3,.whole ah 4,.whole dU 5,.int .i64]),(1,aa)],[aZ,aZ,aT,aT,aZ,ny]⟩),
 (52,⟨dK,[]⟩),
 (53,⟨dK,[]⟩),
 (54,⟨dK,[]⟩),
 (55,⟨[(0,Eu)],[bQ,qe]⟩),
 (56,⟨dK,[]⟩),
 (57,⟨dK,[]⟩),
 (58,⟨dK,[]⟩),
 (59,⟨dK,[]⟩),
 (60,⟨[],[.var 71 [cD,lS,Qr,Et],aT,.dead,.dead,bQ,aT]⟩),
 (61,⟨[],bC⟩),
 (62,⟨dV,[]⟩),
 (63,⟨dV,[]⟩),
 (64,⟨dK,[]⟩),
 (65,⟨yk,bC⟩),
 (66,⟨dK,[]⟩),
 (67,⟨dK,[]⟩),
 (68,⟨dK,[]⟩),
 (69,⟨dV,KW⟩),
 (70,⟨lj,[]⟩),
 (71,⟨yj,[]⟩),
 (72,⟨[(0,jd)],[]⟩),
 (73,⟨dK,[]⟩),
 (74,⟨[(0,Eu),(1,xZ)],[bQ,aZ,aT]⟩),
 (75,⟨yk,bC⟩),
 (76,⟨EK,[gg]⟩),
 (77,⟨EK,[gg]⟩),
 (78,⟨EK,[gg]⟩),
 (79,⟨EK,[gg]⟩),
 (80,⟨[],sH⟩),
 (81,⟨[],sH⟩),
 (82,⟨[(0,aV),(1,.one (.Ck .i64 0))],oz⟩),
 (83,⟨dK,QH⟩),
 (84,⟨dV,QH⟩),
 (85,⟨dV,[]⟩),
 (86,⟨dK,[]⟩),
 (88,⟨[],bC⟩),
 (89,⟨[],bC⟩),
 (90,⟨[],bC⟩),
 (91,⟨AX,[]⟩),
 (92,⟨[],bC⟩),
 (93,⟨dK,bC⟩),
 (94,⟨dK,[]⟩),
 (95,⟨dV,bC⟩),
 (96,⟨[(0,aa),(1,ao)],bC⟩),
 (98,⟨dV,[]⟩),
 (99,⟨[],[.var 22 [Qr],.var 33 [Et],.dead,.dead,bQ,Ez]⟩),
 (100,⟨dK,fg⟩),
 (101,⟨lj,[]⟩),
 (102,⟨yj,[]⟩),
 (103,⟨La,[]⟩),
 (104,⟨[],rl⟩),
 (105,⟨[(0,jd)],[.var 156 [xX,xX],.dead]⟩),
 (106,⟨dK,[]⟩),
 (107,⟨[(0,.agg [.int .i64,.int .i64,.whole ax 1,.whole ah 2]),(1,ox),(2,aa)],[j6,bQ,aZ,aT]⟩),
 (108,⟨dV,lT⟩),
 (109,⟨dK,lT⟩),
 (110,⟨[],qf⟩),
 (111,⟨[],[mN]⟩),
 (112,⟨dK,[]⟩),
 (113,⟨[],wj⟩),
 (114,⟨[],AW⟩),
 (115,⟨[],fg⟩),
 (116,⟨[],qf⟩),
 (117,⟨[],sI⟩),
 (118,⟨[],wi⟩),
 (119,⟨dV,[]⟩),
 (120,⟨dK,[]⟩),
 (121,⟨dV,QI⟩),
 (122,⟨yk,bC⟩),
 (123,⟨[(0,jd)],[]⟩),
 (124,⟨yk,bC⟩),
 (125,⟨dV,QI⟩),
 (126,⟨dK,QI⟩),
 (127,⟨[],bC⟩),
 (128,⟨EI,[]⟩),
 (129,⟨EI,[KQ]⟩),
 (130,⟨dV,fg⟩),
 (131,⟨dV,fg⟩),
 (132,⟨dK,[]⟩),
 (133,⟨lj,[]⟩),
 (134,⟨lj,[]⟩),
 (135,⟨lj,[]⟩),
 (136,⟨Lc,bp⟩),
 (137,⟨La,[]⟩),
 (138,⟨La,[]⟩),
 (139,⟨[(0,xX)],rl⟩),
 (140,⟨[],rl⟩),
 (141,⟨dV,[]⟩),
 (142,⟨dV,[.var 188 [xZ,.one (.cN jE 3)],.dead,aT,.map jE]⟩),
 (143,⟨dK,[]⟩),
 (144,⟨AX,fg⟩),
 (145,⟨Lc,bp⟩),
 (146,⟨EL,AV⟩),
 (147,⟨yl,bp⟩),
 (148,⟨lj,[]⟩),
 (149,⟨EL,AV⟩),
 (150,⟨Lc,bp⟩),
 (151,⟨dK,[]⟩),
 (152,⟨lj,[]⟩),
 (154,⟨[(0,aa),(1,xX)],rl⟩),
 (155,⟨dV,[]⟩),
 (156,⟨[],bp⟩),
 (157,⟨dV,[]⟩),
 (158,⟨EL,AV⟩),
 (159,⟨dK,[]⟩),
 (161,⟨[],bp⟩),
 (162,⟨dV,[]⟩),
 (163,⟨dV,[]⟩),
 (164,⟨[],bp⟩),
 (165,⟨[],bp⟩),
 (166,⟨[],bp⟩),
 (167,⟨AX,[]⟩),
 (168,⟨[],bp⟩),
 (169,⟨dK,bp⟩),
 (170,⟨dV,bp⟩),
 (171,⟨[(0,aa),(1,ao)],bp⟩),
 (172,⟨[],bp⟩),
 (173,⟨dV,fg⟩),
 (174,⟨dV,fg⟩),
 (175,⟨AX,fg⟩),
 (197,⟨dV,[.var 188 [ox,.one (.cN jE 2)],.dead,.map jE,aT]⟩),
 (198,⟨dK,[]⟩),
 (199,⟨dV,[]⟩),
 (200,⟨[],fg⟩),
 (201,⟨EL,AV⟩),
 (202,⟨dV,[]⟩),
 (203,⟨EL,AV⟩),
 (204,⟨[],[gg]⟩),
 (205,⟨[],wi⟩),
 (206,⟨[],sI⟩),
 (207,⟨[],qf⟩),
 (208,⟨[],qf⟩),
 (209,⟨[],wj⟩),
 (210,⟨[],AW⟩),
 (211,⟨dK,[]⟩),
 (212,⟨dV,[]⟩)]
def alA:List (Nat×Shape):=[(82,⟨[(0,.one (.eg)),(1,aa)],[]⟩),
 (146,⟨yl,bp⟩),
 (149,⟨yl,bp⟩),
 (158,⟨yl,bp⟩),
 (201,⟨yl,bp⟩),
 (203,⟨yl,bp⟩)]
def alB (n:Nat):List Nat:=(List.range (n.log2+1)).filter n.testBit
def abv:Nat→List Nat→List (Nat×List Nat)
 | _,[]=>[]
 | i,n::l=>(i,alB n)::abv (i+1) l
def SM (l:List (Nat×List Nat)):List (Nat×List (Nat×List Nat)):=l.map fun e=>(e.1,abv 0 e.2)
def alC:List (Nat×List (Nat×List Nat)):=SM [(3,[6,137438953478,16,3848290697222,8246337208326,3848290697286,18018246800179206,16,3848290697222,390,1922,7938,19807040628566084398385990146,16,10754,554597137599850363154807663104,1188422437713965063903159265792,554597137599850363154807695872,554597137599850363154807663104,554597137599850363154807663104,76288,468992,2658455991569831745807614120560896000,16,37218383881977644441306597687849854976,79753679747094952374228423616820881408,37218383881977644441306597687851427840,4801171520775116132928551101732606388224,10245689391510131548342544820640897771520,4801171520775116132928551101732612679680,353250315247816102719424149111863257016320,37218383881977644441306597687849854976,4801171520775116132928551101732606388224,37218383881977644441306597687849854976,25298944,16]),
 (4,[6,16]),
 (5,[0,6,1]),
 (6,[3,8195,16,35,131107,35,4294967331,16,16]),
 (7,[22,214,2097366,48,2147483734,48,60129542230,128849018966,60129542742,8856222564438,48,60129542230,1106,108086391056893010,252201579132748882,108086391056895058,108086391056899154,32389888520048614482,69283376667467717714,32389888520048639058,32389888520048614482,32389888520048614482,108086391056893010,108086391056893010,48]),
 (9,[6,134,16,16]),
 (10,[3,2051,16,34,114720,245792,114848,114720,114720,32,16]),
 (11,[3,67,524355,48,536870915,48,131,51539607683,120259084419,51539607939,51539607683,51539607683,30786325577859,65970697666691,30786325579395,576491538629002883,48,30786325577859,30786325577859,2179,2066035336255469783171,4427218577690292390019,2066035336255469795459,2066035336255469795459,16927027509941063915681923,36269840623775130710980739,16927027509941063915731075,16927027509941063915698307,2596148446194441324206312080291971,48,16927027509941063915681923,2066035336255469783171,48]),
 (13,[7,131078,64,132,14680192,31457408,14680704,14680192,14680192,1152,15032386560,32212255744,15032392704,289910295552,15032386560,15032386560,64]),
 (14,[2,10,16394,4,65546,4,68719476746,4,1924145348618,4123168604170,1924145348650,283399122059306,4,3942573819297802,8446173446668298,3942573819297930,2309785583032991754,4,3942573819297802,1924145348618,4]),
 (15,[22,86,8278,48,144,4194448,400,67109264,48,48]),
 (16,[19,16]),
 (17,[5,4]),
 (18,[6,134,4,12,4]),
 (19,[6,16390,16,38,102,102,16]),
 (20,[1,4]),
 (21,[6,22,278,12,12]),
 (22,[3,65539,16,786435,1835011,786467,17180655619,16,786435,16]),
 (23,[14,268435470,64,3221225486,7516192782,3221225614,3221225486,3221225486,64]),
 (24,[2,32770,4,10,1048586,4,68719476746,4,1924145348618,4123168604170,1924145348650,283399122059306,4,3942573819297802,8446173446668298,3942573819297930,2309785583032991754,4,3942573819297802,1924145348618,4]),
 (26,[5,101,134217829,28,165,17179869349,28,421,933,36028797018964901,933,933,933,541598767187353870268367269,1160568786830044007717929381,541598767187353870268370341,541598767187353870268368293,541598767187353870268368293,541598767187353870268368293,541598767187353870268372389,664613998434056703639257400408544677,541598767187353870268372389,541598767187353870268372389,541598767187353870268367269,8613,40922045845265281709703175316055924550366111211940,87690098239854175092221089962976981179355952587172,40922045845265281709703175316055924550366111261092,40922045845265281709703175316055924550366111261092,335274321610258453047598115364446189841149549088924068,718398206826730667637184872152023485745834329634824612,335274321610258453047598115364446189841149549089120676,335274321610258453047598115364446189841149549088924068,335274321610258453047598115364446189841149549088924068,40922045845265281709703175316055924550366111211940,28]),
 (27,[2,514,4,26,67108874,4,1879048202,4026531850,1879048298,4399925559306,4,1879048202,9444732965739290427392,4,4]),
 (28,[6,2054,16,38,24614,57382,24678,24614,24614,16]),
 (29,[3,16]),
 (30,[1,4]),
 (31,[16387,19,19,19,51,549755813939,51,17592186044467,51,516508834063867445299,1106804644422573097011,516508834063867445427,516508834063867445299,516508834063867445299]),
 (32,[5,0]),
 (33,[1,9,137,4,8192,4,4]),
 (34,[3,897,1921,961,1049473,16,897,16]),
 (35,[3,898,1922,962,525186,16,898,16]),
 (37,[7,64]),
 (38,[6,1030,16,8198,16,131072,16,16]),
 (39,[6,38,36,32,16]),
 (40,[6,38,4,4]),
 (41,[1,4]),
 (42,[1,9,196617,458761,196633,196729,274878103673,4,197049,2251799813882041,288230376151908409,4,196761,196617,196617,1,0,4]),
 (43,[5,13,14680076,31457292,14680108,14680076,14680076,4]),
 (44,[6,54,118,246,1879048438,4026532086,1879049206,551634862582,1879049718,985164297537014,2111064204379638,985164297543158,985164297537014,985164297537014,1879049462,1879048438,1879048438,24676,57444,1083197534374707740536791108,2321137573660088015435915332,1083197534374707740536987716,1083197534374707740536987716,317995847591432058114712789060,1083197534374707740536791108,1083197534374707740536791108,12]),
 (45,[2,4]),
 (46,[2,4]),
 (47,[0]),
 (48,[28,540,1564,64,131612,64,67109404,67109404,64,8589934620,64,156,128,64]),
 (49,[3,16]),
 (50,[19,208,65744,48,2097232,336,33554768,48,48]),
 (52,[3,16]),
 (53,[6,16]),
 (54,[2,10,16777226,4,2251799813685258,4,63050394783186954,135107988821114890,63050394783186986,295210955574136012810,4,63050394783186954,4]),
 (55,[6,14,3670030,7864334,3670078,3670078,120262754366,257701707838,120262754558,120262754366,120262754366,3670030,4]),
 (56,[3,1027,16,12291,28675,12323,16789507,16,12291,16]),
 (57,[3,1027,16,12291,28675,12323,16789507,16,12291,16]),
 (58,[3,1027,16,12291,28675,12323,16789507,16,12291,16]),
 (59,[1,4]),
 (60,[2051,3,0]),
 (61,[271,783,1807,8390415,0,536872719,0,34359740175,1807,1807,7951,1125899906850575,3855,3855,7951,295147905179352829711,4722366482869645217551,154742504910672534362394383,8973,783,50191,17935,214543,475663,10384593717069655257060992658915855,17167,17165,783,17167,17163,783]),
 (62,[1,4,4]),
 (63,[1,513,4,4097,4,57345,122881,57361,8445969,4,117497857,251715585,117497921,137556451329,4,117497857,57345,4]),
 (64,[3,35,458785,983073,458913,34013345,458913,3758555297,8053522593,3758555809,3758556833,246294363178657,527769339889313,246294363184801,1153167798970025633,16,246294363178657,3758555297,458785,16]),
 (66,[7,4194311,64,58720262,125829126,58720646,7574913158,16164847750,7574914694,18014406084395142,64,7574913158,58720262,64]),
 (67,[2,10,4]),
 (68,[6,518,16,134217734,16,536870918,16,1610612742,1610612742,16,137975824390,137975824390,137975824390,17592186044422,16,35184908959750,35184372088838,2251799813685254,16,63050394783186946,135107988821114882,63050394783187010,4674736413210574850,16,63050394783186946,16]),
 (69,[9,41,41,32,16]),
 (70,[6,518,4,14,7340046,15728654,7340094,7340046,7340046,4]),
 (71,[22,48]),
 (72,[2,66,4,10,8,4]),
 (73,[2,66,194,194,4,1090,4,32834,32834,3670016,7864320,3670032,137887744,4,3670016,4,536870914,4,4]),
 (74,[6,8198,12,54,180,6442451124,15032385716,6442451380,6442451124,6442451124,3848290697364,8246337208468,3848290698900,3848290697364,3848290697364,12]),
 (75,[2,262146,4,26,117440538,251658266,117440634,68836917306,117440538,117440538,154,410,492581209244058,1055531162665370,492581209245594,492581209247642,2018105214271228826,4323948223484922778,2018105214271241114,2018105214271228826,2018105214271228826,492581209295770,1208925820107210383969178,492581209263002,492581209260954,492581209244058,492581209244058,19807040628566084398385987970,4,26]),
 (76,[14,142,7340172,15728780,7340684,7341708,7341708,7342732,7346316,7340172,7340172,64]),
 (77,[28,412,408,920,268436376,920,920,1288,3336,7432,281474976718088,7432,15624,15624,15624,7432,64]),
 (78,[28,156,7340188,15728796,7340700,7341212,7340188,7340188,64]),
 (79,[28,140,396,128,64]),
 (80,[450,962,498,16882,498,498,450]),
 (81,[15,1039,0,1048581,0]),
 (82,[3,4194307,48,67,67,3848290697282,8246337208386,3848290697538,144119036366553410,48,3848290697282,3848290697282,578,4722366482869645214272,576,270799383593676935134184000,580284393415022003858965056,270799383593676935134187072,270799383593676935134191168,270799383593676935134215744,81129909213990275372724139343424,270799383593676935134192192,270799383593676935134192192,270799383593676935134184000,270799383593676935134184000,48]),
 (83,[1,4]),
 (84,[1,9,25,939524121,2013265945,939524217,939524281,939525049,939526073,73786976295777732537,4,302231454903658233202105,939524409,158456325028528675188027426105,939524409,939524121,939524121,1,0,4]),
 (85,[3,387,899,419,65955,16,387,16]),
 (86,[3,898,1922,962,525186,16,898,16]),
 (88,[71,4167,71,199,1073742023,199,199]),
 (89,[71,199,449,961,525249,961,961,1217,1073743041,1217,1217,1217]),
 (90,[67,32835,195,451,963,8589935555,963,1987,8796093024195,1987,963]),
 (91,[7,259,771,1795,3843,7937,4294975233,17179876865,7681,7681,7681,2560,562949953423360,192,2814749767108608,192,18014398509484032,192]),
 (92,[69,193,8385,193,193,193]),
 (93,[7,135,391,16775,391,4294967687,391,137438953863,64,2199023255943,64,391,2305843009213694343,903,36893488147419104135,903,302231454903657293677447,903,316912650057057350374175801735,1415,10141204801825835211973625644423,1415,83076749736557242056487941267522951,1415,64]),
 (94,[3,16]),
 (95,[15,7,1539,8796093023747,1539,576460752303425027,1539,18446744073709553155,1539,1539,1539,256]),
 (96,[15,7,3075,8796093025283,3075,1152921504606850051,3075,36893488147419106307,2048,768,3075,3075,3075,5192296858534827628530496329223171,3075,680564733841876926926749214863536425987,3075,21778071482940061661655974875633165536259,3075,3075,3075,2048,768]),
 (98,[5,21,1,5,261,5,5,16389,5,5,4]),
 (100,[14,65550,64,14,58720262,125829126,58720518,17238589446,64,58720262,64]),
 (101,[19,83,211,16,2131,16,32787,16,2097171,16,49,67108912,201326640,137438953520,16,16,35184372088880,140737488355376,16,144115188075855920,16,16,16]),
 (102,[6,134,12,12]),
 (103,[28,124,4220,12412,16,266364,16777336,56,16,2147487804,2147487804,2147487804,16,274877911100,144,400,16,144115188075855932,16,16]),
 (104,[9,41,105,0,1065,0,16425,0,4194345,0,268435497,0,17179869225,0,1099511627817,9,0,281474976710665,1,0]),
 (105,[1,4]),
 (106,[3,16]),
 (107,[271,2319,2317,6413,14605,33569037,14605,30989,63757,206158493965,481036400909,206158559501,206158493965,206158493965,4503599627434253,1792,30989,14605,1792]),
 (108,[7,32]),
 (109,[3,8]),
 (110,[0]),
 (111,[67,4163,67,67]),
 (112,[2,4]),
 (113,[93,69,0]),
 (114,[4109,0]),
 (115,[0]),
 (116,[135,0]),
 (117,[3087,7183,3119,68655,3087,3087,3087]),
 (118,[47,111,8303,111,111,47,41,0]),
 (119,[1,17,4,4]),
 (120,[1,4097,4,57345,122881,57361,67166209,4,57345,4]),
 (121,[63,8255,8255,8253,8249,8241,8225,8192,4096]),
 (122,[1,1025,4,8,49160,114696,49176,49160,49160,4]),
 (123,[1,9,3592,7688,3640,3592,3592,4]),
 (124,[3,4194307,16,35,469762082,1006632994,469762274,469762082,469762082,16]),
 (125,[7,263,64,64]),
 (126,[7,135,64]),
 (127,[269,781,66317,68719477517,781,4503599627371277,525,269]),
 (128,[1,4]),
 (129,[1,1,1,1,4]),
 (130,[7,64]),
 (131,[31,31,23,4,1024]),
 (132,[1,4]),
 (133,[5,37,4,12,4]),
 (134,[5,37,4,12,4]),
 (135,[5,37,4,12,4]),
 (136,[1,1]),
 (137,[28,124,252,14680316,31457532,14681084,14681596,14681340,4398061191420,14680316,14680316,2200,72057594037930136,216172782113786008,2064,4683743612465318040,2064,1180591620717411305616,2064,16]),
 (138,[28,60,124,252,7340276,15728884,7341044,275776500,7340276,7341428,7340276,7340276,2288,126100789566376144,270215977642232016,126100789566388432,9349472826421164240,126100789566376144,126100789566396624,126100789566376144,126100789566376144,16]),
 (139,[3,3,0,16]),
 (140,[7181,15373,7949,269837,7693,67116557,7181,7693,7181,7181,7181]),
 (141,[3,387,899,419,65955,16,387,16]),
 (142,[3,99,131107,4194307,3,35,35,32,16]),
 (143,[2,4]),
 (144,[15,262158,6,768,768]),
 (145,[1,1]),
 (146,[3,35,4131,16,99,524387,99,227,536871139,99,99,33,16]),
 (147,[3,35,1825,3873,1953,133025,1825,1825,1825,16]),
 (148,[99,355,867,64,4163,64,64]),
 (149,[1,1,4]),
 (150,[1,1]),
 (151,[2,4]),
 (152,[28,88,16,16]),
 (154,[3,3,2,48]),
 (155,[1,8,24,4,72,4,264,4,1032,4,4096,4,4]),
 (156,[19,0]),
 (157,[12,524,16,524300,16,16]),
 (158,[3,1027,16,35,32803,35,268435491,99,227,34359738595,227,562949953421539,227,227,33,16,16]),
 (159,[12,16]),
 (161,[1055,3103,7199,33561631,0,4294974495,0,549755821087,7199,7199,31775,72057594037959711,15391,15391,31775,37778931862957161724959,1208925819614629174721567,158456325028528675187087916063,35869,3103,200735,71711,858143,1902623,42535295865117307932921825928972929055,68639,68637,3103,68639,68635,3103]),
 (162,[3,35,99,2115,4096,16,16,8195,16,65539,16,524288,16,16]),
 (163,[7,14343,30727,14727,2111879,64,15111,15367,2147499015,64,14343,274877906944,64,64]),
 (164,[271,16655,271,783,17179869967,783,783]),
 (165,[271,783,1801,3849,2101001,3849,3849,4873,8589939465,4873,4873,4873]),
 (166,[259,131331,771,1795,3843,34359742211,3843,7939,35184372096771,7939,3843]),
 (167,[15,1035,3083,7179,15371,31753,17179900937,68719507465,30729,30729,30729,10240,36028797018972160,768,180143985094828032,768,1152921504606855168,768]),
 (168,[261,769,33537,769,769,769]),
 (169,[15,527,1551,67087,1551,68719478287,1551,2199023257103,256,35184372090383,256,1551,36893488147419104783,3599,590295810358705655311,3599,19342813113834066795302415,3599,20282409603651670423947251287567,5647,649037107316853453566312041158159,5647,21267647932558653966460912964485518863,5647,256]),
 (170,[31,23,6163,140737488361491,6163,36893488147419109395,6163,1180591620717411309587,6163,6163,6163,1024]),
 (171,[31,23,12307,140737488367635,12307,73786976294838218771,12307,2361183241434822619155,8192,3072,12307,12307,12307,1329227995784915872903807060280356883,12307,696898287454081973172991196020261297074195,12307,22300745198530623141535718272648361505992723,12307,12307,12307,8192,3072]),
 (172,[1053,3101,265245,1099511630877,3101,288230376151714845,2077,1053]),
 (173,[15,256]),
 (174,[63,63,55,4,4096]),
 (175,[31,4194318,6,3072,3072])]++[(8,[(0,[1,2]),(1,[1,2,4]),(2,[1,2,4,13]),(3,[2,3]),(4,[1,2,5,2000011]),(5,[2,5,6,2000011]),(6,[2,5,6,20,2000011]),(7,[2,3]),(8,[2,7,8,9]),(9,[2,7,8,9,29]),(10,[2,3]),(11,[2,7]),(12,[2,3])]),(12,[(0,[0,1,2,3]),(1,[0,1,2,3,49]),(2,[8,9]),(3,[0,1,2,3,10]),(4,[0,1,2,3,10,54,55]),(5,[0,1,2,3,10,54,55,56]),(6,[0,1,2,3,10,11,54,55]),(7,[0,1,2,3,10,54,55]),(8,[0,1,2,3,10,54,55]),(9,[0,1,2,3,10,12,1000015]),(10,[0,1,2,3,10,12,13,1000015]),(11,[0,2,3,10,12,13,63,64,65,1000015]),(12,[0,2,3,10,12,13,63,64,65,66,1000015]),(13,[0,2,3,10,12,13,14,15,63,64,65,1000015]),(14,[0,2,3,10,12,13,63,64,65,77,1000015]),(15,[8,9]),(16,[0,2,3,10,12,13,63,64,65,1000015]),(17,[0,2,10,12,13,16,1000015]),(18,[0,2,10,12,13,16,17,1000015]),(19,[0,2,10,12,13,16,17,88,1000015]),(20,[0,2,10,12,13,16,17,1000015]),(21,[0,2,10,12,13,16,17,18,1000015]),(22,[0,2,10,12,13,16,17,18,95,96,97,1000015]),(23,[0,2,10,12,13,16,17,18,95,96,97,98,1000015]),(24,[0,2,10,12,13,16,17,18,20,95,96,97,1000015]),(25,[0,2,10,12,13,16,17,18,95,96,97,123,1000015]),(26,[8,9]),(27,[0,2,10,12,13,16,17,18,95,96,97,1000015]),(28,[10,129]),(29,[8,9]),(30,[8,9])]),(25,[(0,[0,3,2000006]),(1,[0,3,5,2000006]),(2,[0,3,5,17,2000006]),(3,[4]),(4,[0,3,5,22,2000006]),(5,[0,3,5,2000006]),(6,[0,3,5,33,34,2000006]),(7,[0,3,5,33,34,35,2000006]),(8,[0,3,5,6,33,34,2000006]),(9,[0,3,5,6,33,34,37,38,2000006]),(10,[0,3,5,6,33,34,37,38,39,2000006]),(11,[0,3,5,6,7,33,34,37,38,2000006]),(12,[0,3,5,6,33,34,37,38,2000006]),(13,[0,3,5,6,33,34,37,38,2000006]),(14,[0,3,5,33,34,2000006]),(15,[0,5,2000006]),(16,[]),(17,[4])]),(36,[(0,[0,1,2,3,3000010]),(1,[0,1,2,3,11,3000010]),(2,[0,1,2,3,3000010]),(3,[0,1,2,3000010]),(4,[6,3000010]),(9999,[3000010])]),(65,[(0,[0]),(1,[0,3,4,1000007]),(2,[0,3,4,5,1000007]),(3,[0,3,4,5,6,1000007]),(4,[0,3,4,5,6,7,1000007]),(5,[0,3,4,5,6,7,17,18,1000007]),(6,[0,3,4,5,6,7,17,18,19,1000007]),(7,[0,3,4,5,6,7,8,17,18,1000007]),(8,[0,3,4,5,6,7,8,17,18,24,1000007]),(9,[0,3,4,5,6,7,8,17,18,1000007]),(10,[0,3,4,5,6,7,17,18,1000007]),(11,[0,3,4,5,6,7,17,18,35,1000007]),(12,[0,3,4,5,6,7,17,18,1000007]),(13,[0,3,4,5,6,7,9,17,18,1000007]),(14,[0,3,4,5,6,7,9,17,18,45,46,47,1000007]),(15,[0,3,4,5,6,7,9,17,18,45,46,47,48,1000007]),(16,[0,3,4,5,6,7,9,11,17,18,45,46,47,1000007]),(17,[0,3,4,5,6,7,9,11,17,18,45,46,47,1000007]),(18,[0,3,4,5,6,7,9,17,18,45,46,47,1000007]),(19,[0,3,4,5,6,7,9,17,18,45,46,47,1000007]),(20,[0,3,4,5,6,7,17,18,1000007]),(21,[2])]),(99,[(0,[0,1,2,8,3000010]),(1,[0,2,3000010]),(2,[3000010]),(9999,[3000010])])]
def alD:List (Nat×List (Nat×List Nat)):=SM [(3,[0,0,0,0,0,0,0,0,0,0,0,0,0,0,0,0,0,0,0,0,0,0,0,0,0,0,0,0,0,0,0,0,0,0,0,0,0,6,0,0,0,0,3848290697222,0,0,0,0,0,0,0,0,0,0,0,3848290697222,0,0,0,0,0,0,0,0,0,0,0,0,0,0,0,0,0,0,0,0,0,0,0,0,0,0,0,0,0,0,0,0,0,0,0,0,0,0,0,2562,0,0,0,0,554597137599850363154807663104,0,0,0,0,0,0,0,0,0,0,0,0,0,0,0,0,0,0,0,0,0,206848,0,0,0,37218383881977644441306597687849854976,0,0,0,0,0,0,4801171520775116132928551101732606388224,0,0,0,0,0,4801171520775116132928551101732606388224]),
 (4,[]),
 (5,[]),
 (6,[0,0,0,0,0,0,0,0,0,0,0,0,0,3,0,0,0,35,0,0,0,0,0,0,0,0,0,0,0,0,0,0,35]),
 (7,[0,0,0,0,0,0,0,0,0,0,0,0,0,0,0,0,0,0,0,0,0,86,0,0,0,0,0,0,0,0,0,86,0,0,0,0,60129542230,0,0,0,0,0,0,60129542230,0,0,0,0,0,0,0,0,0,0,0,0,0,108086391056893010,0,0,0,0,0,0,0,32389888520048614482]),
 (9,[0,0,0,0,0,0,0,6]),
 (10,[0,0,0,0,0,0,0,0,0,0,0,3,0,0,0,0,0,114720]),
 (11,[0,0,0,0,0,0,0,0,0,0,0,0,0,0,0,0,0,0,0,3,0,0,0,0,0,0,0,0,0,3,0,0,0,0,0,0,51539607683,0,0,0,0,0,0,0,0,30786325577859,0,0,0,0,0,0,0,0,0,0,0,0,0,30786325579395,0,0,0,0,0,0,0,0,0,0,0,2066035336255469783171,0,0,0,0,0,0,0,0,0,0,0,0,16927027509941063915681923,0,0,0,0,0,0,0,0,0,0,0,0,0,0,0,0,0,0,0,0,0,0,0,0,0,0,16927027509941063915681923]),
 (13,[0,0,0,0,0,0,0,0,0,0,0,0,0,0,0,0,0,6,0,0,0,0,0,0,14680192,0,0,0,0,0,0,0,0,0,15032386560,0,0,0,15032386560]),
 (14,[0,0,0,0,0,0,0,0,0,0,0,0,0,0,10,0,10,0,0,0,0,0,0,0,0,0,0,0,0,0,0,0,0,0,0,0,10,0,0,0,0,1924145348618,0,0,0,0,0,0,1924145348650,0,0,0,3942573819297802,0,0,0,0,0,0,0,0,3942573819297802]),
 (15,[0,0,0,0,0,0,0,0,0,0,0,0,0,22,0,0,0,0,0,0,0,0,144,0,0,0,144]),
 (16,[]),
 (17,[]),
 (18,[0,0,0,0,0,0,0,6]),
 (19,[0,0,0,0,0,0,0,0,0,0,0,0,0,0,6]),
 (20,[]),
 (21,[0,0,0,0,0,0,0,0,6]),
 (22,[0,0,0,0,0,0,0,0,0,0,0,0,0,0,0,0,3,0,0,0,786435,0,0,0,0,0,0,0,0,0,0,0,0,0,786435]),
 (23,[0,0,0,0,0,0,0,0,0,0,0,0,0,0,0,0,0,0,0,0,0,0,0,0,0,0,0,0,14,0,0,0,3221225486]),
 (24,[0,0,0,0,0,0,0,0,0,0,0,0,0,0,0,2,0,0,0,0,10,0,0,0,0,0,0,0,0,0,0,0,0,0,0,0,10,0,0,0,0,1924145348618,0,0,0,0,0,0,1924145348650,0,0,0,3942573819297802,0,0,0,0,0,0,0,0,3942573819297802]),
 (26,[0,0,0,0,0,0,0,0,0,0,0,0,0,0,0,0,0,0,0,0,0,0,0,0,0,0,0,37,0,0,0,0,0,0,165,0,0,0,0,0,0,0,0,0,0,0,0,0,0,0,0,0,0,0,0,933,0,0,0,0,0,0,0,0,0,0,0,0,0,0,0,0,0,0,0,0,0,0,0,0,0,0,0,0,0,0,0,0,0,541598767187353870268367269,0,0,0,0,0,0,0,0,0,0,0,0,0,0,0,0,0,0,0,0,0,0,0,0,0,0,0,0,0,541598767187353870268372389,0,0,0,0,0,0,0,0,0,0,0,0,0,0,0,0,0,0,0,0,0,0,0,0,0,0,0,0,0,0,0,0,0,0,0,0,0,0,0,0,0,0,0,0,0,40922045845265281709703175316055924550366111211940,0,0,0,0,0,0,0,0,0,0,0,0,335274321610258453047598115364446189841149549088924068]),
 (27,[0,0,0,0,0,0,0,0,0,2,0,0,0,0,0,0,0,0,0,0,0,0,0,0,0,0,10,0,0,0,0,1879048202,0,0,0,0,0,0,0,0,0,0,1879048202,0,0,0,0,0,0,0,0,0,0,0,0,0,0,0,0,0,0,0,0,0,0,0,0,0,0,0,0,0,0,0]),
 (28,[0,0,0,0,0,0,0,0,0,0,0,6,0,0,0,24614]),
 (29,[]),
 (30,[]),
 (31,[0,0,0,0,0,0,0,0,0,0,0,0,0,0,3,0,0,0,0,0,0,0,0,0,0,0,0,0,0,0,0,0,0,0,0,0,0,0,0,51,0,0,0,0,51,0,0,0,0,0,0,0,0,0,0,0,0,0,0,0,0,0,0,0,0,0,0,0,0,516508834063867445299]),
 (32,[]),
 (33,[0,0,0,0,0,0,0,1,0,0,0,0,0,0]),
 (34,[0,0,0,0,0,0,0,0,0,0,897,0,0,0,0,0,0,0,0,0,897]),
 (35,[0,0,0,0,0,0,0,0,0,0,898,0,0,0,0,0,0,0,0,898]),
 (37,[]),
 (38,[0,0,0,0,0,0,0,0,0,0,6,0,0,6,0,0,0,0]),
 (39,[]),
 (40,[0,0,0,0,0,6]),
 (41,[]),
 (42,[0,0,0,0,0,0,0,0,0,0,0,0,0,0,0,0,0,0,196617,0,0,0,0,0,0,0,0,0,0,0,0,0,0,0,0,0,0,0,196665,0,0,0,0,0,0,0,0,0,0,0,0,196761,0,0,0,0,0,0,196665]),
 (43,[0,0,0,0,0,0,0,0,0,0,0,0,0,0,0,0,0,0,0,0,0,0,0,0,14680076]),
 (44,[0,0,0,0,0,0,0,0,0,0,0,0,0,0,0,0,0,0,0,0,0,0,0,0,0,0,0,0,0,0,0,1879048438,0,0,0,0,0,0,0,1879048694,0,0,0,0,0,0,0,0,0,0,985164297537014,0,0,0,0,0,0,0,0,0,0,0,0,0,0,0,0,0,0,0,0,0,0,0,0,0,0,0,0,0,0,0,0,0,0,0,0,0,0,0,1083197534374707740536791108,0,0,0,0,0,0,0,1083197534374707740536791108]),
 (45,[]),
 (46,[]),
 (47,[]),
 (48,[0,0,0,0,0,0,0,0,0,0,28,0,0,0,0,0,0,28,0,0,0,0,0,0,0,0,67109404,0,0,0,0,0,0,28]),
 (49,[]),
 (50,[0,0,0,0,0,0,0,0,0,0,0,0,0,0,0,0,80,0,0,0,0,80,0,0,0,80]),
 (52,[]),
 (53,[]),
 (54,[0,0,0,0,0,0,0,0,0,0,0,0,0,0,0,0,0,0,0,0,0,0,0,0,10,0,0,0,0,0,0,0,0,0,0,0,0,0,0,0,0,0,0,0,0,0,0,0,0,0,0,10,0,0,0,0,63050394783186954,0,0,0,0,0,0,0,0,0,0,0,63050394783186954]),
 (55,[0,0,0,0,0,0,0,0,0,0,0,0,0,0,0,0,0,0,0,0,0,0,3670030,0,0,0,0,0,0,0,0,0,0,0,0,0,0,120262754366]),
 (56,[0,0,0,0,0,0,0,0,0,0,3,0,0,0,12291,0,0,0,0,0,0,0,0,0,12291]),
 (57,[0,0,0,0,0,0,0,0,0,0,3,0,0,0,12291,0,0,0,0,0,0,0,0,0,12291]),
 (58,[0,0,0,0,0,0,0,0,0,0,3,0,0,0,12291,0,0,0,0,0,0,0,0,0,12291]),
 (59,[]),
 (60,[0,0,0,0,0,0,0,0,0,0,0,0]),
 (61,[0,0,0,0,0,0,0,0,0,0,0,0,0,0,0,0,0,0,0,0,0,0,0,1807,0,0,0,0,0,1807,0,0,0,0,0,1807,0,0,0,0,0,0,0,0,0,0,0,0,0,0,7951,0,0,0,0,0,0,0,0,0,0,0,0,0,0,0,0,0,3855,0,0,0,3855,0,0,0,0,0,0,0,0,0,0,0,0,0,0,3087,0,0,0,0,0,0,0,0,0,0,0,0,0,0,0,0,0,0,0,0,0,0,0,0,0,783]),
 (62,[]),
 (63,[0,0,0,0,0,0,0,0,0,1,0,0,1,0,0,0,57345,0,0,0,0,0,0,57361,0,0,0,117497857,0,0,0,0,0,0,0,0,0,117497857]),
 (64,[0,0,0,0,0,0,0,0,0,0,0,0,0,0,0,0,0,0,0,458785,0,0,0,0,0,458913,0,0,0,0,0,0,3758555297,0,0,0,0,0,0,0,0,0,0,0,0,0,0,0,246294363178657,0,0,0,0,0,0,0,0,0,0,0,246294363178657]),
 (66,[0,0,0,0,0,0,0,0,0,0,0,0,0,0,0,0,0,0,0,0,0,0,7,0,0,0,58720262,0,0,0,0,0,0,7574913158,0,0,0,0,0,0,0,0,0,0,0,0,0,0,0,0,0,0,0,0,7574913158]),
 (67,[]),
 (68,[0,0,0,0,0,0,0,0,0,6,0,0,0,0,0,0,0,0,0,0,0,0,0,0,0,0,0,6,0,0,1610612742,0,0,0,0,0,0,137975824390,0,0,0,0,0,0,6,35184372088838,0,0,0,0,0,6,0,0,0,0,63050394783186946,0,0,0,0,0,63050394783186946]),
 (69,[]),
 (70,[0,0,0,0,0,0,0,0,0,6,0,0,0,0,0,0,0,0,0,0,0,0,0,7340046]),
 (71,[]),
 (72,[0,0,0,0,0,0,2]),
 (73,[0,0,0,0,0,0,0,194,0,0,0,0,0,0,0,32834,0,0,0,0,0,0,3670016,0,0,0,0,3670016,0,0]),
 (74,[0,0,0,0,0,0,0,0,0,0,0,0,0,6,0,0,0,0,0,0,0,0,0,0,0,0,0,0,0,0,0,0,0,6442451124,0,0,0,0,0,0,0,0,3848290697364]),
 (75,[0,0,0,0,0,0,0,0,0,0,0,0,0,0,0,0,0,0,2,0,0,0,0,0,0,0,0,117440538,0,0,0,0,0,0,0,0,117440538,0,0,0,0,0,0,0,0,0,0,0,0,492581209244058,0,0,0,0,0,0,0,0,0,0,0,2018105214271228826,0,0,0,0,0,0,0,0,0,0,0,0,0,0,0,0,0,0,492581209260954,0,0,0,0,0,0,0,0,0,0,0,0,0,386]),
 (76,[0,0,0,0,0,0,0,0,0,0,0,0,0,0,0,0,0,0,0,0,0,0,0,7340172]),
 (77,[0,0,0,0,0,0,0,0,0,0,0,0,0,0,0,0,0,0,0,0,0,0,0,0,0,0,0,0,920,0,0,0,0,0,0,0,0,0,0,0,0,0,0,0,0,0,0,0,7432]),
 (78,[0,0,0,0,0,0,0,0,0,0,0,0,0,0,0,0,0,0,0,0,0,0,0,7340188]),
 (79,[]),
 (80,[0,0,0,0,0,0,0,0,0,450,0,0,0,0,498]),
 (81,[0,0,0,0,0,0,0,0,0,0,0,0,0,0,0,0,0,0,0,0,0]),
 (82,[0,0,0,0,0,0,0,0,0,0,0,0,0,0,0,0,0,0,0,0,0,0,3,0,0,0,0,0,0,0,0,0,0,0,0,0,0,0,0,0,0,0,3848290697282,0,0,0,0,0,0,0,0,0,0,0,0,0,0,3848290697538,0,0,0,0,0,0,0,0,0,0,0,0,0,0,576,0,0,0,0,0,0,0,0,0,0,0,0,0,0,0,270799383593676935134184000,0,0,0,0,0,0,0,0,0,0,0,0,0,0,0,0,0,270799383593676935134192192]),
 (83,[]),
 (84,[0,0,0,0,0,0,0,0,0,0,0,0,0,0,0,0,0,0,0,0,0,0,0,0,0,0,0,0,0,0,939524121,0,0,0,0,0,0,0,0,0,0,0,0,0,0,0,0,0,0,0,0,0,0,0,0,0,0,0,0,0,0,0,0,0,0,0,939524409,0,0,0,0,0,0,0,0,0,0,0,939524409,0,0,0,0,0,0,0,0,0,0,0,0,0,0,0,0,0,0,939524409]),
 (85,[0,0,0,0,0,0,0,0,0,387,0,0,0,0,0,0,387]),
 (86,[0,0,0,0,0,0,0,0,0,0,898,0,0,0,0,0,0,0,0,898]),
 (88,[0,0,0,0,0,0,0,0,0,0,0,0,71,0,0,0,0,0,0,0,0,0,0,0,0,0,0,0,0,0,199]),
 (89,[0,0,0,0,0,0,0,0,0,0,0,0,0,0,0,0,0,0,0,961,0,0,0,0,0,0,0,0,0,0,1217]),
 (90,[0,0,0,0,0,0,0,0,0,0,0,0,0,0,0,0,0,0,0,0,0,0,0,0,0,0,0,0,0,0,0,0,0,963,0,0,0,0,0,0,0,0,0,1987]),
 (91,[0,0,0,0,0,0,0,0,0,0,0,0,0,0,0,0,0,0,0,0,0,0,0,0,0,0,0,0,0,0,0,0,2560,0,7681,0,0,0,0,0,0,0,0,0,0,0,0,0,0,0,0,192,0,0,192]),
 (92,[0,0,0,0,0,0,0,0,0,0,0,0,0,193]),
 (93,[0,0,0,0,0,0,0,0,0,0,0,0,0,0,391,0,0,0,0,0,0,0,0,0,0,0,0,0,0,0,0,0,391,0,0,0,0,391,0,0,0,391,0,0,0,0,0,0,0,0,0,0,0,0,0,0,0,0,0,0,0,391,0,0,0,903,0,0,0,0,0,0,0,0,0,0,0,0,903,0,0,0,0,0,0,0,0,0,0,0,0,0,0,0,0,0,0,0,391,0,0,0,0,1415,0,0,0,0,0,0,0,0,0,0,0,0,1415]),
 (94,[]),
 (95,[0,0,0,0,0,0,0,0,0,0,0,0,0,0,0,0,0,0,0,0,0,0,0,0,0,0,0,0,0,0,0,0,0,0,0,0,0,0,0,0,0,0,0,1539,0,0,0,0,0,0,0,0,0,0,0,0,0,0,0,1539,0,0,0,0,1539]),
 (96,[0,0,0,0,0,0,0,0,0,0,0,0,0,0,0,0,0,0,0,0,0,0,0,0,0,0,0,0,0,0,0,0,0,0,0,0,0,0,0,0,0,0,0,3075,0,0,0,0,0,0,0,0,0,0,0,0,0,0,0,0,3075,0,0,0,0,3075,0,0,0,0,0,0,0,0,0,0,0,0,0,0,0,0,0,0,0,0,0,0,0,0,0,0,0,0,0,0,0,0,0,0,0,0,0,0,0,0,0,0,0,0,0,0,3075,0,0,0,0,0,0,0,0,0,0,0,0,0,0,0,0,3075,0,0,0,0,3075]),
 (98,[0,0,0,0,5,0,0,0,5,0,0,0,0,0,5]),
 (100,[0,0,0,0,0,0,0,0,0,0,0,0,0,0,0,0,14,0,0,0,0,0,0,0,0,0,58720262,0,0,0,0,0,0,0,58720262]),
 (101,[0,0,0,0,0,0,0,19,0,0,0,19,0,0,0,19,0,0,0,0,0,19,0,0,0,0,0,16,0,0,0,0,0,0,0,0,0,48,0,0,0,0,0,0,0,16,0,48,0,0,0,0,0,0,0,0,0,48]),
 (102,[0,0,0,0,0,0,0,6]),
 (103,[0,0,0,0,0,0,0,0,0,0,0,0,0,48,0,0,0,0,48,0,0,0,0,0,56,0,0,0,0,0,0,2147487804,0,0,0,0,0,0,48,0,0,0,0,0,0,0,0,0,0,0,0,0,0,0,0,0,0,48]),
 (104,[0,0,0,0,0,0,0,0,0,0,0,0,0,0,0,0,0,0,0,0,0,0,0,0,0,0,0,0,0,0,0,0,0,0,0,0,0,0,0,0,0,0,0,0,0,0,0,0,0]),
 (105,[]),
 (106,[]),
 (107,[0,0,0,0,0,0,0,0,0,0,0,0,0,0,0,0,0,0,0,0,0,0,0,0,0,14605,0,0,0,0,0,0,0,0,0,0,0,0,206158493965,0,0,0,0,0,0,0,0,0,0,0,0,0,63757]),
 (108,[]),
 (109,[]),
 (110,[]),
 (111,[0,0,0,0,0,0,0,0,0,0,0,0,67]),
 (112,[]),
 (113,[]),
 (114,[0,0,0,0,0,0,0,0,0,0,0,0,0]),
 (115,[]),
 (116,[0,0,0,0,0,0,0,0]),
 (117,[0,0,0,0,0,0,0,0,0,0,0,0,3087,0,0,0,3087]),
 (118,[0,0,0,0,0,0,0,0,0,0,0,0,0,111]),
 (119,[0,0,0,0,1]),
 (120,[0,0,0,0,0,0,0,0,0,0,0,0,1,0,0,0,57345,0,0,0,0,0,0,0,0,0,57345]),
 (121,[]),
 (122,[0,0,0,0,0,0,0,0,0,0,1,0,0,0,0,0,49160]),
 (123,[0,0,0,0,0,0,0,0,0,0,0,0,3592]),
 (124,[0,0,0,0,0,0,0,0,0,0,0,0,0,0,0,0,0,0,0,0,0,0,3,0,0,0,0,0,0,469762082]),
 (125,[0,0,0,0,0,0,0,0,7]),
 (126,[]),
 (127,[0,0,0,0,0,0,0,0,0,0,0,0,0,0,0,0,781,0,0,0,0,0,0,0,0,0,0,0,0,0,0,0,0,0,0,0,781,0,0,0,0,0,0,0,0,0,0,0,0,0,0,0,781]),
 (128,[]),
 (129,[]),
 (130,[]),
 (131,[]),
 (132,[]),
 (133,[0,0,0,0,0,5]),
 (134,[0,0,0,0,0,5]),
 (135,[0,0,0,0,0,5]),
 (136,[]),
 (137,[0,0,0,0,0,0,0,0,0,0,0,0,0,0,0,0,0,0,0,0,0,0,0,0,14680316,0,0,0,0,0,0,0,0,0,0,0,0,0,0,0,0,0,14680316,0,0,0,0,0,0,0,0,0,0,0,0,0,0,2064,0,0,0,0,2064,0,0,0,0,0,0,0,2064]),
 (138,[0,0,0,0,0,0,0,0,0,0,0,0,0,0,0,0,0,0,0,0,0,0,0,7340276,0,0,0,0,7340916,0,0,0,0,0,0,0,0,0,0,0,0,0,0,0,0,0,0,0,0,0,0,0,0,0,0,0,0,126100789566376144,0,0,0,0,0,126100789566388432]),
 (139,[]),
 (140,[0,0,0,0,0,0,0,0,0,0,0,0,0,7181,0,0,0,0,7693,0,0,0,0,0,0,0,7693]),
 (141,[0,0,0,0,0,0,0,0,0,387,0,0,0,0,0,0,387]),
 (142,[0,0,0,0,0,0,0,0,0,0,0,0,0,0,0,0,0,32,0,0,0,0,3]),
 (143,[]),
 (144,[0,0,0,0,0,0,0,0,0,0,0,0,0,0,0,0,0,0,6]),
 (145,[]),
 (146,[0,0,0,0,0,0,0,0,0,0,0,0,35,0,0,0,0,0,0,99,0,0,0,0,0,0,0,0,0,99]),
 (147,[0,0,0,0,0,0,0,0,0,0,0,1825,0,0,0,0,0,1825]),
 (148,[0,0,0,0,0,0,0,0,0,67,0,0,67]),
 (149,[]),
 (150,[]),
 (151,[]),
 (152,[0,0,0,0,0,0,24]),
 (154,[]),
 (155,[0,0,0,0,0,0,0,0,0,0,0,0,0]),
 (156,[]),
 (157,[0,0,0,0,0,0,0,0,0,12,0,0,0,0,0,0,0,0,0,12]),
 (158,[0,0,0,0,0,0,0,0,0,0,3,0,0,0,0,35,0,0,0,0,0,0,0,0,0,0,0,0,35,0,0,0,0,0,0,227,0,0,0,0,0,0,0,0,0,0,0,0,0,227]),
 (159,[]),
 (161,[0,0,0,0,0,0,0,0,0,0,0,0,0,0,0,0,0,0,0,0,0,0,0,0,0,7199,0,0,0,0,0,0,7199,0,0,0,0,0,0,7199,0,0,0,0,0,0,0,0,0,0,0,0,0,0,0,0,31775,0,0,0,0,0,0,0,0,0,0,0,0,0,0,0,0,0,0,15391,0,0,0,0,15391,0,0,0,0,0,0,0,0,0,0,0,0,0,0,0,0,12319,0,0,0,0,0,0,0,0,0,0,0,0,0,0,0,0,0,0,0,0,0,0,0,0,0,0,0,3103]),
 (162,[0,0,0,0,0,0,0,0,0,0,0,67,0,3,0,0,3,0,0,0]),
 (163,[0,0,0,0,0,0,0,0,0,0,0,0,0,0,14343,0,0,0,0,0,0,14727,0,0,0,0,0,0,0,0,0,14343,0,0,0,0,0,0,0]),
 (164,[0,0,0,0,0,0,0,0,0,0,0,0,0,0,271,0,0,0,0,0,0,0,0,0,0,0,0,0,0,0,0,0,0,0,783]),
 (165,[0,0,0,0,0,0,0,0,0,0,0,0,0,0,0,0,0,0,0,0,0,3849,0,0,0,0,0,0,0,0,0,0,0,4873]),
 (166,[0,0,0,0,0,0,0,0,0,0,0,0,0,0,0,0,0,0,0,0,0,0,0,0,0,0,0,0,0,0,0,0,0,0,0,3843,0,0,0,0,0,0,0,0,0,7939]),
 (167,[0,0,0,0,0,0,0,0,0,0,0,0,0,0,0,0,0,0,0,0,0,0,0,0,0,0,0,0,0,0,0,0,0,0,10240,0,30729,0,0,0,0,0,0,0,0,0,0,0,0,0,0,0,0,0,0,0,0,768,0,0,768]),
 (168,[0,0,0,0,0,0,0,0,0,0,0,0,0,0,0,769]),
 (169,[0,0,0,0,0,0,0,0,0,0,0,0,0,0,0,0,1551,0,0,0,0,0,0,0,0,0,0,0,0,0,0,0,0,0,0,0,1551,0,0,0,0,1551,0,0,0,1551,0,0,0,0,0,0,0,0,0,0,0,0,0,0,0,0,0,0,0,1551,0,0,0,3599,0,0,0,0,0,0,0,0,0,0,0,0,0,0,3599,0,0,0,0,0,0,0,0,0,0,0,0,0,0,0,0,0,0,0,1551,0,0,0,0,5647,0,0,0,0,0,0,0,0,0,0,0,0,0,0,5647]),
 (170,[0,0,0,0,0,0,0,0,0,0,0,0,0,0,0,0,0,0,0,0,0,0,0,0,0,0,0,0,0,0,0,0,0,0,0,0,0,0,0,0,0,0,0,0,0,0,0,6163,0,0,0,0,0,0,0,0,0,0,0,0,0,0,0,0,0,6163,0,0,0,0,6163]),
 (171,[0,0,0,0,0,0,0,0,0,0,0,0,0,0,0,0,0,0,0,0,0,0,0,0,0,0,0,0,0,0,0,0,0,0,0,0,0,0,0,0,0,0,0,0,0,0,0,12307,0,0,0,0,0,0,0,0,0,0,0,0,0,0,0,0,0,0,12307,0,0,0,0,12307,0,0,0,0,0,0,0,0,0,0,0,0,0,0,0,0,0,0,0,0,0,0,0,0,0,0,0,0,0,0,0,0,0,0,0,0,0,0,0,0,0,0,0,0,0,0,0,0,12307,0,0,0,0,0,0,0,0,0,0,0,0,0,0,0,0,0,0,12307,0,0,0,0,12307]),
 (172,[0,0,0,0,0,0,0,0,0,0,0,0,0,0,0,0,0,0,3101,0,0,0,0,0,0,0,0,0,0,0,0,0,0,0,0,0,0,0,0,0,3101,0,0,0,0,0,0,0,0,0,0,0,0,0,0,0,0,0,3101]),
 (173,[]),
 (174,[]),
 (175,[0,0,0,0,0,0,0,0,0,0,0,0,0,0,0,0,0,0,0,0,0,0,6])]++[(8,[(13,[1,2]),(20,[2,5,2000011]),(29,[2,7,8])]),(12,[(49,[0,1,2,3]),(56,[0,1,2,3,10,54,55]),(66,[0,2,3,10,12,13,63,64,65,1000015]),(77,[0,2,3,10,12,13,63,64,65,1000015]),(88,[0,2,10,12,13,16,17,1000015]),(98,[0,2,10,12,13,16,17,18,95,96,97,1000015]),(123,[0,2,10,12,13,16,17,18,95,96,97,1000015]),(129,[10])]),(25,[(17,[0,3,5,2000006]),(22,[0,3,5,2000006]),(35,[0,3,5,33,34,2000006]),(39,[0,3,5,6,33,34,37,38,2000006])]),(36,[(11,[0,1,2,3000010])]),(65,[(19,[0,3,4,5,6,7,17,18,1000007]),(24,[0,3,4,5,6,7,8,17,18,1000007]),(35,[0,3,4,5,6,7,17,18,1000007]),(48,[0,3,4,5,6,7,9,17,18,45,46,47,1000007])]),(99,[(8,[3000010])])]
def alE:List (Nat×List (Nat×List Nat)):=SM [(3,[6,3848290697222,10752,554597137599850363154807663104,141312,37218383881977644441306597687849854976,37218383881977644441306597687849854976,4801171520775116132928551101732606388224]),
 (4,[]),
 (5,[]),
 (6,[0,35]),
 (7,[82,60129542230,1040,108086391056893010,108086391056897106,32389888520048614482]),
 (8,[]),
 (9,[]),
 (10,[32,114720]),
 (11,[131,51539607683,131,30786325577859,2048,2066035336255469783171,2066035336255469783171,16927027509941063915681923]),
 (13,[128,14680192,1024,15032386560]),
 (14,[0,1924145348618,1924145348618,3942573819297802]),
 (15,[144,144]),
 (16,[]),
 (17,[]),
 (18,[]),
 (19,[]),
 (20,[]),
 (21,[]),
 (22,[0,786435]),
 (23,[2,3221225486]),
 (24,[0,1924145348618,1924145348618,3942573819297802]),
 (26,[421,933,421,541598767187353870268367269,541598767187353870268367269,541598767187353870268372389,8452,40922045845265281709703175316055924550366111211940,40922045845265281709703175316055924550366111211940,335274321610258453047598115364446189841149549088924068]),
 (27,[10,1879048202]),
 (28,[32,24614]),
 (29,[]),
 (30,[]),
 (31,[0,51,51,516508834063867445299]),
 (32,[]),
 (33,[]),
 (34,[0,897]),
 (35,[0,898]),
 (36,[]),
 (37,[]),
 (38,[]),
 (39,[]),
 (40,[]),
 (41,[]),
 (42,[9,196617]),
 (43,[12,14680076]),
 (44,[228,1879048438,1879049718,985164297537014,40964,1083197534374707740536791108]),
 (45,[]),
 (46,[]),
 (47,[]),
 (48,[28]),
 (49,[]),
 (50,[80,80]),
 (52,[]),
 (53,[]),
 (54,[10,63050394783186954]),
 (55,[12,3670030,3670030,120262754366]),
 (56,[0,12291]),
 (57,[0,12291]),
 (58,[0,12291]),
 (59,[]),
 (60,[]),
 (61,[0,783]),
 (62,[]),
 (63,[0,57345,57345,117497857]),
 (64,[0,458785,458785,3758555297,3758555297,246294363178657]),
 (66,[0,58720262,58720262,7574913158]),
 (67,[]),
 (68,[6,0,63050394783186946]),
 (69,[]),
 (70,[14,7340046]),
 (71,[]),
 (72,[]),
 (73,[0,0,3670016]),
 (74,[180,6442451124,148,3848290697364]),
 (75,[26,117440538,4,26,402,492581209244058,492581209246618,2018105214271228826]),
 (76,[128,7340172]),
 (77,[408,920,2048,7432]),
 (78,[128,7340188]),
 (79,[]),
 (80,[0,450,450,498]),
 (81,[0]),
 (82,[66,3848290697282,64,270799383593676935134184000]),
 (83,[]),
 (84,[17,939524121,939524409]),
 (85,[0,387]),
 (86,[0,898]),
 (88,[0,71,71,199]),
 (89,[449,961,0,1217]),
 (90,[0,963]),
 (91,[192]),
 (92,[0,193]),
 (93,[0,391,391,391,391,903,391,1415]),
 (94,[]),
 (95,[512,1539,1539,1539,1539,1539]),
 (96,[3075,3075,3075,3075,2051,3075,3075,3075,3075,3075]),
 (98,[]),
 (99,[]),
 (100,[0,58720262]),
 (101,[19,16,48]),
 (102,[]),
 (103,[48]),
 (104,[0]),
 (105,[]),
 (106,[]),
 (107,[6400,14605,63757,206158493965]),
 (108,[]),
 (109,[]),
 (110,[]),
 (111,[0,67]),
 (112,[]),
 (113,[]),
 (114,[]),
 (115,[]),
 (116,[]),
 (117,[0,3087]),
 (118,[47,111]),
 (119,[]),
 (120,[0,57345]),
 (121,[]),
 (122,[8,49160]),
 (123,[8,3592]),
 (124,[32,469762082]),
 (125,[]),
 (126,[]),
 (127,[0,269]),
 (128,[]),
 (129,[]),
 (130,[]),
 (131,[]),
 (132,[]),
 (133,[]),
 (134,[]),
 (135,[]),
 (136,[]),
 (137,[248,14680316,2064]),
 (138,[240,7340276,2256,126100789566376144]),
 (139,[]),
 (140,[0,7181]),
 (141,[0,387]),
 (142,[]),
 (143,[]),
 (144,[]),
 (145,[]),
 (146,[33,99]),
 (147,[32,1825]),
 (148,[67]),
 (149,[]),
 (150,[]),
 (151,[]),
 (152,[]),
 (154,[]),
 (155,[0]),
 (156,[]),
 (157,[]),
 (158,[1,35,33,227]),
 (159,[]),
 (161,[0,3103]),
 (162,[]),
 (163,[3,14343]),
 (164,[0,271,271,783]),
 (165,[1801,3849,0,4873]),
 (166,[0,3843]),
 (167,[768]),
 (168,[0,769]),
 (169,[0,1551,1551,1551,1551,3599,1551,5647]),
 (170,[2048,6163,6163,6163,6163,6163]),
 (171,[12307,12307,12307,12307,8195,12307,12307,12307,12307,12307]),
 (172,[0,1053]),
 (173,[]),
 (174,[]),
 (175,[])]++[(12,[(0,[0,1,2,3,10]),(1,[0,1,2,3,10,54,55]),(2,[0,2,10,12,13,1000015]),(3,[0,2,3,10,12,13,63,64,65,1000015]),(4,[0,10,12,1000015]),(5,[0,2,10,12,13,16,17,1000015]),(6,[0,2,10,12,13,16,17,1000015]),(7,[0,2,10,12,13,16,17,18,95,96,97,1000015])]),(25,[(0,[0,3,5,2000006]),(1,[0,3,5,33,34,2000006]),(2,[0,3,5,33,34,2000006]),(3,[0,3,5,6,33,34,37,38,2000006])]),(65,[(0,[3]),(1,[0,3,4,5,6,7,17,18,1000007]),(2,[0,3,4,5,6,7,17,18,1000007]),(3,[0,3,4,5,6,7,17,18,1000007]),(4,[0,3,4,5,6,7,17,18,1000007]),(5,[0,3,4,5,6,7,9,17,18,45,46,47,1000007])])]
def alF:List (Nat×List (Nat×List Nat)):=[(12,[(10,[12]),(18,[16,1000019])]),
 (25,[(3,[2000006])]),
 (65,[(2,[4]),(14,[45,1000048])])]
def alG:List (Nat×List Nat):=[(8,[0]),
 (11,[0]),
 (26,[0,1]),
 (40,[0]),
 (70,[0]),
 (101,[0]),
 (102,[0]),
 (103,[0]),
 (133,[0]),
 (134,[0]),
 (135,[0])]
def alH:List (Nat×List (Nat×List (Nat×Nat))):=[(3,[(1,[(1,4)]),(2,[(0,5)]),(6,[(7,6)]),(7,[(0,5)]),(9,[(2,7)]),(10,[(1,8)]),(11,[(1,8)]),(18,[(3,9)]),(20,[(3,10)]),(21,[(3,11)]),(34,[(8,12)]),(35,[(6,13),(14,5)])]),
 (4,[(1,[(12,14)])]),
 (5,[(1,[(0,17),(1,17),(3,16),(5,16),(6,15)]),(2,[(4,18),(10,17),(11,19)])]),
 (6,[(1,[(1,20)])]),
 (7,[(1,[(1,21)]),(9,[(3,22)]),(20,[(5,23)]),(24,[(1,18)])]),
 (8,[(1,[(1,24)]),(5,[(1,18),(2,25)]),(8,[(0,26)])]),
 (9,[(1,[(1,27)]),(3,[(2,28)])]),
 (10,[(1,[(2,29)]),(3,[(1,30)]),(7,[(2,31)]),(9,[(4,32)])]),
 (11,[(1,[(1,33)]),(4,[(6,34)])]),
 (12,[(1,[(7,33),(12,33),(19,35),(26,35)]),(14,[(6,36)]),(25,[(21,36)])]),
 (13,[(1,[(3,37)])]),
 (14,[(2,[(2,20)])]),
 (15,[(1,[(2,38)]),(4,[(1,40),(3,39)]),(5,[(1,41)]),(6,[(1,42)]),(9,[(1,43)])]),
 (18,[(1,[(1,24)]),(3,[(1,44)])]),
 (19,[(1,[(1,45),(5,22)]),(4,[(1,46)]),(5,[(1,47)]),(6,[(3,48),(8,49)])]),
 (21,[(1,[(1,24)]),(4,[(1,18)])]),
 (23,[(1,[(1,24),(18,22)])]),
 (26,[(1,[(4,50)]),(16,[(8,52)]),(32,[(7,53)])]),
 (27,[(1,[(1,54)]),(3,[(1,55),(2,8)]),(9,[(6,56)]),(12,[(4,57),(11,56),(19,58),(27,58)])]),
 (28,[(1,[(3,22)])]),
 (29,[(1,[(2,34),(5,59)])]),
 (31,[(3,[(2,60)]),(8,[(17,60)]),(12,[(17,60)])]),
 (32,[(1,[(4,62),(5,61)])]),
 (33,[(1,[(1,63)]),(4,[(2,65),(3,64)])]),
 (37,[(1,[(7,33),(12,33),(19,66)])]),
 (38,[(3,[(1,67)]),(5,[(2,68)])]),
 (39,[(3,[(2,69)])]),
 (40,[(1,[(1,45)]),(3,[(1,70)])]),
 (42,[(5,[(13,71)]),(8,[(5,72)]),(12,[(2,69)])]),
 (43,[(5,[(3,73)])]),
 (44,[(1,[(1,74)]),(2,[(1,75)]),(17,[(1,74)])]),
 (45,[(1,[(1,38)])]),
 (48,[(3,[(4,76)]),(5,[(6,77)]),(8,[(3,78)]),(10,[(6,79)]),(12,[(2,80)])]),
 (50,[(1,[(2,82)]),(4,[(1,83)]),(5,[(1,84)])]),
 (52,[(1,[(2,85)])]),
 (54,[(9,[(7,86)]),(12,[(3,86)])]),
 (59,[(1,[(1,33)])]),
 (61,[(4,[(3,88)]),(6,[(3,89)]),(8,[(3,90)]),(10,[(3,91)]),(12,[(3,92)]),(16,[(3,93)]),(17,[(12,94)]),(18,[(4,95)]),(20,[(4,96)]),(26,[(4,61)]),(29,[(5,61)])]),
 (62,[(2,[(1,98)])]),
 (65,[(10,[(2,99)]),(17,[(8,99)]),(18,[(8,99)])]),
 (66,[(1,[(9,35)])]),
 (67,[(2,[(1,100)])]),
 (68,[(22,[(2,68)])]),
 (69,[(2,[(5,72)])]),
 (70,[(7,[(3,70)]),(9,[(3,101)])]),
 (71,[(1,[(3,103),(4,102)])]),
 (72,[(1,[(1,45)]),(4,[(1,104)]),(5,[(0,105)])]),
 (73,[(6,[(2,211)]),(12,[(1,73)]),(17,[(9,73)])]),
 (74,[(1,[(1,24)]),(3,[(6,107)])]),
 (75,[(1,[(1,24)])]),
 (76,[(1,[(5,48)]),(5,[(1,46)]),(6,[(2,208)]),(7,[(3,48)]),(8,[(5,112)]),(9,[(2,209)])]),
 (77,[(1,[(1,46)]),(2,[(2,200)]),(6,[(2,47)]),(7,[(3,48)]),(12,[(1,46)]),(13,[(2,47)]),(14,[(5,207)])]),
 (78,[(1,[(6,48)]),(5,[(3,48)]),(6,[(2,206)])]),
 (79,[(1,[(3,48)]),(3,[(2,205)])]),
 (80,[(5,[(4,119),(6,81)])]),
 (81,[(0,[(3,46)]),(2,[(5,204)]),(4,[(6,204)])]),
 (82,[(8,[(10,120)]),(14,[(6,122),(7,121)]),(19,[(5,123)]),(22,[(7,121)])]),
 (84,[(6,[(9,124)]),(7,[(5,123)]),(12,[(14,125),(15,121)]),(13,[(18,126)])]),
 (88,[(4,[(13,94)])]),
 (89,[(6,[(4,127)]),(11,[(4,127)])]),
 (90,[(3,[(1,128)]),(7,[(0,129)])]),
 (91,[(8,[(2,130)]),(9,[(2,130)]),(10,[(2,130)]),(11,[(4,131)])]),
 (93,[(5,[(13,94)]),(16,[(9,94)]),(22,[(9,94)])]),
 (94,[(1,[(1,132),(4,132)])]),
 (95,[(3,[(12,94)]),(5,[(12,94)])]),
 (96,[(3,[(12,94)]),(5,[(12,94)]),(13,[(12,94)]),(15,[(12,94)])]),
 (100,[(7,[(4,100)])]),
 (101,[(3,[(1,133)]),(5,[(1,134)]),(7,[(1,135)]),(18,[(0,136)]),(19,[(5,112)])]),
 (102,[(1,[(2,38)])]),
 (103,[(12,[(2,137)]),(14,[(5,103)]),(15,[(3,101)]),(16,[(4,101)]),(18,[(2,138)])]),
 (104,[(3,[(1,139)]),(5,[(1,139)]),(7,[(5,139)]),(9,[(3,140)]),(11,[(3,140)]),(13,[(3,140)]),(15,[(1,139)]),(16,[(3,140)]),(18,[(3,140)]),(19,[(1,139)])]),
 (106,[(1,[(2,141)])]),
 (107,[(2,[(1,142)]),(12,[(5,108),(6,197)]),(17,[(4,109)])]),
 (110,[(0,[(6,111)])]),
 (112,[(1,[(14,143)])]),
 (113,[(0,[(1,46)]),(1,[(5,210)])]),
 (114,[(0,[(5,49)]),(1,[(6,111)])]),
 (116,[(0,[(2,49)]),(1,[(6,111)])]),
 (118,[(0,[(1,46)])]),
 (121,[(2,[(5,123)])]),
 (124,[(1,[(7,120),(12,120)])]),
 (126,[(1,[(3,125)])]),
 (127,[(3,[(18,94)]),(5,[(12,94)])]),
 (128,[(1,[(2,62)])]),
 (130,[(1,[(7,131)])]),
 (131,[(1,[(4,144)]),(2,[(4,144)]),(3,[(4,144)])]),
 (133,[(1,[(1,198)]),(2,[(0,145)]),(3,[(1,147),(2,203)]),(4,[(1,149),(2,150),(3,148)])]),
 (134,[(1,[(1,106)]),(2,[(0,150)]),(3,[(1,147),(2,201)]),(4,[(1,136),(2,148)])]),
 (135,[(1,[(1,106)]),(2,[(0,150)]),(3,[(1,147),(2,146)]),(4,[(1,149),(2,145),(3,148)])]),
 (137,[(6,[(2,103)]),(11,[(3,101),(7,101)])]),
 (138,[(8,[(4,152)]),(9,[(2,103)]),(19,[(3,101)]),(21,[(1,101),(3,101)])]),
 (140,[(4,[(2,154)]),(5,[(2,155)]),(6,[(2,104)]),(7,[(1,139)]),(8,[(2,104)]),(9,[(1,139)])]),
 (141,[(4,[(5,143)])]),
 (144,[(1,[(8,94)])]),
 (145,[(1,[(0,150)])]),
 (146,[(1,[(2,199)]),(8,[(2,112)])]),
 (149,[(1,[(1,156)]),(2,[(1,158)])]),
 (152,[(3,[(1,70)])]),
 (156,[(1,[(4,62),(6,161)])]),
 (157,[(2,[(4,162)]),(4,[(4,162)]),(5,[(4,163)])]),
 (158,[(6,[(10,159)]),(11,[(10,159)])]),
 (159,[(1,[(2,157)])]),
 (161,[(4,[(4,164)]),(6,[(4,165)]),(8,[(4,166)]),(10,[(4,167)]),(12,[(4,168)]),(16,[(4,169)]),(17,[(13,157)]),(18,[(5,170)]),(20,[(5,171)]),(26,[(5,161)]),(29,[(6,161)])]),
 (162,[(1,[(1,132)]),(2,[(1,132)])]),
 (163,[(7,[(3,157)])]),
 (164,[(4,[(14,157)])]),
 (165,[(6,[(5,172)]),(11,[(5,172)])]),
 (166,[(3,[(1,128)]),(7,[(0,129)])]),
 (167,[(8,[(3,173)]),(9,[(3,173)]),(10,[(3,173)]),(11,[(5,174)])]),
 (169,[(5,[(14,157)]),(16,[(10,157)]),(22,[(10,157)])]),
 (170,[(3,[(13,157)]),(5,[(13,157)])]),
 (171,[(3,[(13,157)]),(5,[(13,157)]),(13,[(13,157)]),(15,[(13,157)])]),
 (172,[(3,[(19,157)]),(5,[(13,157)])]),
 (173,[(1,[(8,174)])]),
 (174,[(1,[(5,175)]),(2,[(5,175)]),(3,[(5,175)])]),
 (175,[(1,[(9,157)])]),
 (198,[(1,[(2,199)])]),
 (199,[(4,[(5,112)])]),
 (200,[(5,[(4,119),(6,115)])]),
 (201,[(1,[(2,202)]),(8,[(2,151)])]),
 (202,[(4,[(5,151)])]),
 (203,[(1,[(2,141)]),(8,[(2,143)])]),
 (205,[(5,[(4,119),(6,118)])]),
 (206,[(5,[(4,119),(6,117)])]),
 (207,[(5,[(4,119),(6,116)])]),
 (208,[(5,[(4,119),(6,110)])]),
 (209,[(5,[(4,119),(6,113)])]),
 (210,[(5,[(4,119),(6,114)])]),
 (211,[(1,[(2,212)])]),
 (212,[(4,[(5,73)])])]
def alI:List (Nat×List (Nat×(Shape×List (Out×Shape)))):=[(3,[(65,QS),(257,QT),(449,QU),(401,QV)]),
 (6,[(65,QW)]),
 (7,[(113,QX),(289,QY),(225,QZ)]),
 (10,[(81,Q0)]),
 (11,[(129,Q1),(209,Q2),(401,Q3),(337,Q4)]),
 (12,[(81,Q5),(193,Q6),(369,Q7),(305,Q8)]),
 (13,[(81,Q9),(177,Ra)]),
 (14,[(225,Rb),(145,Rc)]),
 (15,[(81,Re)]),
 (22,[(65,Rf)]),
 (23,[(65,Rg)]),
 (24,[(225,Rh),(145,Ri)]),
 (25,[(161,Rj),(113,Rk)]),
 (26,[(145,Rl),(321,Rm),(225,Rn),(481,Ro),(417,Rp)]),
 (27,[(113,Rq)]),
 (28,[(81,Rr)]),
 (31,[(161,Rs),(81,Rt)]),
 (34,[(33,Ru)]),
 (35,[(33,Rv)]),
 (42,[(49,Rw)]),
 (43,[(49,ake)]),
 (44,[(161,Rx),(81,Ry),(321,Rz)]),
 (50,[(65,RA)]),
 (54,[(113,RB)]),
 (55,[(113,RC),(49,RD)]),
 (56,[(65,RE)]),
 (57,[(65,RF)]),
 (58,[(65,RG)]),
 (61,[(575,RH),(815,RI),(1103,RJ),(33,RK)]),
 (63,[(177,RL),(97,RM)]),
 (64,[(193,RN),(129,RO),(49,RP)]),
 (65,[(241,RQ),(177,RR),(97,RS)]),
 (66,[(113,RT),(65,RU)]),
 (68,[(321,akf)]),
 (70,[(81,akg)]),
 (73,[(161,akh)]),
 (74,[(97,RV),(177,RW)]),
 (75,[(81,RX),(273,RY),(209,RZ),(161,R0)]),
 (76,[(49,aki)]),
 (77,[(65,akj),(161,akk)]),
 (78,[(49,akl)]),
 (80,[(49,akm),(17,akn)]),
 (81,[(175,ako)]),
 (82,[(97,R3),(1167,R4),(1711,R5),(257,R6)]),
 (84,[(1263,R7),(65,R8)]),
 (85,[(33,R9)]),
 (86,[(33,Sa)]),
 (88,[(65,Sb),(17,Sd)]),
 (89,[(65,Se),(129,Sf)]),
 (90,[(703,Sg),(81,Sh)]),
 (91,[(559,Si),(527,Sj)]),
 (92,[(33,Sk)]),
 (93,[(81,Sl),(225,Sm),(991,Sn),(321,So),(49,Sp)]),
 (95,[(49,Sq),(81,Sr),(50,Ss)]),
 (96,[(49,Su),(81,Sv),(209,Sw),(241,Sy),(210,Sz)]),
 (98,[(79,SA),(143,SB)]),
 (100,[(81,akp)]),
 (103,[(399,akq)]),
 (104,[(463,akr),(367,aks),(239,akt),(175,aku),(111,akv)]),
 (107,[(161,SC),(81,SD)]),
 (111,[(17,akw)]),
 (117,[(17,akx)]),
 (118,[(33,aky)]),
 (120,[(65,SF)]),
 (122,[(81,SG)]),
 (123,[(49,SH)]),
 (124,[(81,SI)]),
 (127,[(591,SJ),(17,SL)]),
 (137,[(65,akz)]),
 (138,[(81,akA),(225,akB)]),
 (140,[(303,akC),(17,akD)]),
 (141,[(33,akE)]),
 (146,[(81,akF)]),
 (147,[(49,akG)]),
 (158,[(145,akH),(65,akI)]),
 (161,[(639,akJ),(911,akK),(1215,akL),(33,akM)]),
 (163,[(33,akN)]),
 (164,[(65,akO),(17,akP)]),
 (165,[(65,akQ),(129,akR)]),
 (166,[(735,akS),(81,akT)]),
 (167,[(591,akU),(559,akV)]),
 (168,[(33,akW)]),
 (169,[(81,akX),(225,akY),(1055,akZ),(321,ak0),(49,ak1)]),
 (170,[(49,ak2),(81,ak3),(50,ak4)]),
 (171,[(49,ak5),(81,ak6),(209,ak7),(241,ak8),(210,ak9)]),
 (172,[(655,ala),(17,alb)]),
 (199,[(33,alc)]),
 (200,[(49,ald),(17,ale)]),
 (201,[(81,alf)]),
 (202,[(33,alg)]),
 (203,[(81,alh)]),
 (205,[(49,ali),(17,alj)]),
 (206,[(49,alk),(17,alm)]),
 (207,[(49,aln),(17,alo)]),
 (208,[(49,alp),(17,alq)]),
 (209,[(49,alr),(17,als)]),
 (210,[(49,alu),(17,alv)]),
 (212,[(33,alw)])]
def alJ:List (Nat×List (Nat×List Nat)):=[(11,[(19,[67])]),
 (25,[(5,[26])]),
 (26,[(7,[42]),(24,[158])]),
 (48,[(11,[46])]),
 (55,[(1,[16])]),
 (77,[(8,[42])]),
 (146,[(12,[41])]),
 (158,[(15,[64])]),
 (201,[(12,[41])]),
 (203,[(12,[41])])]
def Ld (k:Nat):FuncId:=(eL alx k).getD 0
def j9:di where
 iD:=Ld
 sin:=fun k=>(eL aly k).getD ⟨[],[]⟩
 gz:=fun k=>(eL alz k).getD ⟨[],[]⟩
 live:=fun k r=>(eL ((eL alC (Ld k)).getD []) r).getD []
 join:=fun k r=>(eL ((eL alD (Ld k)).getD []) r).getD []
 blk:=fun k r=>(eL ((eL alE (Ld k)).getD []) r).getD []
 pur:=fun k r=>(eL ((eL alF k).getD []) r).getD []
 wU:=fun k=>(eL alG k).getD []
 alt:=fun k=>eL alA k
 Vv:=fun k r=>(eL ((eL alJ k).getD []) r).getD []
 ck:=fun k r i=>(eL ((eL ((eL alH k).getD []) r).getD []) i).getD 0
 iS:=fun k x=>eL ((eL alI k).getD []) x
 qz:=[]
 H6:=fun _=>0
 ext:=fun f=>bif Nat.beq f 153 then some 156 else none
 qA:=fun f=>bif Nat.beq f 51 then some 3 else bif Nat.beq f 87 then some 4 else none
 idle:=fun f=>false
 mv:=fun k=>(eL ([(26,[2]),(31,[1,2,3]),(36,[2,3]),(41,[1,2]),(42,[1,2]),(43,[1,2]),(60,[2,3]),(69,[1,2]),(83,[1,2,3,4,5,6,8,9,10]),(84,[1,2,3,4,5,6,8,9,10]),(99,[2,3]),(104,[1]),(105,[1]),(110,[2]),(114,[3]),(116,[2]),(121,[2,3,4,5,6,8,9,10]),(125,[2,3,4,5,6,8,9,10]),(126,[2,3,4,5,6,8,9,10]),(139,[1]),(140,[1]),(142,[1]),(154,[1]),(197,[1]),(207,[2]),(208,[2]),(210,[3])]:List (Nat×List Nat)) k).getD []
 aF:=fun g=>bif Nat.beq g 0 then .pref [5,5,5,5,5,5,5,5,5,5,5,5,5,5,5,5,5,5,5,5,5,5,5,5,5,5,5,5,5,5,5,5,5,5,5,5,5,5,5,5,5,5,5,5,5,5,5,5,5,5,5,5,5,5,5,5,5,5,5,5,5,5,5,5] KF else .undef
noncomputable abbrev PG:Program:=Tryz.prog
noncomputable abbrev CC:af:=Call Tryz.prog j9
noncomputable abbrev Lp (p:List Nat) (k:Nat):ou:= .loop (uq p (rU PG (j9.iD k)))
noncomputable abbrev Cd (t:Nat) (p q:List Nat) (k:Nat):ou:= .cond t (uq p (rU PG (j9.iD k))) (uq q (rU PG (j9.iD k)))
abbrev bc (C:af) (L:cz) (k:Nat) (b:ou):Prop:=sC PG j9 C L k (CE PG (j9.iD k)) (j9.sin k).cO.length b
end Go.AM
set_option maxRecDepth 100000
namespace Go.AM
open Go.IntKind (wrap)
open Go.Proofs Go.RowKit
set_option maxHeartbeats 1000000 in
theorem alK (hP:xC Tryz.prog):Jt Tryz.prog 51 3:=by
 refine ⟨fun args w=>MuLone.run_callFunc_enter Tryz.func51 (hP _ _ Tryz.func51) (by kernel_rfl:Tryz.f51.body=some (rU Tryz.prog 51)) _ _,33,by kernel_rfl,?_⟩;intro s w Q h1 h2 h3;have hu:Tryz.prog.underlying 33=some (.slice 3):=by kernel_rfl
 go_enter Tryz.func51,Tryz.ntmps51
 rcases h3 with rfl|⟨a,n,c,rfl⟩
 ·go_wp2
  rw[run_eql_slice_nil w 33 3 none 0 0 hu];simp only[Result.andThen];rw[Oper.upon_value]
  go_wp2
  exact trivial
 ·go_wp2
  rw[run_eql_slice_nil w 33 3 (some a) n c hu];simp only[Result.andThen];rw[Oper.upon_value]
  iterate 17 go_step
  obtain ⟨v,w',hv,hQ⟩:=h2 _ _ _ rfl;unfold Oper.wp;simp[execOp,resolve,invoke,Act.eval,hv,builtin];rw[Oper.upon_value]
  go_wp2
  exact hQ
set_option maxHeartbeats 1000000 in
theorem alL (hP:xC Tryz.prog):Jt Tryz.prog 87 4:=by
 refine ⟨fun args w=>MuLone.run_callFunc_enter Tryz.func87 (hP _ _ Tryz.func87) (by kernel_rfl:Tryz.f87.body=some (rU Tryz.prog 87)) _ _,22,by kernel_rfl,?_⟩;intro s w Q h1 h2 h3;have hu:Tryz.prog.underlying 22=some (.slice 4):=by kernel_rfl
 go_enter Tryz.func87,Tryz.ntmps87
 rcases h3 with rfl|⟨a,n,c,rfl⟩
 ·go_wp2
  rw[run_eql_slice_nil w 22 4 none 0 0 hu];simp only[Result.andThen];rw[Oper.upon_value]
  go_wp2
  exact trivial
 ·go_wp2
  rw[run_eql_slice_nil w 22 4 (some a) n c hu];simp only[Result.andThen];rw[Oper.upon_value]
  iterate 17 go_step
  obtain ⟨v,w',hv,hQ⟩:=h2 _ _ _ rfl;unfold Oper.wp;simp[execOp,resolve,invoke,Act.eval,hv,builtin];rw[Oper.upon_value]
  go_wp2
  exact hQ
theorem alM (hP:xC PG) (f:FuncId) (e:TypeId) (h:j9.qA f=some e):Jt PG f e:=by
 have h1:j9.qA f=bif Nat.beq f 51 then some 3 else bif Nat.beq f 87 then some 4 else none:=by kernel_rfl
 rw[h1] at h;cases Lf:Nat.beq f 51 with
 | true=>
  rw[Lf] at h;rw[aN] at Lf;cases h;subst Lf;exact alK hP
 | false=>
 rw[Lf] at h;simp only[cond_false] at h;cases Lg:Nat.beq f 87 with
 | true=>
  rw[Lg] at h;rw[aN] at Lg;cases h;subst Lg;exact alL hP
 | false=>
 rw[Lg] at h;simp only[cond_false] at h;cases h
theorem alN {w:World} {b:Nat} {C:Array Value} {T:TypeId} (h:w.heap[b]? =some (.cells C T (0,0))):w.shape? b=some (T,C.size)∧w.frozen? ⟨b,0,none⟩=false∧w.cell? ⟨b,0,none⟩=C[0]? :=by
 refine ⟨by simp[World.shape?,h],by simp[World.frozen?,h],cell?_cells h⟩
set_option maxHeartbeats 1000000 in
theorem alO (b:Nat) (w:World) (h0:w.cell? ⟨b,0,none⟩=some (.pointer (some ⟨b,0,none⟩))):
  Calls Tryz.prog 153 #[.pointer (some ⟨b,0,none⟩)] w fun e w'=>e= .returned (.tuple #[])∧w'=w:=by
 obtain ⟨j,hj⟩:=zb.1 (show (Tryz.prog.info? 156).isSome=true by kernel_rfl);have hu:Tryz.prog.underlying 154=some (.pointer 156):=by kernel_rfl
 go_enter Tryz.func153,Tryz.ntmps153
 go_wp2
 rw[Lib.run_neq_ptr_same w _ hu hj]
 go_wp2
 go_end0
 exact ⟨rfl,rfl⟩
set_option maxHeartbeats 1000000 in
theorem alP (b n:Nat) (w:World) (hn:0<n) (h0:w.cell? ⟨b,0,none⟩=some (.pointer none)) (Jh:w.shape? b=some (156,n)) (Aa:w.frozen? ⟨b,0,none⟩=false) (hl:liesAt Tryz.prog Tryz.prog.depth 156 (n/Tryz.prog.cellsOf 156) 0 156 1=true):
  Calls Tryz.prog 153 #[.pointer (some ⟨b,0,none⟩)] w fun e w'=>e= .returned (.tuple #[])∧w'=w.setCell ⟨b,0,none⟩ (.pointer (some ⟨b,0,none⟩)):=by
 obtain ⟨j,hj⟩:=zb.1 (show (Tryz.prog.info? 156).isSome=true by kernel_rfl);have hjs:j.size≠0:=by
  have h2:(Tryz.prog.info? 156).map (·.size)=some 2:=by kernel_rfl
  rw[hj] at h2;simp at h2;omega
 have hu:Tryz.prog.underlying 154=some (.pointer 156):=by kernel_rfl
 have o5:Tryz.prog.underlying 205=some .unsafePointer:=by kernel_rfl
 go_enter Tryz.func153,Tryz.ntmps153
 go_wp2
 rw[Lib.run_to_unsafe w ⟨b,0,none⟩ hu o5 hj hjs Jh hn];simp only[Result.andThen];rw[Oper.upon_value]
 go_wp2
 rw[run_callFunc_extern Tryz.func160 (by kernel_rfl) (by kernel_rfl) (by kernel_rfl) (e:=Extern.AbiNoEscape.same) (by kernel_rfl)];rw[Lib.run_noEscape];simp only[Result.andThen];rw[Oper.upon_value]
 go_wp2
 rw[Lib.run_from_unsafe w ⟨b,0,none⟩ o5 hu hj Jh hl];simp only[Result.andThen];rw[Oper.upon_value]
 go_wp2
 go_end0
 exact ⟨rfl,rfl⟩
theorem alQ (hP:xC Tryz.prog):jB Tryz.prog j9 where
 count:=hP
 qA:=alM hP
 ext:=by
  intro f T h b C w hh hs hc;have hf:f=153∧T=156:=by
   have h1:j9.ext f=bif Nat.beq f 153 then some 156 else none:=by kernel_rfl
   rw[h1] at h;cases hb:Nat.beq f 153 with
   | true=>rw[hb] at h;rw[aN] at hb;exact ⟨hb,(dC h).symm⟩
   | false=>rw[hb] at h;cases h
  obtain ⟨rfl,rfl⟩:=hf;obtain ⟨h1,h2,h3⟩:=alN hh;refine ⟨MuLone.run_callFunc_enter Tryz.func153 (hP _ _ Tryz.func153) (by kernel_rfl:Tryz.f153.body=some (rU Tryz.prog 153)) _ _,?_⟩;have fc:Tryz.prog.cellsOf 156=2:=by kernel_rfl
  rcases hc with hc|hc
  ·refine (alP b C.size w (by omega) (h3.trans hc) h1 h2 (by rw[hs,fc];kernel_rfl)).mono ?_;rintro e w' ⟨rfl,rfl⟩;exact ⟨rfl,.inr rfl⟩
  ·refine (alO b w (h3.trans hc)).mono ?_;rintro e w' ⟨rfl,rfl⟩;exact ⟨rfl,.inl rfl⟩
 Pt:=by
  intro f T h h0 s c w;have h1:j9.ext f=bif Nat.beq f 153 then some 156 else none:=by kernel_rfl
  rw[h1] at h;have fc:Tryz.prog.cellsOf 156=2:=by kernel_rfl
  cases hb:Nat.beq f 153 with
  | true=>
   rw[hb] at h;obtain rfl:156=T:=dC h;omega
  | false=>
   rw[hb] at h;simp only[cond_false] at h;cases h
 idle:=by
  intro f h;have h1:j9.idle f=false:=by kernel_rfl
  rw[h1] at h;cases h
end Go.AM
set_option maxRecDepth 100000
namespace Go.AM
open Go.IntKind (wrap)
open Go.Proofs Go.Proofs.YtpigoedhkpjgeaaGreatDoor Go.Lib Go.MakeChecks
def uG:List Int:=[0,1,56,2,57,49,28,3,61,58,42,50,38,29,17,4,62,47,59,36,45,43,51,22,53,39,33,30,24,18,12,5,63,55,48,27,60,41,37,16,46,35,44,21,52,32,23,11,54,26,40,15,34,20,31,10,25,14,19,9,13,8,7,6]
theorem alR:KF=uG.map fun z=> .int .u8 z:=by kernel_rfl
theorem alS:Rows.laid_math_bits_deBruijn64tab (H:=Unit)=tabData .u8 uG:=by kernel_rfl
def EM : List (String×DataW Unit) := [("math/bits.deBruijn64tab", Rows.laid_math_bits_deBruijn64tab)]
theorem afo {W:World} (h:laidMetH Tryz.prog EM W):iF Tryz.prog j9.aF W (ot W):=by
 have h1 : laidMetH Tryz.prog [("math/bits.deBruijn64tab", tabData .u8 uG)] W := by
  have : EM = [("math/bits.deBruijn64tab", tabData .u8 uG)] := by unfold EM; rw [alS]
  rwa [this] at h
 rw[laidMetH_plain _ _ _ (by kernel_rfl)] at h1;have hn : Tryz.prog.globalNamed "math/bits.deBruijn64tab" = some 0 := by kernel_rfl
 have ht:=tabIs_of_head (g:=0) (t:=190) (e:=5) (n:=64) hn (by kernel_rfl) (by kernel_rfl) (by kernel_rfl) (by kernel_rfl) (by kernel_rfl) h1;have hlen:uG.length=64:=by kernel_rfl
 have hc: ∀i,i<64→W.cell? ⟨0,i,none⟩=some (.int .u8 (uG.getD i 0)):=fun i hi=>ht.cell hn i (by rw[hlen];exact hi);intro g;have hg:j9.aF g=bif Nat.beq g 0 then .pref (List.replicate 64 5) KF else .undef:=by kernel_rfl
 rw[hg];cases hb:Nat.beq g 0 with
 | false=>exact .inl rfl
 | true=>
  rw[aN] at hb;subst hb;refine .inr ⟨List.replicate 64 5,KF,rfl,by kernel_rfl,fun _ _=> ?_,fun j t x hj hx=> ?_⟩
  ·have h0:=hc 0 (by omega);unfold ot;unfold World.cell? at h0;by_cases hz:0<W.heap.size
   ·exact hz
   ·have:W.heap[0]? =none:=Array.getElem?_eq_none (by omega);simp[this] at h0
  ·have Lh:j<64:=by
    have:=(ct.1 hj).1;simpa using this
   rw[HN,ak Lh] at hj;cases hj;rw[alR,jk] at hx;have jv:uG[j]? =some (uG.getD j 0):=by
    rw[bS (by rw[hlen];exact Lh)];simp[List.getD,bS (show j<uG.length by rw[hlen];exact Lh)]
   rw[jv] at hx;cases hx;exact ⟨_,by simpa using hc j Lh,.int (by kernel_rfl)⟩
theorem own:ownKnob Tryz.prog.godebug=none:=by kernel_rfl
theorem alT:xC Tryz.prog:=aiu (by kernel_rfl)
theorem mixed:Tryz.prog.follows .mixedOrders=true:=by kernel_rfl
theorem afn:jB Tryz.prog j9:=alQ alT
noncomputable def Vt (os:Os):World:=World.laidAll Tryz.prog os EM
theorem afl (os:Os) (args:Array Value):laidMetH Tryz.prog EM ((Vt os).forCall (fun _ _=>0) ⟨#[],args,[]⟩).memory:=by
 rw[laidMetH_plain _ _ _ (by kernel_rfl)];exact laidMet_laidAll args (by kernel_rfl) (by kernel_rfl)
end Go.AM
namespace Go.AM
open Go.IntKind (wrap)
theorem wrap_u64 (n:Int):IntKind.u64.wrap n=n %18446744073709551616:=by simp[IntKind.wrap,IntKind.bits,IntKind.signed]
theorem EN {A:Nat} (h:A<2^64):wrap .u64 (A:Int)=A:=by
 rw[wrap_u64];omega
theorem abw {n A:Nat} (h:A<2^n):(BitVec.ofInt n (A:Int)).toNat=A:=by
 rw[BitVec.ofInt_natCast,BitVec.toNat_ofNat];exact B8 h
theorem bv_and {n A B:Nat} (hA:A<2^n) (hB:B<2^n):(BitVec.ofInt n (A:Int)&&&BitVec.ofInt n (B:Int)).toNat=A&&&B:=by
 rw[BitVec.toNat_and,abw hA,abw hB]
theorem u64_and {A B:Nat} (hA:A<2^64) (hB:B<2^64):wrap .u64 ((BitVec.ofInt (IntKind.bits .u64) (A:Int)&&&BitVec.ofInt (IntKind.bits .u64) (B:Int)).toNat)=((A&&&B:Nat):Int):=by
 rw[bv_and (n:=IntKind.bits .u64) hA hB];exact EN (Nat.lt_of_le_of_lt Nat.and_le_left hA)
theorem alU {m:Nat} (h:m<64):wrap .u64 (1*2^(min m (IntKind.bits .u64)))=((2^m:Nat):Int):=by
 have e:min m (IntKind.bits .u64)=m:=Nat.min_eq_left (by show m≤64;omega);rw[e];have:(1*2^m:Int)=((2^m:Nat):Int):=by simp
 rw[this];exact EN (Nat.pow_lt_pow_right (by omega) h)
theorem SN {A m:Nat} (h:m<64):Int.fdiv (A:Int) (2^(min m (IntKind.bits .u64)))=((A/2^m:Nat):Int):=by
 have e:min m (IntKind.bits .u64)=m:=Nat.min_eq_left (by show m≤64;omega);rw[e];have:(2^m:Int)=((2^m:Nat):Int):=by simp
 rw[this,Int.fdiv_eq_ediv_of_nonneg _ (Int.natCast_nonneg _)];exact Int.natCast_ediv ..
end Go.AM
set_option maxRecDepth 100000
namespace Go.AM
open Go.IntKind (wrap)
open Go.Proofs
theorem Li:maxLen≤9223372036854775807:=by unfold maxLen;omega
theorem abx:bm=35184372088832:=by unfold bm;rfl
section
variable {α β:Type} {o:Option α} {a:α} {f:α→Option β} {r:Option β} {x y z:β} {b:Bool}
theorem bs (h:o=some a) (h2:f a=r):o.bind f=r:=by rw[h];exact h2
theorem bT (hb:b=true) (h:x=z):(bif b then x else y)=z:=by rw[hb];exact h
theorem bF (hb:b=false) (h:y=z):(bif b then x else y)=z:=by rw[hb];exact h
end
section
variable {X R A α:Type} {step:X→Option (X ⊕ R)}
theorem AY (good:Nat→Prop) [DecidablePred good] (n:Nat) (s:Nat→X) (bad ok:R) (h: ∀i,i<n→step (s i)=some (if good i then .inl (s (i+1)) else .inr bad)) (he:step (s n)=some (.inr ok)):
  Loop step (s 0)=some (if∀i,i<n→good i then ok else bad):=by
 have go: ∀(d k:Nat),k+d=n→((∀i,k≤i→i<n→good i)→Loop step (s k)=some ok)∧((¬∀i,k≤i→i<n→good i)→Loop step (s k)=some bad):=by
  intro d
  induction d with
  | zero=>
   intro k hk;have:k=n:=by omega
   subst this;exact ⟨fun _=>cT he,fun hx=>absurd (fun i h1 h2=>by omega) hx⟩
  | succ d ih=>
   intro k hk;have h1:=h k (by omega);by_cases hg:good k
   ·rw[ak hg] at h1;rw[eJ h1];obtain ⟨i1,i2⟩:=ih (k+1) (by omega);refine ⟨fun ha=>i1 fun i h1 h2=>ha i (by omega) h2,fun ha=>i2 fun hx=>ha fun i h1 h2=> ?_⟩;by_cases hi:i=k
    ·rw[hi];exact hg
    ·exact hx i (by omega) h2
   ·rw[aj hg] at h1;rw[cT h1];exact ⟨fun ha=>absurd (ha k (az _) (by omega)) hg,fun _=>rfl⟩
 obtain ⟨g1,g2⟩:=go n 0 (by omega);by_cases ha: ∀i,i<n→good i
 ·rw[ak ha];exact g1 fun i _ h=>ha i h
 ·rw[aj ha];exact g2 fun hx=>ha fun i h=>hx i (by omega) h
end
end Go.AM
set_option maxRecDepth 100000
namespace Go.AM
open Go.IntKind (wrap)
theorem bD {α:Type} {l:List α} {i:Nat} {d:α} (h:i<l.length):l.getD i d=l[i]:=by simp[h]
structure Da where
 L:Nat
 st:Nat
 F:List Bool
 N:List (List Nat)
deriving DecidableEq
namespace Da
def n (d:Da):Nat:=d.F.length
def nx (d:Da) (q x:Nat):Nat:=(d.N.getD q []).getD x 0
def fin (d:Da) (q:Nat):Bool:=d.F.getD q false
def run (d:Da) (q:Nat) (w:List Nat):Nat:=w.foldl d.nx q
def acc (d:Da) (q:Nat) (w:List Nat):Bool:=d.fin (d.run q w)
structure Ok (d:Da):Prop where
 l1:1≤d.L
 l6:d.L≤6
 nN:d.N.length=d.n
 row: ∀r∈d.N,r.length=d.L∧∀q∈r,q<d.n
 s:d.st<d.n
 je:d.n≤512
end Da
def WL (L:Nat) (w:List Nat):Prop:= ∀x∈w,x<L
theorem WL.nil {L:Nat}:WL L []:=fun _ h=>by cases h
theorem WL.cons {L x:Nat} {w:List Nat} (h:x<L) (hw:WL L w):WL L (x::w):=fun y hy=>by
 rcases lz.1 hy with rfl|hy
 ·exact h
 ·exact hw y hy
theorem WL.head {L x:Nat} {w:List Nat} (h:WL L (x::w)):x<L:=h x (by simp)
theorem WL.tail {L x:Nat} {w:List Nat} (h:WL L (x::w)):WL L w:=fun y hy=>h y (by simp[hy])
theorem WL.app {L:Nat} {v w:List Nat}:WL L (v++w)↔WL L v∧WL L w:=by
 unfold WL;simp only[eS];exact ⟨fun h=>⟨fun x hx=>h x (.inl hx),fun x hx=>h x (.inr hx)⟩,fun h x hx=>hx.elim (h.1 x) (h.2 x)⟩
namespace Da
def qg (d:Da) (q:Nat) (d':Da) (q':Nat):Prop:= ∀w,WL d.L w→d.acc q w=d'.acc q' w
theorem Ok.kq {d:Da} (h:d.Ok) {q x:Nat} (hq:q<d.n) (hx:x<d.L):d.nx q x<d.n:=by
 have dI:q<d.N.length:=by rw[h.nN];exact hq
 have hr:=h.row d.N[q] (cM dI);unfold nx;rw[bD dI,bD (by omega)];exact hr.2 _ (cM _)
theorem Ok.wm {d:Da} (h:d.Ok): ∀(w:List Nat) {q:Nat},q<d.n→WL d.L w→d.run q w<d.n
 | [],q,hq,_=>hq
 | x::w,q,hq,hw=>h.wm w (h.kq hq hw.head) hw.tail
theorem SP {d:Da} {q x:Nat} {w:List Nat}:d.run q (x::w)=d.run (d.nx q x) w:=rfl
theorem Lj {d:Da} {q x:Nat} {w:List Nat}:d.acc q (x::w)=d.acc (d.nx q x) w:=rfl
theorem Lk {d:Da} {q:Nat} {v w:List Nat}:d.run q (v++w)=d.run (d.run q v) w:=ze
theorem wo {d:Da} {q:Nat} {v w:List Nat}:d.acc q (v++w)=d.acc (d.run q v) w:=by unfold acc;rw[Lk]
theorem sK {d:Da} {q:Nat}:d.acc q []=d.fin q:=rfl
theorem qg.nx {d d':Da} {q q' x:Nat} (h:d.qg q d' q') (hx:x<d.L):d.qg (d.nx q x) d' (d'.nx q' x):=fun w hw=>h (x::w) (hw.cons hx)
def pos (d:Da) (t:Nat):Nat:=d.nx (t/d.L) (t %d.L)
def mt (d:Da):Nat→Nat
 | 0=>1
 | t+1=>if d.pos t=d.mt t then d.mt t+1 else d.mt t
structure Ll (d:Da):Prop where
 le: ∀t,t<d.n*d.L→d.pos t≤d.mt t
 row: ∀q,q<d.n→q<d.mt (q*d.L)
 all:d.mt (d.n*d.L)=d.n
structure Canon (d:Da) (L:Nat) (K:List Nat→Bool):Prop where
 ok:d.Ok
 hL:d.L=L
 st:d.st=0
 num:d.Ll
 red: ∀p q,p<d.n→q<d.n→d.qg p d q→p=q
 AZ: ∀w,WL L w→d.acc 0 w=K w
theorem Lm (d:Da): ∀{s t:Nat},s≤t→d.mt s≤d.mt t:=by
 intro s t h
 induction t with
 | zero=>rw[ve.1 h];exact az _
 | succ t ih=>
  rcases gy s (t+1) with h1|h1
  ·have:=ih (by omega);have e:d.mt (t+1)=if d.pos t=d.mt t then d.mt t+1 else d.mt t:=rfl
   rw[e];split<;>omega
  ·rw[show s=t+1 by omega];exact az _
theorem SQ {d d':Da} {K:List Nat→Bool} {L:Nat} (h:d.Canon L K) (h':d'.Canon L K): ∀t,t≤d.n*L→t≤d'.n*L→d.mt t=d'.mt t∧(∀s,s<t→d.pos s=d'.pos s)∧∀q,q<d.mt t→d.qg q d' q:=by
 intro t;have e:=h.hL;have e':=h'.hL;have hl:=h.ok.l1
 induction t with
 | zero=>
  intro _ _;refine ⟨rfl,fun s hs=>by omega,fun q hq=> ?_⟩;obtain rfl:q=0:=by have:q<1:=hq;omega
  intro w hw;rw[h.AZ w (e▸hw),h'.AZ w (e▸hw)]
 | succ t ih=>
  intro h1 h2;obtain ⟨i1,i2,i3⟩:=ih (by omega) (by omega);have hm:d.mt t≤d.n:=by rw[←h.num.all];exact d.Lm (by rw[e];omega)
  have xf:d'.mt t≤d'.n:=by rw[←h'.num.all];exact d'.Lm (by rw[e'];omega)
  have hq:t/L<d.n:=by rw[HV (by omega)];omega
  have dI:t/L<d'.n:=by rw[HV (by omega)];omega
  have hx:t %L<L:=wP _ (by omega);have hqm:t/L<d.mt t:=by
   have a:=h.num.row _ hq;rw[e] at a;have b:d.mt (t/L*L)≤d.mt t:=d.Lm (Nat.div_mul_le_self t L);omega
  have hE:=(i3 _ hqm).nx (by rw[e];exact hx);have p1:d.pos t=d.nx (t/L) (t %L):=by unfold pos;rw[e]
  have p2:d'.pos t=d'.nx (t/L) (t %L):=by unfold pos;rw[e']
  rw[←p1,←p2] at hE;have l1:=h.num.le t (by rw[e];omega);have l2:=h'.num.le t (by rw[e'];omega);have b1:d.pos t<d.n:=by rw[p1];exact h.ok.kq hq (by rw[e];exact hx)
  have b2:d'.pos t<d'.n:=by rw[p2];exact h'.ok.kq dI (by rw[e'];exact hx)
  have key:d.pos t=d'.pos t:=by
   rcases gy (d.pos t) (d.mt t) with c|c
   ·have hA:=i3 _ c;refine h'.red _ _ (by omega) b2 fun w hw=> ?_;have hw2:WL d.L w:=by rw[e,←e'];exact hw
    rw[←hA w hw2,hE w hw2]
   ·rcases gy (d'.pos t) (d.mt t) with c'|c'
    ·have hA:=i3 _ c';refine h.red _ _ b1 (by omega) fun w hw=> ?_;rw[hE w hw,hA w hw]
    ·omega
  refine ⟨?_,?_,?_⟩
  ·unfold mt;rw[key,i1]
  ·intro s hs;rcases gy s t with c|c
   ·exact i2 s c
   ·rw[show s=t by omega];exact key
  ·intro q qV;rcases gy q (d.mt t) with c|c
   ·exact i3 q c
   ·have:d.pos t=d.mt t∧q=d.mt t:=by
     unfold mt at qV;split at qV
     ·rename_i h3;exact ⟨h3,by omega⟩
     ·omega
    rw[←key,this.1,←this.2] at hE;exact hE
theorem alV {a b:List Nat} (hl:a.length=b.length) (h: ∀x,x<a.length→a.getD x 0=b.getD x 0):a=b:=by
 refine tn hl fun x h1 h2=> ?_;have:=h x h1;rwa [bD h1,bD h2] at this
theorem SR {d:Da} (h:d.Ok) {q:Nat} (hq:q<d.n):(d.N.getD q []).length=d.L:=by
 have dI:q<d.N.length:=by rw[h.nN];exact hq
 rw[bD dI];exact (h.row _ (cM dI)).1
theorem Canon.eq {d d':Da} {K:List Nat→Bool} {L:Nat} (h:d.Canon L K) (h':d'.Canon L K):d=d':=by
 have e:=h.hL;have e':=h'.hL;have hl:=h.ok.l1;rw[e] at hl;have hn:d.n=d'.n:=by
  rcases Nat.lt_trichotomy d.n d'.n with c|c|c
  ·obtain ⟨s1,_,_⟩:=SQ h h' (d.n*L) (az _) (ef _ (by omega));have a:=h.num.all;have b:=h'.num.row d.n c;rw[e] at a;rw[e'] at b;omega
  ·exact c
  ·obtain ⟨s1,_,_⟩:=SQ h h' (d'.n*L) (ef _ (by omega)) (az _);have a:=h'.num.all;have b:=h.num.row d'.n c;rw[e'] at a;rw[e] at b;omega
 obtain ⟨s1,s2,s3⟩:=SQ h h' (d.n*L) (az _) (by rw[hn];exact az _);have a:=h.num.all;rw[e] at a;have hE: ∀q,q<d.n→d.qg q d' q:=fun q hq=>s3 q (by omega);have hP: ∀q x,q<d.n→x<L→d.nx q x=d'.nx q x:=fun q x hq hx=>by
  have:=s2 (q*L+x) (by
   have:(q+1)*L≤d.n*L:=ef _ (by omega);rw[jN] at this;omega)
  unfold pos at this;rw[e,e'] at this;rwa [show (q*L+x)/L=q by rw[pG,Nat.mul_add_div (by omega),Nat.div_eq_of_lt hx];rfl,show (q*L+x) %L=x by rw[pG,Nat.mul_add_mod,B8 hx]] at this
 have hF:d.F=d'.F:=by
  refine tn hn fun q h1 h2=> ?_;have:=hE q h1 [] WL.nil;rw[sK,sK] at this;unfold fin at this;rwa [bD h1,bD h2] at this
 have hN:d.N=d'.N:=by
  refine tn (by rw[h.ok.nN,h'.ok.nN,hn]) fun q h1 h2=> ?_;have hq:q<d.n:=by rw[←h.ok.nN];exact h1
  have r1:=SR h.ok hq;have r2:=SR h'.ok (show q<d'.n by omega);have hx:=fun x hx=>hP q x hq hx;unfold nx at hx;rw[bD h1] at r1 hx;rw[bD h2] at r2 hx;exact alV (by omega) fun x h3=>hx x (by omega)
 obtain ⟨L1,s1,F1,N1⟩:=d;obtain ⟨L2,s2,F2,N2⟩:=d';have q1:=h.st;have q2:=h'.st;simp only at*
 subst hF hN e e' q1 q2;rfl
end Da
section
variable {α:Type} [DecidableEq α]
def bR (S:List α) (a:α):List α:=if a∈S then S else S++[a]
def cx (next:α→Nat→α) (S:List α) (a:α):Nat→List α
 | 0=>S
 | x+1=>bR (cx next S a x) (next a x)
def aJ (L:Nat) (next:α→Nat→α) (a0:α):Nat→List α
 | 0=>[a0]
 | i+1=>match (aJ L next a0 i)[i]? with
  | some a=>cx next (aJ L next a0 i) a L
  | none=>aJ L next a0 i
theorem nz (S:List α) (a:α):S <+: bR S a:=by
 unfold bR;split
 ·exact nW _
 ·exact List.prefix_append _ _
theorem wq {S:List α} {a:α}:a∈bR S a:=by
 unfold bR;split
 ·assumption
 ·simp
theorem SS {S:List α} {a:α} (h:S.Nodup):(bR S a).Nodup:=by
 unfold bR;split
 ·exact h
 ·rename_i h2;refine Ce.2 ⟨h,by simp,fun x hx y hy e=> ?_⟩;rw[fl.1 hy] at e;exact h2 (e▸hx)
theorem A0 {S:List α} {a:α}:(bR S a).length=if a∈S then S.length else S.length+1:=by
 unfold bR;split<;>simp
variable {L:Nat} {next:α→Nat→α} {a0:α}
theorem Ln (S:List α) (a:α): ∀x,S <+: cx next S a x
 | 0=>nW _
 | x+1=>(Ln S a x).trans (nz _ _)
theorem A1 (S:List α) (a:α) {x y:Nat} (h:x≤y):cx next S a x <+: cx next S a y:=by
 induction y with
 | zero=>rw[ve.1 h];exact nW _
 | succ y ih=>
  rcases gy x (y+1) with c|c
  ·exact (ih (by omega)).trans (nz _ _)
  ·rw[show x=y+1 by omega];exact nW _
theorem aby {S:List α} {a:α} (h:S.Nodup): ∀x,(cx next S a x).Nodup
 | 0=>h
 | x+1=>SS (aby h x)
theorem abz {S:List α} {a:α} {x y:Nat} (h:x<y):next a x∈cx next S a y:=
 (A1 S a (show x+1≤y by omega)).subset wq
theorem alW {i:Nat} {a:α} (h:(aJ L next a0 i)[i]? =some a):aJ L next a0 (i+1)=cx next (aJ L next a0 i) a L:=by
 rw[aJ,h]
theorem alX {i:Nat} (h:(aJ L next a0 i).length≤i):aJ L next a0 (i+1)=aJ L next a0 i:=by
 rw[aJ,List.getElem?_eq_none h]
theorem alY (i:Nat):aJ L next a0 i <+: aJ L next a0 (i+1):=by
 rw[aJ];split
 ·exact Ln _ _ _
 ·exact nW _
theorem uH {i j:Nat} (h:i≤j):aJ L next a0 i <+: aJ L next a0 j:=by
 induction j with
 | zero=>rw[ve.1 h];exact nW _
 | succ j ih=>
  rcases gy i (j+1) with c|c
  ·exact (ih (by omega)).trans (alY j)
  ·rw[show i=j+1 by omega];exact nW _
theorem A3: ∀i,(aJ L next a0 i).Nodup
 | 0=>by simp[aJ]
 | i+1=>by
  rw[aJ];split
  ·exact aby (A3 i) _
  ·exact A3 i
theorem abA {i j:Nat} (h:(aJ L next a0 i).length≤i) (hj:i≤j):aJ L next a0 j=aJ L next a0 i:=by
 induction j with
 | zero=>rw[ve.1 hj]
 | succ j ih=>
  rcases gy i (j+1) with c|c
  ·rw[alX (by rw[ih (by omega)];omega),ih (by omega)]
  ·rw[show i=j+1 by omega]
theorem alZ (i:Nat):(aJ L next a0 i)[0]? =some a0:=by
 have h:=uH (L:=L) (next:=next) (a0:=a0) (kP i);have h0:0<(aJ L next a0 0).length:=by simp[aJ]
 rw[bS (lr h0 h.length_le),←h.getElem h0];rfl
theorem SU (i:Nat):0<(aJ L next a0 i).length:=lr (by simp[aJ]) (uH (L:=L) (next:=next) (a0:=a0) (kP i)).length_le
theorem Lo: ∀i,∀a∈aJ L next a0 i,∃w,WL L w∧a=w.foldl next a0
 | 0,a,h=>⟨[],WL.nil,by simpa[aJ] using h⟩
 | i+1,a,h=>by
  rw[aJ] at h;split at h
  ·rename_i b hb;have ay:b∈aJ L next a0 i:=kO hb
   obtain ⟨w,hw,rfl⟩:=Lo i b ay;have: ∀x,x≤L→∀a∈cx next (aJ L next a0 i) (w.foldl next a0) x,∃w,WL L w∧a=w.foldl next a0:=by
    intro x
    induction x with
    | zero=>intro _ a h;exact Lo i a h
    | succ x ih=>
     intro hx a h;rw[cx] at h;unfold bR at h;split at h
     ·exact ih (by omega) a h
     ·rcases eS.1 h with h|h
      ·exact ih (by omega) a h
      ·refine ⟨w++[x],WL.app.2 ⟨hw,WL.nil.cons (by omega)⟩,?_⟩;rw[fl.1 h,ze];rfl
   exact this L (az _) a h
  ·exact Lo i a h
section
variable {k:Nat} (hd:(aJ L next a0 k).length≤k)
include hd
theorem SV {i:Nat} (h:i<(aJ L next a0 k).length):i<(aJ L next a0 i).length:=by
 rcases gy i (aJ L next a0 i).length with c|c
 ·exact c
 ·have:=abA c (show i≤k by omega);rw[this] at h;omega
theorem al0 {i:Nat} (h:i<(aJ L next a0 k).length):(aJ L next a0 i)[i]? =some (aJ L next a0 k)[i]:=by
 have h1:=SV hd h;rw[bS h1,(uH (show i≤k by omega)).getElem h1]
theorem EO {i:Nat} (h:i<(aJ L next a0 k).length):aJ L next a0 (i+1)=cx next (aJ L next a0 i) (aJ L next a0 k)[i] L:=alW (al0 hd h)
theorem abB {a:α} (h:a∈aJ L next a0 k) {x:Nat} (hx:x<L):next a x∈aJ L next a0 k:=by
 obtain ⟨i,hi,rfl⟩:=qy h;have h1:next (aJ L next a0 k)[i] x∈aJ L next a0 (i+1):=by rw[EO hd hi];exact abz hx
 rcases gy i k with c|c
 ·exact (uH (show i+1≤k by omega)).subset h1
 ·omega
end
def gp (L:Nat) (next:α→Nat→α) (fin:α→Bool) (S:List α):Da where
 L:=L
 st:=0
 F:=S.map fin
 N:=S.map fun a=>(List.range L).map fun x=>S.idxOf (next a x)
theorem sL {fin:α→Bool} {S:List α}:(gp L next fin S).n=S.length:=by simp[gp,Da.n]
theorem Lq {fin:α→Bool} {S:List α} {i x:Nat} (hi:i<S.length) (hx:x<L):(gp L next fin S).nx i x=S.idxOf (next S[i] x):=by
 unfold Da.nx gp;simp[vi,hi,hx]
theorem abC {fin:α→Bool} {S:List α} {i:Nat} (hi:i<S.length):(gp L next fin S).fin i=fin S[i]:=by
 unfold Da.fin gp;simp[vi,hi]
theorem A4 {S T:List α} (hp:T <+: S) {a:α} (h:a∈T):S.idxOf a=T.idxOf a:=by
 obtain ⟨U,rfl⟩:=hp;rw[zf,ak h]
section
variable {k:Nat} (hd:(aJ L next a0 k).length≤k) {fin:α→Bool}
include hd
theorem al1 {i x:Nat} (hi:i<(aJ L next a0 k).length) (hx:x<L): ∃h:(gp L next fin (aJ L next a0 k)).nx i x<(aJ L next a0 k).length,(aJ L next a0 k)[(gp L next fin (aJ L next a0 k)).nx i x]=next (aJ L next a0 k)[i] x:=by
 have hm:=abB hd (cM hi) hx;rw[Lq hi hx];exact ⟨vj hm,HW _⟩
theorem abD: ∀(w:List Nat) {i:Nat} (hi:i<(aJ L next a0 k).length),WL L w→∃h:(gp L next fin (aJ L next a0 k)).run i w<(aJ L next a0 k).length,(aJ L next a0 k)[(gp L next fin (aJ L next a0 k)).run i w]=w.foldl next (aJ L next a0 k)[i]
 | [],i,hi,_=>⟨hi,rfl⟩
 | x::w,i,hi,hw=>by
  obtain ⟨h1,h2⟩:=al1 (fin:=fin) hd hi hw.head;obtain ⟨h3,h4⟩:=abD w h1 hw.tail;refine ⟨h3,?_⟩;rw[List.foldl_cons,←h2];exact h4
theorem al2 {w:List Nat} {i:Nat} (hi:i<(aJ L next a0 k).length) (hw:WL L w):(gp L next fin (aJ L next a0 k)).acc i w=fin (w.foldl next (aJ L next a0 k)[i]):=by
 obtain ⟨h1,h2⟩:=abD (fin:=fin) hd w hi hw;unfold Da.acc;rw[abC h1,h2]
theorem al3 (h1:1≤L) (h6:L≤6) (hm:(aJ L next a0 k).length≤512):(gp L next fin (aJ L next a0 k)).Ok where
 l1:=h1
 l6:=h6
 nN:=by rw[sL];simp[gp]
 row r hr:=by
  rw[sL];obtain ⟨a,ha,rfl⟩:=ez.1 (show r∈(aJ L next a0 k).map _ from hr);refine ⟨by simp[gp],fun q hq=> ?_⟩;obtain ⟨x,hx,rfl⟩:=ez.1 hq;exact vj (abB hd ha (fm.1 hx))
 s:=by rw[sL];exact SU k
 je:=by rw[sL];exact hm
theorem SW (h1:1≤L): ∀i,i≤(aJ L next a0 k).length→(gp L next fin (aJ L next a0 k)).mt (i*L)=(aJ L next a0 i).length∧∀(hi:i<(aJ L next a0 k).length) x,x≤L→(gp L next fin (aJ L next a0 k)).mt (i*L+x)=(cx next (aJ L next a0 i) (aJ L next a0 k)[i] x).length:=by
 have key: ∀i,(gp L next fin (aJ L next a0 k)).mt (i*L)=(aJ L next a0 i).length→∀(hi:i<(aJ L next a0 k).length) x,x≤L→(gp L next fin (aJ L next a0 k)).mt (i*L+x)=(cx next (aJ L next a0 i) (aJ L next a0 k)[i] x).length:=by
  intro i h hi x
  induction x with
  | zero=>intro _;exact h
  | succ x ih=>
   intro hx;have ih:=ih (by omega);have hp:cx next (aJ L next a0 i) (aJ L next a0 k)[i] (x+1) <+: aJ L next a0 k:=by
    refine (A1 _ _ hx).trans ?_;rw[←EO hd hi];exact uH (by omega)
   have hp0:cx next (aJ L next a0 i) (aJ L next a0 k)[i] x <+: aJ L next a0 k:=(A1 _ _ (by omega)).trans hp
   have gQ:(gp L next fin (aJ L next a0 k)).pos (i*L+x)=(aJ L next a0 k).idxOf (next (aJ L next a0 k)[i] x):=by
    unfold Da.pos;rw[show (gp L next fin (aJ L next a0 k)).L=L from rfl,show (i*L+x)/L=i by rw[pG,Nat.mul_add_div (by omega),Nat.div_eq_of_lt (by omega)];rfl,show (i*L+x) %L=x by rw[pG,Nat.mul_add_mod,B8 (by omega)],Lq hi (by omega)]
   show (gp L next fin (aJ L next a0 k)).mt ((i*L+x)+1)=_;rw[Da.mt,gQ,ih,cx];rw[cx] at hp;generalize cx next (aJ L next a0 i) (aJ L next a0 k)[i] x=T at*
   generalize next (aJ L next a0 k)[i] x=b at*
   rw[A0];by_cases hb:b∈T
   ·rw[ak hb,A4 hp0 hb,aj (by have:=vj hb;omega)]
   ·rw[aj hb];unfold bR at hp;rw[aj hb] at hp;rw[A4 hp (by simp),zf,aj hb];simp
 intro i
 induction i with
 | zero=>
  intro _;have:(gp L next fin (aJ L next a0 k)).mt (0*L)=(aJ L next a0 0).length:=by rw[Nat.zero_mul];rfl
  exact ⟨this,key 0 this⟩
 | succ i ih=>
  intro hi;obtain ⟨_,h3⟩:=ih (by omega);have h4:=h3 (by omega) L (az _);rw[←EO hd (by omega),←Nat.succ_mul] at h4;exact ⟨h4,key (i+1) h4⟩
theorem abE:(aJ L next a0 (aJ L next a0 k).length)=aJ L next a0 k:=by
 have hp:=uH (L:=L) (next:=next) (a0:=a0) hd;exact (abA hp.length_le hd).symm
theorem al4 (h1:1≤L):(gp L next fin (aJ L next a0 k)).Ll where
 le t ht:=by
  rw[sL] at ht;have hq:t/L<(aJ L next a0 k).length:=by rw[HV (by omega)];exact ht
  have hx:t %L<L:=wP _ (by omega);have IZ:t/L*L+t %L=t:=Nat.div_add_mod' t L;have h2:=(SW (fin:=fin) hd h1 (t/L) (by omega)).2 hq (t %L) (by omega);rw[IZ] at h2;rw[h2];unfold Da.pos;rw[show (gp L next fin (aJ L next a0 k)).L=L from rfl,Lq hq hx];have hp:cx next (aJ L next a0 (t/L)) (aJ L next a0 k)[t/L] (t %L+1) <+: aJ L next a0 k:=by
   refine (A1 _ _ (show t %L+1≤L by omega)).trans ?_;rw[←EO hd hq];exact uH (by omega)
  rw[cx] at hp;generalize cx next (aJ L next a0 (t/L)) (aJ L next a0 k)[t/L] (t %L)=T at*
  generalize next (aJ L next a0 k)[t/L] (t %L)=b at*
  rw[A4 hp wq];have:=vj (wq (S:=T) (a:=b));rw[A0] at this;split at this<;>omega
 row q hq:=by
  rw[sL] at hq;rw[show (gp L next fin (aJ L next a0 k)).L=L from rfl,(SW hd h1 q (by omega)).1];exact SV hd hq
 all:=by
  rw[sL,show (gp L next fin (aJ L next a0 k)).L=L from rfl,(SW hd h1 _ (az _)).1,abE hd]
end
theorem abF {U:List α} (h0:a0∈U) (hU: ∀a∈U,∀x,x<L→next a x∈U) (k:Nat):aJ L next a0 k ⊆ U:=by
 intro a ha;obtain ⟨w,hw,rfl⟩:=Lo k a ha;have: ∀(w:List Nat) (b:α),b∈U→WL L w→w.foldl next b∈U:=by
  intro w
  induction w with
  | nil=>intro b hb _;exact hb
  | cons x w ih=>intro b hb hw;exact ih _ (hU b hb x hw.head) hw.tail
 exact this w a0 h0 hw
theorem al5 {U:List α} (h0:a0∈U) (hU: ∀a∈U,∀x,x<L→next a x∈U) (k:Nat):(aJ L next a0 k).length≤U.length:=
 wR (A3 k) (abF h0 hU k)
end
namespace Da
def trim (d:Da):Da:=gp d.L d.nx d.fin (aJ d.L d.nx d.st d.n)
theorem Ok.uI {d:Da} (h:d.Ok) (k:Nat):(aJ d.L d.nx d.st k).length≤d.n:=by
 have:=al5 (L:=d.L) (next:=d.nx) (a0:=d.st) (U:=List.range d.n) (fm.2 h.s) (fun a ha x hx=>fm.2 (h.kq (fm.1 ha) hx)) k;simpa using this
theorem Ok.EP {d:Da} (h:d.Ok) (k:Nat): ∀q∈aJ d.L d.nx d.st k,q<d.n:=fun q hq=>by
 have:=abF (L:=d.L) (next:=d.nx) (a0:=d.st) (U:=List.range d.n) (fm.2 h.s) (fun a ha x hx=>fm.2 (h.kq (fm.1 ha) hx)) k hq;exact fm.1 this
theorem Ok.abG {d:Da} (h:d.Ok):d.trim.Ok:=al3 (h.uI _) h.l1 h.l6 (lu (h.uI _) h.je)
theorem Ok.SX {d:Da} (h:d.Ok) {i:Nat} (hi:i<(aJ d.L d.nx d.st d.n).length) {w:List Nat} (hw:WL d.L w):d.trim.acc i w=d.acc (aJ d.L d.nx d.st d.n)[i] w:=al2 (h.uI _) hi hw
theorem Ok.abH {d:Da} (h:d.Ok) {w:List Nat} (hw:WL d.L w):d.trim.acc 0 w=d.acc d.st w:=by
 rw[h.SX (SU _) hw];have:=alZ (L:=d.L) (next:=d.nx) (a0:=d.st) d.n;rw[bS (SU _)] at this;rw[dC this]
theorem Ok.al6 {d:Da} (h:d.Ok) (hr: ∀p q,p<d.n→q<d.n→d.qg p d q→p=q):d.trim.Canon d.L (d.acc d.st) where
 ok:=h.abG
 hL:=rfl
 st:=rfl
 num:=al4 (h.uI _) h.l1
 red p q hp hq he:=by
  unfold trim at hp hq;rw[sL] at hp hq;have h1:d.qg (aJ d.L d.nx d.st d.n)[p] d (aJ d.L d.nx d.st d.n)[q]:=fun w hw=>by
   rw[←h.SX hp hw,←h.SX hq hw];exact he w hw
  have h2:=hr _ _ (h.EP _ _ (cM hp)) (h.EP _ _ (cM hq)) h1;rw[←List.Nodup.idxOf_getElem (A3 _) p hp,←List.Nodup.idxOf_getElem (A3 _) q hq,h2]
 AZ w hw:=h.abH hw
end Da
end Go.AM
set_option maxRecDepth 100000
namespace Go.AM
open Go.IntKind (wrap)
open Go.Proofs
noncomputable def ER (C:af) (ym:Int) (t38:LV) (t39 t40:Int) (t49:LV) (t50 cF cX:Int) (dL dA:LV) (t51:Int) {β:Type} (kn:Int→Option β) (kr:((Int) ⊕ (Int×Bool))→Option β):Option β:=
 bif decide (t51<t50) then
  (idx t49 t51).bind fun x2=>
  bif decide ((x2.toInt:Int)<0) then
  kr (.inl 4)
  else
  bif decide ((x2.toInt:Int)≥ym) then
   kr (.inl 4)
  else
   kn (wrap .i64 (t51+1))
 else
  kr (.inr (t51,decide (t51<t50)))
noncomputable def Lr (C:af) (ym:Int) (t38:LV) (t39 t40:Int) (t49:LV) (t50 cF cX:Int) (dL dA:LV):=fun t51=>ER C ym t38 t39 t40 t49 t50 cF cX dL dA t51 (fun y=>some (Sum.inl y)) (fun r=>some (Sum.inr r))
noncomputable def ES (C:af) (ym:Int) (t38:LV) (t39 cF cX:Int) (dL dA:LV) (t40:Int) {β:Type} (kn:Int→Option β) (kr:((Int) ⊕ (Int×Bool))→Option β):Option β:=
 bif decide (t40<t39) then
  (idx t38 t40).bind fun x1=>
  bif (x1.toList.length:Int) != cF then
  kr (.inl 4)
  else
  (Loop (Lr C ym t38 t39 t40 x1.toList (x1.toList.length:Int) cF cX dL dA) 0).bind (cP (fun jF=>
   kr (.inl jF)) (un fun (gU:Int) (oA:Bool)=>
   kn (wrap .i64 (t40+1))))
 else
  kr (.inr (t40,decide (t40<t39)))
noncomputable def Ls (C:af) (ym:Int) (t38:LV) (t39 cF cX:Int) (dL dA:LV):=fun t40=>ES C ym t38 t39 cF cX dL dA t40 (fun y=>some (Sum.inl y)) (fun r=>some (Sum.inr r))
noncomputable def abI (C:af):cz:=bt 225 Rh [EQ,EQ,EQ,EQ,EQ,EQ,H1,EQ,EQ,EQ,EQ] [[0],[1,2,3,4,5,6,0,0,8,9,10,11]] (@ER C) (bt 145 Ri [EQ,EQ,EQ,H1,EQ,EQ,EQ,EQ] [[0],[1,2,3,0,0,5,6,7,8]] (@ES C) bB)
theorem al7 (C:af):bc C (abI C) 24 (Lp [1,1,1,1,1,0,1,0,0,1,1,0,0,1,1,1,0,0] 24):=br Rh [EQ,EQ,EQ,EQ,EQ,EQ,H1,EQ,EQ,EQ,EQ] [[0],[1,2,3,4,5,6,0,0,8,9,10,11]] (@ER C) (aR av)
theorem al8 (C:af):bc C (abI C) 24 (Lp [1,1,1,1,1,0,1,0,0] 24):=br Ri [EQ,EQ,EQ,H1,EQ,EQ,EQ,EQ] [[0],[1,2,3,0,0,5,6,7,8]] (@ES C) (aR (ba (al7 C) av))
noncomputable def abJ (C:af) (bW cf:Int) (bH b9:LV):Option LV:=
 bif decide (bW<1) then
  some [V.int .i64 1]
 else
  bif decide (bW>6) then
  some [V.int .i64 1]
  else
  bif decide ((bH.length:Int)>512) then
   some [V.int .i64 3]
  else
   bif (b9.length:Int) != (bH.length:Int) then
   some [V.int .i64 4]
   else
   bif decide (cf<0) then
    some [V.int .i64 4]
   else
    bif decide (cf≥(bH.length:Int)) then
    some [V.int .i64 4]
    else
    (Loop (Ls C (bH.length:Int) b9 (b9.length:Int) bW cf bH b9) 0).bind (cP (fun oB=>
     some [V.int .i64 oB]) (un fun (oC:Int) (wu:Bool)=>
     some [V.int .i64 0]))
theorem al9 {bW cf:Int} {bH b9:LV} {r:Option LV} (h:abJ CC bW cf bH b9=r):CC sF [V.int .i64 bW,V.int .i64 cf,.list ax bH,.list ah b9]=r:=bA (ba (al8 CC) av) h
noncomputable def ET (C:af) (n:Int) (t38:LV) (t39 t40:Int) (t49:LV) (t50 cF cX:Int) (dL dA:LV) (t51:Int) {β:Type} (kn:Int→Option β) (kr:((Int) ⊕ (Int×Bool))→Option β):Option β:=
 bif decide (t51<t50) then
  (idx t49 t51).bind fun x3=>
  bif decide ((x3.toInt:Int)<0) then
  kr (.inl 4)
  else
  bif decide ((x3.toInt:Int)≥n) then
   kr (.inl 4)
  else
   kn (wrap .i64 (t51+1))
 else
  kr (.inr (t51,decide (t51<t50)))
noncomputable def Lt (C:af) (n:Int) (t38:LV) (t39 t40:Int) (t49:LV) (t50 cF cX:Int) (dL dA:LV):=fun t51=>ET C n t38 t39 t40 t49 t50 cF cX dL dA t51 (fun y=>some (Sum.inl y)) (fun r=>some (Sum.inr r))
noncomputable def EU (C:af) (n:Int) (t38:LV) (t39 cF cX:Int) (dL dA:LV) (t40:Int) {β:Type} (kn:Int→Option β) (kr:((Int) ⊕ (Int×Bool))→Option β):Option β:=
 bif decide (t40<t39) then
  (idx t38 t40).bind fun x2=>
  bif (x2.toList.length:Int) != cF then
  kr (.inl 4)
  else
  (Loop (Lt C n t38 t39 t40 x2.toList (x2.toList.length:Int) cF cX dL dA) 0).bind (cP (fun gU=>
   kr (.inl gU)) (un fun (oA:Int) (oB:Bool)=>
   kn (wrap .i64 (t40+1))))
 else
  kr (.inr (t40,decide (t40<t39)))
noncomputable def Lu (C:af) (n:Int) (t38:LV) (t39 cF cX:Int) (dL dA:LV):=fun t40=>EU C n t38 t39 cF cX dL dA t40 (fun y=>some (Sum.inl y)) (fun r=>some (Sum.inr r))
noncomputable def abK (C:af):cz:=bt 225 Rb [EQ,EQ,EQ,EQ,EQ,EQ,H1,EQ,EQ,EQ,EQ] [[0],[1,2,3,4,5,6,0,0,8,9,10,11]] (@ET C) (bt 145 Rc [EQ,EQ,EQ,H1,EQ,EQ,EQ,EQ] [[0],[1,2,3,0,0,5,6,7,8]] (@EU C) bB)
theorem ama (C:af):bc C (abK C) 14 (Lp [1,1,1,1,1,0,1,0,0,1,1,0,0,1,1,1,0,0] 14):=br Rb [EQ,EQ,EQ,EQ,EQ,EQ,H1,EQ,EQ,EQ,EQ] [[0],[1,2,3,4,5,6,0,0,8,9,10,11]] (@ET C) (aR av)
theorem amb (C:af):bc C (abK C) 14 (Lp [1,1,1,1,1,0,1,0,0] 14):=br Rc [EQ,EQ,EQ,H1,EQ,EQ,EQ,EQ] [[0],[1,2,3,0,0,5,6,7,8]] (@EU C) (aR (ba (ama C) av))
noncomputable def abL (C:af) (bW cf:Int) (bH b9:LV):Option LV:=
 (C DY [V.int .i64 bW]).bind fun r1=>
 bif !((V.nth r1 0).toBool) then
  some [V.int .i64 1]
 else
  bif decide ((bH.length:Int)>512) then
  some [V.int .i64 3]
  else
  bif (bH.length:Int)==0 then
   some [V.int .i64 4]
  else
   bif (b9.length:Int) != (bH.length:Int) then
   some [V.int .i64 4]
   else
   bif decide (cf<0) then
    some [V.int .i64 4]
   else
    bif decide (cf≥(bH.length:Int)) then
    some [V.int .i64 4]
    else
    (Loop (Lu C (bH.length:Int) b9 (b9.length:Int) bW cf bH b9) 0).bind (cP (fun oC=>
     some [V.int .i64 oC]) (un fun (wu:Int) (mO:Bool)=>
     some [V.int .i64 0]))
theorem amc {bW cf:Int} {bH b9:LV} {r:Option LV} (h:abL CC bW cf bH b9=r):CC J5 [V.int .i64 bW,V.int .i64 cf,.list ax bH,.list ah b9]=r:=bA (ba (amb CC) av) h
noncomputable def abM (C:af) (dk:Int):Option LV:=
 bif decide (dk≥1) then
  some [.bool (decide (dk≤6))]
 else
  some [.bool false]
theorem amd {dk:Int} {r:Option LV} (h:abM CC dk=r):CC DY [V.int .i64 dk]=r:=bA (L:=bB) av h
theorem abN (n:Int):CC DY [.int .i64 n]=some [.bool (decide (1≤n∧n≤6))]:=by
 refine amd ?_;unfold abM;rw[bw];split
 ·refine congrArg (fun b=>some [V.bool b]) ?_;rw[decide_eq_decide];omega
 ·have: ¬(1≤n∧n≤6):=by omega
  simp[this]
abbrev iV (n:Int):V:= .int .i64 n
def lU (r:List Int):V:= .list ae (r.map iV)
@[simp] theorem abO (r:List Int):(lU r).toList=r.map iV:=by simp[lU]
structure Df where
 L:Int
 st:Int
 F:List Bool
 N:List (List Int)
def rK (d:Df) (l:List V):List V:= .int .i64 d.L:: .int .i64 d.st:: .list ax (d.F.map V.bool):: .list ah (d.N.map lU)::l
namespace Df
structure Ok (d:Df):Prop where
 L1: -9223372036854775808≤d.L
 L2:d.L≤9223372036854775807
 s1: -9223372036854775808≤d.st
 s2:d.st≤9223372036854775807
 F:d.F.length≤maxLen
 N:d.N.length≤maxLen
 row: ∀r∈d.N,r.length≤maxLen∧∀q∈r,-9223372036854775808≤q∧q≤9223372036854775807
def jG (d:Df) (r:List Int) (i:Nat):Prop:=0≤r.getD i 0∧r.getD i 0<d.F.length
instance (d:Df) (r:List Int):DecidablePred (d.jG r):=fun i=>by unfold jG;infer_instance
def nA (d:Df) (q:Nat):Prop:=((d.N.getD q []).length:Int)=d.L∧∀i,i<(d.N.getD q []).length→d.jG (d.N.getD q []) i
instance (d:Df):DecidablePred d.nA:=fun i=>by unfold nA;infer_instance
def val (d:Df):Int:=
 if d.L<1∨6<d.L then 1
 else if 512<d.F.length then 3
 else if d.N.length≠d.F.length∨d.st<0∨(d.F.length:Int)≤d.st then 4
 else if∀q,q<d.N.length→d.nA q then 0 else 4
end Df
theorem EV {α:Type} {f:α→V} {l:List α} {i:Nat} {z:α} (h:i<l.length):idx (l.map f) (i:Int)=some (f (l.getD i z)):=by
 rw[ais rfl h];simp[h]
section
variable {d:Df} (hd:d.Ok)
include hd
theorem abP {q:Nat} (h:q<d.N.length):(d.N.getD q []).length≤maxLen:=by
 rw[show d.N.getD q []=d.N[q] by simp[h]];exact (hd.row _ (cM h)).1
theorem ame {q:Nat} (hq:q<d.N.length) {t38:List V} {t39:Int} {a b:Int} {l1 l2:List V}:
  Loop (Lr CC (d.F.length:Int) t38 t39 (q:Int) ((d.N.getD q []).map iV) (((d.N.getD q []).map iV).length:Int) a b l1 l2) 0=
   some (if∀i,i<(d.N.getD q []).length→d.jG (d.N.getD q []) i then .inr (((d.N.getD q []).length:Int),false) else .inl 4):=by
 have hl:=abP hd hq;have hm:=Li;generalize d.N.getD q []=r at*
 refine AY (d.jG r) r.length (fun i=>(i:Int)) (.inl 4:Int ⊕ (Int×Bool)) (.inr ((r.length:Int),false)) (fun i hi=> ?_) ?_
 ·simp only[Lr,ER,cY,bw];rw[bu,EV (z:=0) hi];simp only[Option.bind_some,V.toInt_int];by_cases h1:r.getD i 0<0
  ·rw[ak h1,aj (show¬d.jG r i from fun h=>by unfold Df.jG at h;omega)]
  ·rw[aj h1];by_cases h2:r.getD i 0≥(d.F.length:Int)
   ·rw[ak h2,aj (show¬d.jG r i from fun h=>by unfold Df.jG at h;omega)]
   ·rw[aj h2,ak (show d.jG r i from ⟨by omega,by omega⟩),gG];rfl
 ·simp only[Lr,ER,cY,bw];rw[bO,H2]
theorem amf {a b:Int} {l1 l2:List V}:
  Loop (Ls CC (d.F.length:Int) (d.N.map lU) ((d.N.map lU).length:Int) d.L b l1 l2) 0=
   some (if∀q,q<d.N.length→d.nA q then .inr ((d.N.length:Int),false) else .inl 4):=by
 have hm:=Li;have hN:=hd.N;refine AY d.nA d.N.length (fun i=>(i:Int)) (.inl 4:Int ⊕ (Int×Bool)) (.inr ((d.N.length:Int),false)) (fun q hq=> ?_) ?_
 ·simp only[Ls,ES,cY,bw];rw[bu,EV (z:=[]) hq];simp only[Option.bind_some,abO,cY,JR];have:=ame hd hq (t38:=d.N.map lU) (t39:=(d.N.length:Int)) (a:=d.L) (b:=b) (l1:=l1) (l2:=l2);rw[cY] at this;by_cases h1:((d.N.getD q []).length:Int)=d.L
  ·rw[ak h1];refine bs this ?_;by_cases h2: ∀i,i<(d.N.getD q []).length→d.jG (d.N.getD q []) i
   ·rw[ak h2,ak (show d.nA q from ⟨h1,h2⟩)];simp only[cP,un];rw[gG];rfl
   ·rw[aj h2,aj (show¬d.nA q from fun h=>h2 h.2)];rfl
  ·rw[aj h1,aj (show¬d.nA q from fun h=>h1 h.1)]
 ·simp only[Ls,ES,cY,bw];rw[bO,H2]
theorem amg:CC sF (rK d [])=some [.int .i64 d.val]:=by
 refine al9 ?_;unfold abJ Df.val;simp only[cY,bw,JR];have h:=amf hd (a:=0) (b:=d.st) (l1:=d.F.map V.bool) (l2:=d.N.map lU);rw[cY] at h;by_cases h1:d.L<1
 ·rw[ak h1,ak (.inl h1)]
 rw[aj h1];by_cases h2:d.L>6
 ·rw[ak h2,ak (.inr h2)]
 rw[aj h2,aj (show¬(d.L<1∨6<d.L) by omega)];by_cases h3:512<d.F.length
 ·rw[ak (show (d.F.length:Int)>512 by omega),ak h3]
 rw[aj (show¬(d.F.length:Int)>512 by omega),aj h3];by_cases h4:d.N.length=d.F.length
 ·rw[ak (show (d.N.length:Int)=(d.F.length:Int) by omega)];by_cases h5:d.st<0
  ·rw[ak h5,ak (.inr (.inl h5))]
  rw[aj h5];by_cases h6:d.st≥(d.F.length:Int)
  ·rw[ak h6,ak (.inr (.inr h6))]
  rw[aj h6,aj (show¬(d.N.length≠d.F.length∨d.st<0∨(d.F.length:Int)≤d.st) by omega)];refine bs h ?_;split<;>rfl
 ·rw[aj (show¬(d.N.length:Int)=(d.F.length:Int) by omega),ak (.inl h4)]
theorem amh {q:Nat} (hq:q<d.N.length) {t38:List V} {t39:Int} {a b:Int} {l1 l2:List V}:
  Loop (Lt CC (d.F.length:Int) t38 t39 (q:Int) ((d.N.getD q []).map iV) (((d.N.getD q []).map iV).length:Int) a b l1 l2) 0=
   some (if∀i,i<(d.N.getD q []).length→d.jG (d.N.getD q []) i then .inr (((d.N.getD q []).length:Int),false) else .inl 4):=by
 have hl:=abP hd hq;have hm:=Li;generalize d.N.getD q []=r at*
 refine AY (d.jG r) r.length (fun i=>(i:Int)) (.inl 4:Int ⊕ (Int×Bool)) (.inr ((r.length:Int),false)) (fun i hi=> ?_) ?_
 ·simp only[Lt,ET,cY,bw];rw[bu,EV (z:=0) hi];simp only[Option.bind_some,V.toInt_int];by_cases h1:r.getD i 0<0
  ·rw[ak h1,aj (show¬d.jG r i from fun h=>by unfold Df.jG at h;omega)]
  ·rw[aj h1];by_cases h2:r.getD i 0≥(d.F.length:Int)
   ·rw[ak h2,aj (show¬d.jG r i from fun h=>by unfold Df.jG at h;omega)]
   ·rw[aj h2,ak (show d.jG r i from ⟨by omega,by omega⟩),gG];rfl
 ·simp only[Lt,ET,cY,bw];rw[bO,H2]
theorem ami {b:Int} {l1 l2:List V}:
  Loop (Lu CC (d.F.length:Int) (d.N.map lU) ((d.N.map lU).length:Int) d.L b l1 l2) 0=
   some (if∀q,q<d.N.length→d.nA q then .inr ((d.N.length:Int),false) else .inl 4):=by
 have hm:=Li;have hN:=hd.N;refine AY d.nA d.N.length (fun i=>(i:Int)) (.inl 4:Int ⊕ (Int×Bool)) (.inr ((d.N.length:Int),false)) (fun q hq=> ?_) ?_
 ·simp only[Lu,EU,cY,bw];rw[bu,EV (z:=[]) hq];simp only[Option.bind_some,abO,cY,JR];have:=amh hd hq (t38:=d.N.map lU) (t39:=(d.N.length:Int)) (a:=d.L) (b:=b) (l1:=l1) (l2:=l2);rw[cY] at this;by_cases h1:((d.N.getD q []).length:Int)=d.L
  ·rw[ak h1];refine bs this ?_;by_cases h2: ∀i,i<(d.N.getD q []).length→d.jG (d.N.getD q []) i
   ·rw[ak h2,ak (show d.nA q from ⟨h1,h2⟩)];simp only[cP,un];rw[gG];rfl
   ·rw[aj h2,aj (show¬d.nA q from fun h=>h2 h.2)];rfl
  ·rw[aj h1,aj (show¬d.nA q from fun h=>h1 h.1)]
 ·simp only[Lu,EU,cY,bw];rw[bO,H2]
theorem amj:CC J5 (rK d [])=some [.int .i64 d.val]:=by
 refine amc ?_;unfold abL Df.val;refine bs (abN d.L) ?_;simp only[cY,bw,JR,vX,V.dJ,V.dS,ja];have h:=ami hd (b:=d.st) (l1:=d.F.map V.bool) (l2:=d.N.map lU);rw[cY] at h;by_cases h1:d.L<1∨6<d.L
 ·rw[ak h1,aj (show¬(1≤d.L∧d.L≤6) by omega)]
 rw[aj h1,ak (show 1≤d.L∧d.L≤6 by omega)];by_cases h3:512<d.F.length
 ·rw[ak (show (d.F.length:Int)>512 by omega),ak h3]
 rw[aj (show¬(d.F.length:Int)>512 by omega),aj h3];by_cases h0:d.F.length=0
 ·rw[ak (show (d.F.length:Int)=0 by omega),bu]
 rw[aj (show¬(d.F.length:Int)=0 by omega)];by_cases h4:d.N.length=d.F.length
 ·rw[ak (show (d.N.length:Int)=(d.F.length:Int) by omega)];by_cases h5:d.st<0
  ·rw[ak h5,ak (.inr (.inl h5))]
  rw[aj h5];by_cases h6:d.st≥(d.F.length:Int)
  ·rw[ak h6,ak (.inr (.inr h6))]
  rw[aj h6,aj (show¬(d.N.length≠d.F.length∨d.st<0∨(d.F.length:Int)≤d.st) by omega)];refine bs h ?_;split<;>rfl
 ·rw[aj (show¬(d.N.length:Int)=(d.F.length:Int) by omega),ak (.inl h4)]
end
def rm (r:List Nat):List Int:=r.map fun q:Nat=>(q:Int)
theorem abQ (r:List Nat) (i:Nat):(rm r).getD i 0=((r.getD i 0:Nat):Int):=by
 unfold rm;by_cases h:i<r.length
 ·rw[bD h,bD (by simpa using h)];simp
 ·simp[List.getElem?_eq_none (Nat.le_of_not_lt h)]
def Da.df (a:Da):Df:=⟨a.L,a.st,a.F,a.N.map rm⟩
theorem amk {d:Df} (h:d.val=0): ∃a:Da,a.Ok∧d=a.df:=by
 unfold Df.val at h;split at h
 ·omega
 rename_i h1;split at h
 ·omega
 rename_i h2;split at h
 ·omega
 rename_i h3;split at h
 case isFalse=>omega
 rename_i h4;have hr: ∀r∈d.N,(r.length:Int)=d.L∧∀q∈r,0≤q∧q<d.F.length:=fun r hr=>by
  obtain ⟨i,hi,rfl⟩:=qy hr;have:=h4 i hi;unfold Df.nA at this;rw[show d.N.getD i []=d.N[i] by simp[hi]] at this;refine ⟨this.1,fun q hq=> ?_⟩;obtain ⟨j,hj,rfl⟩:=qy hq;have h5:=this.2 j hj;unfold Df.jG at h5;rwa [show d.N[i].getD j 0=d.N[i][j] by simp[hj]] at h5
 refine ⟨⟨d.L.toNat,d.st.toNat,d.F,d.N.map fun r=>r.map Int.toNat⟩,⟨by simp only;omega,by simp only;omega,by simp only[Da.n,cY];omega,?_,by simp only[Da.n];omega,by simp only[Da.n];omega⟩,?_⟩
 ·intro r np;obtain ⟨r,hr3,rfl⟩:=ez.1 np;have:=hr r hr3;refine ⟨by simp only[cY];omega,fun q hq=> ?_⟩;obtain ⟨q,qV,rfl⟩:=ez.1 hq;have:=this.2 q qV;simp only[Da.n];omega
 ·obtain ⟨L,st,F,N⟩:=d;simp only[Da.df] at*
  have e1:L=(L.toNat:Int):=by omega
  have e2:st=(st.toNat:Int):=by omega
  rw[←e1,←e2];congr 1;rw[pI]
  calc N=N.map id:=(List.map_id N).symm
   _=_:=mr fun r h=>by
    have:=(hr r h).2;simp only[Function.comp,rm,pI,id]
    calc r=r.map id:=(List.map_id r).symm
     _=_:=mr fun q hq=>by
      have:=this q hq;simp only[Function.comp,id];omega
theorem Da.Ok.aml {a:Da} (h:a.Ok):a.df.Ok:=by
 have h1:=h.l6;have h2:=h.s;have h3:=h.je;have h4:=h.nN;unfold Da.n at*
 refine ⟨by simp only[Da.df];omega,by simp only[Da.df];omega,by simp only[Da.df];omega,by simp only[Da.df];omega,by simp only[Da.df];unfold maxLen;omega,by simp only[Da.df,cY];unfold maxLen;omega,fun r hr=> ?_⟩;obtain ⟨r,np,rfl⟩:=ez.1 hr;have:=h.row r np;refine ⟨by simp only[rm,cY];unfold maxLen;omega,fun q hq=> ?_⟩;obtain ⟨q,qV,rfl⟩:=ez.1 hq;have:=this.2 q qV;unfold Da.n at this;omega
theorem Da.Ok.val {a:Da} (h:a.Ok):a.df.val=0:=by
 have h0:=h.l1;have h1:=h.l6;have h2:=h.s;have h3:=h.je;have h4:=h.nN;unfold Da.n at*
 unfold Df.val;rw[aj (by simp only[Da.df];omega),aj (by simp only[Da.df];omega),aj (by simp only[Da.df,cY];omega),ak];intro q hq;simp only[Da.df,cY] at hq;have e:a.df.N.getD q []=rm (a.N.getD q []):=by simp[Da.df,hq]
 have hr:=h.row (a.N.getD q []) (by rw[show a.N.getD q []=a.N[q] by simp[hq]];exact cM hq);unfold Df.nA;rw[e];refine ⟨by simp only[rm,cY,Da.df];omega,fun i hi=> ?_⟩;rw[rm,cY] at hi;have:=hr.2 ((a.N.getD q [])[i]) (cM hi);unfold Df.jG;rw[abQ,bD hi];simp only[Da.df];unfold Da.n at this;omega
def tab {α:Type} (n:Nat) (g:Nat→α):List α:=(List.range n).map g
section
variable {α β:Type} {n i:Nat} {g h:Nat→α}
@[simp] theorem eH:(tab n g).length=n:=by simp[tab]
theorem lk (hi:i<n):(tab n g)[i]? =some (g i):=by simp[tab,hi]
theorem uJ (hi:i<n) {z:α}:(tab n g).getD i z=g i:=by simp[tab,hi]
theorem SY (hi:i<(tab n g).length):(tab n g)[i]=g i:=by simp[tab]
theorem cJ (e: ∀j,j<n→g j=h j):tab n g=tab n h:=mr fun j hj=>e j (fm.1 hj)
theorem iI {v:α}:(tab n g).set i v=tab n fun j=>if j=i then v else g j:=by
 refine tn (by simp) fun j h1 h2=> ?_;rw[List.getElem_set,SY,SY];simp only[eq_comm]
theorem amm:tab n g++[g n]=tab (n+1) g:=by simp[tab,Cg]
theorem EW:tab (n+1) g=tab n g++[g n]:=amm.symm
theorem mP {v:α}:List.replicate n v=tab n fun _=>v:=by simp[tab,List.map_const']
theorem amn {f:α→β}:(tab n g).map f=tab n fun i=>f (g i):=by simp[tab,Function.comp]
theorem abR (l:List α) (z:α):l=tab l.length fun i=>l.getD i z:=by
 refine tn (by simp) fun j h1 h2=> ?_;rw[SY];simp[h1]
theorem yn (l:List α) (z:α) {f:α→β}:l.map f=tab l.length fun i=>f (l.getD i z):=by
 rw[←amn,←abR]
theorem Lv {a:α}:a∈tab n g↔∃i,i<n∧g i=a:=by simp[tab]
end
section
variable {γ:Type} {n i:Nat} {g:Nat→V}
theorem qh (hi:i<n):idx (tab n g) (i:Int)=some (g i):=by rw[PX rfl,lk hi]
theorem ll (hi:i<n) {K:V→Option γ}:(bif (decide (0≤(i:Int)))&&(decide ((i:Int)<((tab n g).length:Int))) then ((tab n g)[((i:Int)).toNat]?).bind K else none)=K (g i):=by
 rw[Int.toNat_natCast,lk hi,pJ.2 ⟨cZ (by omega),cZ (by rw[eH];omega)⟩];rfl
theorem cy {es:List V} {v:V} (hi:es[i]? =some v) {K:V→Option γ}:(bif (decide (0≤(i:Int)))&&(decide ((i:Int)<(es.length:Int))) then (es[((i:Int)).toNat]?).bind K else none)=K v:=by
 have hl:i<es.length:=by
  rcases gy i es.length with h|h
  ·exact h
  ·rw[List.getElem?_eq_none h] at hi;cases hi
 rw[Int.toNat_natCast,hi,pJ.2 ⟨cZ (by omega),cZ (by omega)⟩];rfl
theorem nB {m:Nat} (hi:i<m):((decide (0≤(i:Int)))&&(decide ((i:Int)<(m:Int))))=true:=pJ.2 ⟨cZ (by omega),cZ (by omega)⟩
end
theorem cap {a b m:Nat} (h:a+b≤10000000) (hm:m≤1000):Nat.ble ((a+b)*m) bm=true:=by
 rw[fk,abx];have:=Nat.mul_le_mul h hm;omega
theorem gh {n m:Nat} (h:n≤10000000) (hm:m≤1000):((decide (0≤(n:Int)))&&((decide ((n:Int)≤(n:Int)))&&(Nat.ble (((n:Int).toNat)*m) bm)))=true:=by
 have h2:=Nat.mul_le_mul h hm;rw[Int.toNat_natCast];refine pJ.2 ⟨cZ (by omega),pJ.2 ⟨cZ (by omega),?_⟩⟩;rw[fk,abx];omega
theorem cq {i:Nat} (h:i≤1000000000):wrap .i64 ((i:Int)+1)=((i+1:Nat):Int):=by rw[gG];omega
theorem cg {i n:Nat} (h:i<n):decide ((i:Int)<(n:Int))=true:=cZ (by omega)
theorem aW {i n:Nat} (h:n≤i):decide ((i:Int)<(n:Int))=false:=cR (by omega)
section
variable {X R:Type} {step:X→Option (X ⊕ R)}
theorem dW (n:Nat) (s:Nat→X) (r:R) (h: ∀i,i<n→step (s i)=some (.inl (s (i+1)))) (he:step (s n)=some (.inr r)):Loop step (s 0)=some r:=ait s n h he
theorem sM (P:Nat→X→Prop) (Q:R→Prop): ∀(n k:Nat) (x:X),(∀i,k≤i→i<k+n→∀x,P i x→∃y,step x=some (.inl y)∧P (i+1) y)→(∀x,P (k+n) x→∃r,step x=some (.inr r)∧Q r)→P k x→∃r,Loop step x=some r∧Q r
 | 0,k,x,_,he,hx=>by
  obtain ⟨r,h1,h2⟩:=he x hx;exact ⟨r,cT h1,h2⟩
 | n+1,k,x,h,he,hx=>by
  obtain ⟨y,h1,h2⟩:=h k (az _) (by omega) x hx;obtain ⟨r,h3,h4⟩:=sM P Q n (k+1) y (fun i hi hn=>h i (by omega) (by omega)) (by rw[show k+1+n=k+(n+1) by omega];exact he) h2;exact ⟨r,(eJ h1).trans h3,h4⟩
theorem amo (bad:Nat→Bool) (n:Nat) (s:Nat→X) (r1:Nat→R) (r2:R) (h: ∀i,i<n→step (s i)=some (if bad i=true then .inr (r1 i) else .inl (s (i+1)))) (he:step (s n)=some (.inr r2)):
  (∃i,i<n∧bad i=true∧(∀j,j<i→bad j=false)∧Loop step (s 0)=some (r1 i))∨((∀i,i<n→bad i=false)∧Loop step (s 0)=some r2):=by
 have go: ∀(d k:Nat),k+d=n→(∀j,j<k→bad j=false)→Loop step (s 0)=Loop step (s k)→(∃i,i<n∧bad i=true∧(∀j,j<i→bad j=false)∧Loop step (s 0)=some (r1 i))∨((∀i,i<n→bad i=false)∧Loop step (s 0)=some r2):=by
  intro d
  induction d with
  | zero=>
   intro k hk hb e;obtain rfl:k=n:=by omega
   exact .inr ⟨hb,e.trans (cT he)⟩
  | succ d ih=>
   intro k hk hb e;have h1:=h k (by omega);cases uh:bad k with
   | true=>
    rw[ak uh] at h1;exact .inl ⟨k,by omega,uh,hb,e.trans (cT h1)⟩
   | false=>
    rw[aj (by rw[uh];simp)] at h1;refine ih (k+1) (by omega) (fun j hj=> ?_) (e.trans (eJ h1));rcases gy j k with c|c
    ·exact hb j c
    ·rw[show j=k by omega];exact uh
 exact go n 0 (by omega) (fun j hj=>by omega) rfl
end
noncomputable def EX (C:af) (w:List UInt8) (dk t18 t19:Int) {β:Type} (kn:Int→Option β) (kr:((Bool) ⊕ (Int×Bool))→Option β):Option β:=
 bif decide (t19<t18) then
  (bif decide (0≤t19) then (w[t19.toNat]?).map fun b=>V.int .u8 b.toNat else none).bind fun x1=>
  bif decide ((x1.toInt:Int)<97) then
  kr (.inl false)
  else
  (bif decide (0≤t19) then (w[t19.toNat]?).map fun b=>V.int .u8 b.toNat else none).bind fun x2=>
  bif decide (((wrap .i64 (wrap .u8 (x2.toInt-97))):Int)≥dk) then
   kr (.inl false)
  else
   kn (wrap .i64 (t19+1))
 else
  kr (.inr (t19,decide (t19<t18)))
noncomputable def Lw (C:af) (w:List UInt8) (dk t18:Int):=fun t19=>EX C w dk t18 t19 (fun y=>some (Sum.inl y)) (fun r=>some (Sum.inr r))
noncomputable def amp (C:af):cz:=bt 65 Rf [EQ,EQ,EQ,H1] [[0],[1,2,3,0,0]] (@EX C) bB
theorem amq (C:af):bc C (amp C) 22 (Lp [1,1,0,1,0,0] 22):=br Rf [EQ,EQ,EQ,H1] [[0],[1,2,3,0,0]] (@EX C) (aR av)
noncomputable def abS (C:af) (w:List UInt8) (dk:Int):Option LV:=
 bif decide (dk<1) then
  some [.bool false]
 else
  bif decide (dk>6) then
  some [.bool false]
  else
  bif decide ((w.length:Int)>2048) then
   some [.bool false]
  else
   (Loop (Lw C w dk (w.length:Int)) 0).bind (cP (fun (jF:Bool)=>
    some [.bool jF]) (un fun (gU:Int) (oA:Bool)=>
    some [.bool true]))
theorem amr {w:List UInt8} {dk:Int} {r:Option LV} (h:abS CC w dk=r):CC Ap [.str w,V.int .i64 dk]=r:=bA (ba (amq CC) av) h
def fL (w:List UInt8) (i:Nat):Int:=((w.getD i 0).toNat:Int)-97
def ku (w:List UInt8) (L:Int):Prop:=1≤L∧L≤6∧w.length≤2048∧∀i,i<w.length→0≤fL w i∧fL w i<L
instance (w:List UInt8) (L:Int):Decidable (ku w L):=by unfold ku;infer_instance
theorem Lx {w:List UInt8} {i:Nat} (h:i<w.length):(bif decide (0≤(i:Int)) then (w[((i:Nat):Int).toNat]?).map (fun b=>V.int .u8 b.toNat) else none)=some (.int .u8 ((w.getD i 0).toNat:Int)):=by
 rw[bw,bu,Int.toNat_natCast];simp[h]
theorem abT (b:UInt8):b.toNat<256:=b.toNat_lt
theorem Ly {w:List UInt8} {i:Nat} (h:0≤fL w i):wrap .u8 (((w.getD i 0).toNat:Int)-97)=fL w i:=by
 have:=abT (w.getD i 0);unfold fL at*
 exact JP h (by omega)
theorem abU {w:List UInt8} {i:Nat}:fL w i<256:=by
 have:=abT (w.getD i 0);unfold fL;omega
theorem ams {w:List UInt8} {L:Int} (hl:w.length≤2048):Loop (Lw CC w L (w.length:Int)) 0=some (if∀i,i<w.length→0≤fL w i∧fL w i<L then .inr ((w.length:Int),false) else .inl false):=by
 refine AY (good:=fun i=>0≤fL w i∧fL w i<L) w.length (fun i=>(i:Int)) (Sum.inl false:Bool ⊕ (Int×Bool)) (Sum.inr ((w.length:Int),false)) (fun i hi=> ?_) ?_
 ·simp only[Lw,EX,un];rw[bw,bu,Lx hi];simp only[Option.bind_some,V.toInt_int,bw];by_cases h1:0≤fL w i
  ·have kY:=h1;unfold fL at kY;rw[bO,Ly h1,wrap64 (by omega) (by have:= @abU w i;omega)];by_cases h2:fL w i<L
   ·rw[bO,ak ⟨h1,h2⟩,gG];simp
   ·rw[bu,aj (fun h=>h2 h.2)]
  ·have kY:=h1;unfold fL at kY;rw[bu,aj (fun h=>h1 h.1)]
 ·simp only[Lw,EX,un];rw[bw,bO];simp
theorem SZ (w:List UInt8) (L:Int):CC Ap [.str w,.int .i64 L]=some [.bool (decide (ku w L))]:=by
 refine amr ?_;unfold abS;simp only[bw];by_cases h1:L<1
 ·rw[ak h1,cR (fun h=>by have:=h.1;omega)]
 rw[aj h1];by_cases h2:L>6
 ·rw[ak h2,cR (fun h=>by have:=h.2.1;omega)]
 rw[aj h2];by_cases h3:(w.length:Int)>2048
 ·rw[ak h3,cR (fun h=>by have:=h.2.2.1;omega)]
 rw[aj h3,ams (by omega)];by_cases h4: ∀i,i<w.length→0≤fL w i∧fL w i<L
 ·rw[ak h4,cZ (show ku w L from ⟨by omega,by omega,by omega,h4⟩)];simp[cP,un]
 ·rw[aj h4,cR (fun h=>h4 h.2.2.2)];simp[cP,un]
noncomputable def EY (C:af) (w:List UInt8) (t30 cF cX:Int) (dL dA:LV) (state t31:Int) {β:Type} (kn:(Int×Int)→Option β) (kr:(Int×Int×Bool)→Option β):Option β:=
 bif decide (t31<t30) then
  (idx dA state).bind fun x3=>
  (bif decide (0≤t31) then (w[t31.toNat]?).map fun b=>V.int .u8 b.toNat else none).bind fun x4=>
  (idx x3.toList (wrap .u8 (x4.toInt-97))).bind fun x5=>
  kn (x5.toInt,wrap .i64 (t31+1))
 else
  kr (state,t31,decide (t31<t30))
noncomputable def LA (C:af) (w:List UInt8) (t30 cF cX:Int) (dL dA:LV):=un fun state t31=>EY C w t30 cF cX dL dA state t31 (fun y=>some (Sum.inl y)) (fun r=>some (Sum.inr r))
noncomputable def amt (C:af):cz:=bt 65 Rg [H1,EQ,EQ,H1,EQ,EQ,EQ,EQ] [[0,2,3,0,0,5,6,7,8]] (@EY C) bB
theorem amu (C:af):bc C (amt C) 23 (Lp [1,1,0,1,0,0] 23):=br Rg [H1,EQ,EQ,H1,EQ,EQ,EQ,EQ] [[0,2,3,0,0,5,6,7,8]] (@EY C) (aR av)
noncomputable def abV (C:af) (bW cf:Int) (bH b9:LV) (state:Int) (w:List UInt8):Option LV:=
 (C sF [V.int .i64 bW,V.int .i64 cf,.list ax bH,.list ah b9]).bind fun r1=>
 bif (((V.nth r1 0).toInt):Int) != 0 then
  some [V.int .i64 (-1)]
 else
  bif decide (state<0) then
  some [V.int .i64 (-1)]
  else
  bif decide (state≥(bH.length:Int)) then
   some [V.int .i64 (-1)]
  else
   (C Ap [.str w,V.int .i64 bW]).bind fun r2=>
   bif !((V.nth r2 0).toBool) then
   some [V.int .i64 (-1)]
   else
   (Loop (LA C w (w.length:Int) bW cf bH b9) (state,0)).bind (un fun amv=>un fun (oC:Int) (wu:Bool)=>
    some [V.int .i64 amv])
theorem amw {bW cf:Int} {bH b9:LV} {state:Int} {w:List UInt8} {r:Option LV} (h:abV CC bW cf bH b9 state w=r):CC J9 [V.int .i64 bW,V.int .i64 cf,.list ax bH,.list ah b9,V.int .i64 state,.str w]=r:=bA (ba (amu CC) av) h
def lV (L:Nat) (f:Nat→Nat):V:= .list ae (tab L fun x=>iV (f x))
def Da.dM (a:Da):List V:=tab a.n fun q=>V.bool (a.fin q)
def Da.ed (a:Da):List V:=tab a.n fun q=>lV a.L (a.nx q)
@[simp] theorem Da.EZ {a:Da}:a.dM.length=a.n:=by simp[Da.dM]
@[simp] theorem Da.amx {a:Da}:a.ed.length=a.n:=by simp[Da.ed]
@[simp] theorem E0 {L:Nat} {f:Nat→Nat}:(lV L f).toList=tab L fun x=>iV (f x):=by simp[lV]
def uK (a:Da) (l:List V):List V:= .int .i64 a.L:: .int .i64 a.st:: .list ax a.dM:: .list ah a.ed::l
def fE (a:Da):List V:=uK a []
theorem Da.Ok.leaves {a:Da} (h:a.Ok) (l:List V):rK a.df l=uK a l:=by
 unfold rK uK;have e1:a.df.F.map V.bool=a.dM:=yn _ false;have e2:a.df.N.map lU=a.ed:=by
  unfold Da.ed;rw[yn _ [],show a.df.N.length=a.n by simp[Da.df,h.nN]];refine cJ fun q hq=> ?_;have dI:q<a.N.length:=by rw[h.nN];exact hq
  unfold lU lV;rw[show a.df.N.getD q []=rm (a.N.getD q []) by simp[Da.df,dI],yn _ 0];have hl:(rm (a.N.getD q [])).length=a.L:=by simp only[rm,cY];exact Da.SR h hq
  rw[hl];exact congrArg _ (cJ fun x _=>by rw[abQ];rfl)
 rw[e1,e2];rfl
theorem Da.S0 {a:Da} {q:Nat} (hq:q<a.n):idx a.dM (q:Int)=some (.bool (a.fin q)):=qh hq
theorem Da.LB {a:Da} {q:Nat} (hq:q<a.n):idx a.ed (q:Int)=some (lV a.L (a.nx q)):=qh hq
theorem E1 {L x:Nat} {f:Nat→Nat} (hx:x<L):idx (tab L fun x=>iV (f x)) (x:Int)=some (iV (f x)):=qh hx
theorem uL {a:Da} (h:a.Ok):CC sF (fE a)=some [.int .i64 0]:=by
 have:=amg h.aml;rwa [h.val,h.leaves] at this
def lets (w:List UInt8):List Nat:=w.map fun b=>b.toNat-97
theorem wv {w:List UInt8}:(lets w).length=w.length:=by simp[lets]
theorem S3 {w:List UInt8} {i:Nat} (hi:i<w.length) (h:0≤fL w i):(((lets w).getD i 0:Nat):Int)=fL w i:=by
 unfold lets fL at*
 rw[bD (by simpa using hi),bD hi] at*
 simp only[zg];omega
theorem ku.WL {w:List UInt8} {L:Nat} (h:ku w (L:Int)):WL L (lets w):=fun x hx=>by
 obtain ⟨i,hi,rfl⟩:=qy hx;rw[wv] at hi;obtain ⟨h1,h2⟩:=h.2.2.2 i hi;have:=S3 hi h1;rw[bD (by rw[wv];exact hi)] at this;omega
theorem amy {a:Da} {w:List UInt8} {q i:Nat} (hi:i<w.length):a.run q ((lets w).take (i+1))=a.nx (a.run q ((lets w).take i)) ((lets w).getD i 0):=by
 rw[HX (by rw[wv];exact hi),Da.Lk,bD (by rw[wv];exact hi)];rfl
theorem abW {w:List UInt8} {L i:Nat} (hw:ku w (L:Int)) (hi:i<w.length):(lets w).getD i 0<L:=hw.WL _ (by rw[bD (by rw[wv];exact hi)];exact cM _)
section
variable {a:Da} (h:a.Ok) {w:List UInt8} (hw:ku w (a.L:Int)) {q:Nat} (hq:q<a.n)
include h hw hq
theorem amz {i:Nat}:a.run q ((lets w).take i)<a.n:=h.wm _ hq fun x hx=>hw.WL x (HP hx)
theorem amA {x1 x2:Int} {l2:List V}:Loop (LA CC w (w.length:Int) x1 x2 l2 a.ed) ((q:Int),0)=some ((a.run q (lets w):Int),(w.length:Int),false):=by
 have hl:w.length≤2048:=hw.2.2.1;have e:lets w=(lets w).take w.length:=by rw[List.take_of_length_le (by rw[wv];omega)]
 refine (dW w.length (fun i=>((a.run q ((lets w).take i):Int),(i:Int))) ((a.run q ((lets w).take w.length):Int),(w.length:Int),false) (fun i hi=> ?_) ?_).trans (by rw[←e])
 ·simp only[LA,EY,un];refine bT (cg hi) ?_;refine bs (Da.LB (amz h hw hq)) ?_;refine bs (Lx hi) ?_;have h1:=(hw.2.2.2 i hi).1;simp only[V.toInt_int,Ly h1,E0];rw[←S3 hi h1];refine bs (E1 (abW hw hi)) ?_;rw[cq (by omega),amy hi];rfl
 ·simp only[LA,EY,un];exact bF (aW (az _)) (by rw[aW (az _)])
end
theorem amB {a:Da} (h:a.Ok) {q:Nat} (hq:q<a.n) (w:List UInt8):CC J9 (uK a [.int .i64 (q:Int),.str w])=some [.int .i64 (if ku w (a.L:Int) then (a.run q (lets w):Int) else-1)]:=by
 refine amw ?_;unfold abV;refine bs (uL h) ?_;refine bF rfl ?_;refine bF (cR (by omega)) ?_;refine bF (cR (by rw[Da.EZ];omega)) ?_;refine bs (SZ w a.L) ?_;by_cases hw:ku w (a.L:Int)
 ·rw[ak hw];refine bF (by simp[hw]) ?_;exact bs (amA h hw hq) rfl
 ·rw[aj hw];exact bT (by simp[hw]) rfl
section
variable {α:Type} (ke:α→V)
def e8 (i:Nat):List α→List V
 | []=>[]
 | a::S=> .aX [ke a,iV (i:Int)]::e8 (i+1) S
where iV (n:Int):V:= .int .i64 n
end
theorem E2 {α:Type} {ke:α→V}: ∀(S:List α) (i:Nat),(e8 ke i S).length=S.length
 | [],_=>rfl
 | a::S,i=>by simp[e8,E2 S (i+1)]
section
variable {α:Type} [DecidableEq α] {ke:α→V}
variable (hk: ∀a b,gZ (ke a) (ke b)=decide (a=b))
include hk
theorem S4 (x:α): ∀(S:List α) (i:Nat),fG (ke x) (e8 ke i S)=decide (x∈S)
 | [],_=>by simp[e8,fG]
 | a::S,i=>by
  have c: ∀(p q:V),(V.aX [p,q]).comp 0=p:=fun p q=>rfl;rw[e8,fG,c,hk,S4 x S (i+1)];rw[wS];simp
theorem S5 (x:α) (z:V): ∀(S:List α) (i:Nat),x∈S→jn (ke x) (e8 ke i S) z= .int .i64 ((i+S.idxOf x:Nat):Int)
 | [],_,h=>by cases h
 | a::S,i,h=>by
  have c: ∀(p q:V),(V.aX [p,q]).comp 0=p:=fun p q=>rfl;have c1: ∀(p q:V),(V.aX [p,q]).comp 1=q:=fun p q=>rfl;rw[e8,jn,c,c1,hk];by_cases e:x=a
  ·subst e;rw[cZ rfl];simp[e8.iV]
  ·rw[cR e,cond_false,S5 x z S (i+1) ((lz.1 h).resolve_left e),show (a::S).idxOf x=S.idxOf x+1 from by rw[List.idxOf_cons,show (a==x)=false from vb.2 fun h=>e h.symm];rfl];congr 2;omega
theorem S6 (x:α): ∀(S:List α) (i:Nat),x∉S→g9 (ke x) (.int .i64 ((i+S.length:Nat):Int)) (e8 ke i S)=e8 ke i (S++[x])
 | [],i,_=>by simp[e8,g9,e8.iV]
 | a::S,i,h=>by
  have c: ∀(p q:V),(V.aX [p,q]).comp 0=p:=fun p q=>rfl;have e:x≠a:=fun e=>h (by simp[e]);rw[e8,g9,c,hk,cR e,cond_false,List.cons_append,e8];congr 1;have:=S6 x S (i+1) fun hx=>h (by simp[hx]);rw[←this];simp only[List.length_cons];congr 3;omega
end
theorem amC (a b:Nat):gZ (.int .i64 (a:Int)) (.int .i64 (b:Int))=decide (a=b):=by
 simp only[gZ,V.cells,oR,vq,Bool.and_true];rw[wS];simp;omega
theorem S7 {n:Nat} (h:n≤1000000000000):fC .i64 (n:Int)=true:=by
 have e1:IntKind.min .i64= -9223372036854775808:=by decide
 have e2:IntKind.max .i64=9223372036854775807:=by decide
 unfold fC;rw[e1,e2];exact pJ.2 ⟨cZ (by omega),cZ (by omega)⟩
theorem amD {α:Type} [DecidableEq α] {S:List α} {a:α}:(bR S a).idxOf a=if a∈S then S.idxOf a else S.length:=by
 unfold bR;split
 ·rfl
 ·rename_i h;rw[zf,aj h];simp
noncomputable def abX (C:af) (q x gq gr:Int) (LC E3:LV):Option LV:=
 (idx E3 q).bind fun x1=>
 (idx x1.toList x).bind fun x2=>
 some [V.int .i64 x2.toInt,V.int .i64 gq,V.int .i64 gr,.list ax LC,.list ah E3]
theorem amE {q x gq gr:Int} {LC E3:LV} {r:Option LV} (h:abX CC q x gq gr LC E3=r):CC uz [V.int .i64 q,V.int .i64 x,V.int .i64 gq,V.int .i64 gr,.list ax LC,.list ah E3]=r:=bA (L:=bB) av h
noncomputable def abY (C:af) (q LD LF:Int) (E4 LG:LV):Option LV:=
 (idx E4 q).bind fun x1=>
 some [.bool x1.toBool,V.int .i64 LD,V.int .i64 LF,.list ax E4,.list ah LG]
theorem amF {q LD LF:Int} {E4 LG:LV} {r:Option LV} (h:abY CC q LD LF E4 LG=r):CC uA [V.int .i64 q,V.int .i64 LD,V.int .i64 LF,.list ax E4,.list ah LG]=r:=bA (L:=bB) av h
noncomputable def abZ (C:af) (x:Int) (aQ:LV):Option LV:=
 bif fC .i64 x&&true then
  bif fC .i64 x&&true then
  bif Nat.ble ((aQ.length+([V.int .i64 x]:LV).length)*8) bm then
   some [V.int .i64 (aQ.length:Int),.list ae (aQ++([V.int .i64 x]:LV)),.list jE (g9 (V.int .i64 x) (V.int .i64 (aQ.length:Int)) ([]:LV))]
  else none
  else none
 else none
theorem amG {x:Int} {aQ:LV} {r:Option LV} (h:abZ CC x aQ=r):CC Ek [V.int .i64 x,.list ae aQ]=r:=bA (L:=bB) av h
noncomputable def ab0 (C:af) (x:Int) (aQ aH:LV):Option LV:=
 bif fC .i64 x&&true then
  bif !(fG (V.int .i64 x) aH) then
  bif fC .i64 x&&true then
   bif Nat.ble ((aQ.length+([V.int .i64 x]:LV).length)*8) bm then
   some [V.int .i64 (aQ.length:Int),.list jE (g9 (V.int .i64 x) (V.int .i64 (aQ.length:Int)) aH),.list ae (aQ++([V.int .i64 x]:LV))]
   else none
  else none
  else
  some [V.int .i64 ((jn (V.int .i64 x) aH (V.int .i64 0)).toInt),.list jE aH,.list ae aQ]
 else none
theorem amH {x:Int} {aQ aH:LV} {r:Option LV} (h:ab0 CC x aQ aH=r):CC Qm [V.int .i64 x,.list ae aQ,.list jE aH]=r:=bA (L:=bB) av h
noncomputable def E5 (C:af) (dk i state t36 A5 A6 cF cX:Int) (bq aS bU ca:LV) (t37 oD oE:Int) (oF oG rows bf bK:LV) {β:Type} (kn:(Int×Int×Int×LV×LV×LV×LV×LV)→Option β) (kr:(Int×Bool×Int×Int×LV×LV×LV×LV×LV)→Option β):Option β:=
 bif decide (t37<t36) then
  (C uz [V.int .i64 state,V.int .i64 t37,V.int .i64 oD,V.int .i64 oE,.list ax oF,.list ah oG]).bind fun r3=>
  (C Qm [V.int .i64 ((V.nth r3 0).toInt),.list ae bf,.list jE bK]).bind fun r4=>
  ar rows t37 fun x5=>
  kn (wrap .i64 (t37+1),(V.nth (r3.drop 1) 0).toInt,(V.nth ((r3.drop 1).drop 1) 0).toInt,(V.nth (((r3.drop 1).drop 1).drop 1) 0).toList,(V.nth ((((r3.drop 1).drop 1).drop 1).drop 1) 0).toList,aE rows t37 (V.int .i64 ((V.nth r4 0).toInt)),(V.nth ((r4.drop 1).drop 1) 0).toList,(V.nth (r4.drop 1) 0).toList)
 else
  kr (t37,decide (t37<t36),oD,oE,oF,oG,rows,bf,bK)
noncomputable def LH (C:af) (dk i state t36 A5 A6 cF cX:Int) (bq aS bU ca:LV):=un fun t37=>un fun oD=>un fun oE=>un fun oF=>un fun oG=>un fun rows=>un fun bf bK=>E5 C dk i state t36 A5 A6 cF cX bq aS bU ca t37 oD oE oF oG rows bf bK (fun y=>some (Sum.inl y)) (fun r=>some (Sum.inr r))
noncomputable def E6 (C:af) (dk A5 A6 cF cX:Int) (bh bq:LV) (i oD oE:Int) (oF oG aS bf bK bU:LV) {β:Type} (kn:(Int×Int×Int×LV×LV×LV×LV×LV×LV)→Option β) (kr:((Int×Int×Int×LV×LV×Int×Int×LV×LV×LV) ⊕ (Int×Bool×Int×Int×LV×LV×LV×LV×LV×LV))→Option β):Option β:=
 bif decide (i<(aS.length:Int)) then
  ar aS i fun x2=>
  bif (decide (0≤dk))&&((decide (dk≤dk))&&(Nat.ble ((dk.toNat)*8) bm)) then
  (Loop (LH C dk i x2.toInt ((List.replicate (dk.toNat) (V.int .i64 0)).length:Int) A5 A6 cF cX bh bq bK bU) (0,oD,oE,oF,oG,List.replicate (dk.toNat) (V.int .i64 0),aS,bf)).bind (un fun oB=>un fun (oC:Bool)=>un fun ab1=>un fun ab2=>un fun (ab3:LV)=>un fun (ab4:LV)=>un fun (ab5:LV)=>un fun (A7:LV) (qi:LV)=>
   bif decide ((A7.length:Int)>512) then
    kr (.inl (3,ab1,ab2,ab3,ab4,0,0,([]:LV),([]:LV),([]:LV)))
   else
    bif Nat.ble ((bU.length+([.list ae ab5]:LV).length)*24) bm then
    (C uA [V.int .i64 x2.toInt,V.int .i64 ab1,V.int .i64 ab2,.list ax ab3,.list ah ab4]).bind fun rn=>
    bif Nat.ble ((bK.length+([.bool ((V.nth rn 0).toBool)]:LV).length)*1) bm then
     kn (wrap .i64 (i+1),(V.nth (rn.drop 1) 0).toInt,(V.nth ((rn.drop 1).drop 1) 0).toInt,(V.nth (((rn.drop 1).drop 1).drop 1) 0).toList,(V.nth ((((rn.drop 1).drop 1).drop 1).drop 1) 0).toList,A7,qi,bK++([.bool ((V.nth rn 0).toBool)]:LV),bU++([.list ae ab5]:LV))
    else none
    else none)
  else none
 else
  kr (.inr (i,decide (i<(aS.length:Int)),oD,oE,oF,oG,aS,bf,bK,bU))
noncomputable def LI (C:af) (dk A5 A6 cF cX:Int) (bh bq:LV):=un fun i=>un fun oD=>un fun oE=>un fun oF=>un fun oG=>un fun aS=>un fun bf=>un fun bK bU=>E6 C dk A5 A6 cF cX bh bq i oD oE oF oG aS bf bK bU (fun y=>some (Sum.inl y)) (fun r=>some (Sum.inr r))
noncomputable def ab6 (C:af):cz:=bt 161 SC [EQ,EQ,EQ,EQ,H1,H1,H1,H1,H1,EQ,EQ,EQ,EQ,H1,EQ,EQ,H1,H1,EQ,EQ] [[1,2,3,4,0,0,0,0,0,0,10,11,12,13,0,15,16,0,0,19,20]] (@E5 C) (bt 81 SD [EQ,H1,H1,H1,H1,H1,EQ,EQ,EQ,EQ,EQ,EQ,H1,H1,H1,H1] [[0,0,0,0,0,0,0,0,0,0],[1,0,0,0,0,0,0,7,8,9,10,11,12,0,0,0,0]] (@E6 C) bB)
theorem amI (C:af):bc C (ab6 C) 107 (Lp [1,1,1,1,0,1,0,0,1,0,0,1,1,0,1,0,0] 107):=br SC [EQ,EQ,EQ,EQ,H1,H1,H1,H1,H1,EQ,EQ,EQ,EQ,H1,EQ,EQ,H1,H1,EQ,EQ] [[1,2,3,4,0,0,0,0,0,0,10,11,12,13,0,15,16,0,0,19,20]] (@E5 C) (aR av)
theorem amJ (C:af):bc C (ab6 C) 107 (Lp [1,1,1,1,0,1,0,0] 107):=br SD [EQ,H1,H1,H1,H1,H1,EQ,EQ,EQ,EQ,EQ,EQ,H1,H1,H1,H1] [[0,0,0,0,0,0,0,0,0,0],[1,0,0,0,0,0,0,7,8,9,10,11,12,0,0,0,0]] (@E6 C) (aR (ba (amI C) av))
noncomputable def ab7 (C:af) (dk start oD oE:Int) (oF oG:LV):Option LV:=
 (C Ek [V.int .i64 start,.list ae ([]:LV)]).bind fun r1=>
 (Loop (LI C dk 0 0 dk 0 ([]:LV) ([]:LV)) (0,oD,oE,oF,oG,(V.nth (r1.drop 1) 0).toList,(V.nth ((r1.drop 1).drop 1) 0).toList,([]:LV),([]:LV))).bind (cP (un fun S8=>un fun j7=>un fun yo=>un fun (rp:LV)=>un fun (sN:LV)=>un fun amK=>un fun amL=>un fun (sO:LV)=>un fun (E7:LV) (amM:LV)=>
  some [V.int .i64 amK,V.int .i64 amL,V.int .i64 S8,V.int .i64 j7,V.int .i64 yo,.list ax rp,.list ah sN,.list ax sO,.list ah E7,.list ae amM]) (un fun sP=>un fun (LJ:Bool)=>un fun amN=>un fun amO=>un fun (amP:LV)=>un fun (amQ:LV)=>un fun (E8:LV)=>un fun (ab8:LV)=>un fun (yp:LV) (E9:LV)=>
  some [V.int .i64 dk,V.int .i64 0,V.int .i64 0,V.int .i64 amN,V.int .i64 amO,.list ax amP,.list ah amQ,.list ax yp,.list ah E9,.list ae E8]))
theorem amR {dk start oD oE:Int} {oF oG:LV} {r:Option LV} (h:ab7 CC dk start oD oE oF oG=r):CC Kz [V.int .i64 dk,V.int .i64 start,V.int .i64 oD,V.int .i64 oE,.list ax oF,.list ah oG]=r:=bA (ba (amJ CC) av) h
noncomputable def Fa (C:af) (t31 gq gr Fb Fc:Int) (sQ bh bq aS bf:LV) (t32:Int) (numbers:LV) {β:Type} (kn:(Int×LV)→Option β) (kr:(Int×Bool×LV)→Option β):Option β:=
 bif decide (t32<t31) then
  ar numbers t32 fun x3=>
  kn (wrap .i64 (t32+1),aE numbers t32 (V.int .i64 (-1)))
 else
  kr (t32,decide (t32<t31),numbers)
noncomputable def LL (C:af) (t31 gq gr Fb Fc:Int) (sQ bh bq aS bf:LV):=un fun t32 numbers=>Fa C t31 gq gr Fb Fc sQ bh bq aS bf t32 numbers (fun y=>some (Sum.inl y)) (fun r=>some (Sum.inr r))
noncomputable def Fe (C:af) (t40 gq gr Fb Fc:Int) (S9 bh bq aS bf:LV) (t41:Int) (numbers:LV) {β:Type} (kn:(Int×LV)→Option β) (kr:(Int×Bool×LV)→Option β):Option β:=
 bif decide (t41<t40) then
  ar S9 t41 fun x7=>
  bif (decide (0≤x7.toInt))&&(decide (x7.toInt<(numbers.length:Int))) then
  (numbers[(x7.toInt:Int).toNat]?).bind fun x8=>
  kn (wrap .i64 (t41+1),aE numbers (x7.toInt) (V.int .i64 t41))
  else none
 else
  kr (t41,decide (t41<t40),numbers)
noncomputable def LM (C:af) (t40 gq gr Fb Fc:Int) (S9 bh bq aS bf:LV):=un fun t41 numbers=>Fe C t40 gq gr Fb Fc S9 bh bq aS bf t41 numbers (fun y=>some (Sum.inl y)) (fun r=>some (Sum.inr r))
noncomputable def ab9 (C:af):cz:=bt 97 RV [EQ,H1,EQ,EQ,EQ,EQ,EQ,H1,EQ,EQ,EQ,EQ] [[1,0,0,3,4,5,6,7,0,9,10,11,12]] (@Fa C) (bt 177 RW [EQ,H1,EQ,EQ,EQ,EQ,H1,EQ,EQ,EQ,EQ,EQ] [[1,0,0,3,4,5,6,0,8,9,10,11,12]] (@Fe C) bB)
theorem amS (C:af):bc C (ab9 C) 74 (Lp [1,1,1,1,0,1,0,0] 74):=br RV [EQ,H1,EQ,EQ,EQ,EQ,EQ,H1,EQ,EQ,EQ,EQ] [[1,0,0,3,4,5,6,7,0,9,10,11,12]] (@Fa C) (aR av)
theorem amT (C:af):bc C (ab9 C) 74 (Lp [1,1,1,1,1,0,1,0,0] 74):=br RW [EQ,H1,EQ,EQ,EQ,EQ,H1,EQ,EQ,EQ,EQ,EQ] [[1,0,0,3,4,5,6,0,8,9,10,11,12]] (@Fe C) (aR av)
noncomputable def aca (C:af) (bW cf:Int) (bH b9:LV):Option LV:=
 (C sF [V.int .i64 bW,V.int .i64 cf,.list ax bH,.list ah b9]).bind fun r1=>
 bif (((V.nth r1 0).toInt):Int) != 0 then
  some [V.int .i64 0,V.int .i64 0,.list ax ([]:LV),.list ah ([]:LV),.list ae ([]:LV)]
 else
  (C Kz [V.int .i64 bW,V.int .i64 cf,V.int .i64 bW,V.int .i64 cf,.list ax bH,.list ah b9]).bind fun r2=>
  bif (decide (0≤(((V.nth (((r2.drop 3).drop 1).drop 1) 0).toList).length:Int)))&&((decide ((((V.nth (((r2.drop 3).drop 1).drop 1) 0).toList).length:Int)≤(((V.nth (((r2.drop 3).drop 1).drop 1) 0).toList).length:Int)))&&(Nat.ble ((((((V.nth (((r2.drop 3).drop 1).drop 1) 0).toList).length:Int):Int).toNat)*8) bm)) then
  (Loop (LL C ((List.replicate (((((V.nth (((r2.drop 3).drop 1).drop 1) 0).toList).length:Int):Int).toNat) (V.int .i64 0)).length:Int) 0 0 ((V.nth r2 0).toInt) ((V.nth (r2.drop 1) 0).toInt) ((V.nth ((((r2.drop 3).drop 4).drop 1).drop 1) 0).toList) ([]:LV) ([]:LV) ((V.nth ((r2.drop 3).drop 4) 0).toList) ((V.nth (((r2.drop 3).drop 4).drop 1) 0).toList)) (0,List.replicate (((((V.nth (((r2.drop 3).drop 1).drop 1) 0).toList).length:Int):Int).toNat) (V.int .i64 0))).bind (un fun gU=>un fun (oA:Bool) (amU:LV)=>
   (Loop (LM C (((V.nth ((((r2.drop 3).drop 4).drop 1).drop 1) 0).toList).length:Int) 0 0 ((V.nth r2 0).toInt) ((V.nth (r2.drop 1) 0).toInt) ((V.nth ((((r2.drop 3).drop 4).drop 1).drop 1) 0).toList) ([]:LV) ([]:LV) ((V.nth ((r2.drop 3).drop 4) 0).toList) ((V.nth (((r2.drop 3).drop 4).drop 1) 0).toList)) (0,amU)).bind (un fun mO=>un fun (LN:Bool) (amV:LV)=>
    some [V.int .i64 ((V.nth r2 0).toInt),V.int .i64 ((V.nth (r2.drop 1) 0).toInt),.list ax ((V.nth ((r2.drop 3).drop 4) 0).toList),.list ah ((V.nth (((r2.drop 3).drop 4).drop 1) 0).toList),.list ae amV]))
  else none
theorem amW {bW cf:Int} {bH b9:LV} {r:Option LV} (h:aca CC bW cf bH b9=r):CC Au [V.int .i64 bW,V.int .i64 cf,.list ax bH,.list ah b9]=r:=bA (ba (amS CC) (ba (amT CC) av)) h
def nV (q:Nat):V:= .int .i64 (q:Int)
def nS (S:List Nat):List V:=S.map nV
def mS (S:List Nat):List V:=e8 nV 0 S
theorem Ta (a b:Nat):gZ (nV a) (nV b)=decide (a=b):=amC a b
theorem cL {S:List Nat}:(nS S).length=S.length:=by simp[nS]
theorem uM {S:List Nat} {i:Nat} (h:i<S.length):(nS S)[i]? =some (nV S[i]):=by simp[nS,h]
theorem amX {x:Nat} (hx:x≤1000000):CC Ek [nV x,.list ae []]=some [nV 0,.list ae (nS [x]),.list jE (mS [x])]:=by
 refine amG ?_;unfold abZ;rw[S7 (by omega)];exact bT rfl (bT rfl (bT (cap (by simp) (by omega)) rfl))
theorem amY {S:List Nat} {x:Nat} (hx:x≤1000000) (hl:S.length≤1000000):CC Qm [nV x,.list ae (nS S),.list jE (mS S)]=some [nV ((bR S x).idxOf x),.list jE (mS (bR S x)),.list ae (nS (bR S x))]:=by
 refine amH ?_;unfold ab0;have e1:=S4 Ta x S 0;rw[S7 (by omega)];refine bT rfl ?_;rw[amD];by_cases h:x∈S
 ·refine bF (by rw[show fG (.int .i64 (x:Int)) (mS S)=true from e1.trans (cZ h)];rfl) ?_;have e2:=S5 Ta x (.int .i64 0) S 0 h;rw[show jn (.int .i64 (x:Int)) (mS S) (.int .i64 0)=_ from e2,ak h,eT,show bR S x=S by unfold bR;rw[ak h]];rfl
 ·refine bT (by rw[show fG (.int .i64 (x:Int)) (mS S)=false from e1.trans (cR h)];rfl) ?_;refine bT rfl ?_;refine bT (cap (by rw[cL];simp;omega) (by omega)) ?_;have e2:=S6 Ta x S 0 h;rw[eT] at e2;rw[cL,show g9 (.int .i64 (x:Int)) (.int .i64 (S.length:Int)) (mS S)=_ from e2,aj h,show bR S x=S++[x] by unfold bR;rw[aj h]];simp[nS,nV,mS]
theorem amZ {a:Da} {q x:Nat} (hq:q<a.n) (hx:x<a.L):CC uz (nV q::nV x::fE a)=some (nV (a.nx q x)::fE a):=by
 refine amE ?_;unfold abX;refine bs (Da.LB hq) ?_;rw[E0];exact bs (E1 hx) rfl
theorem am0 {a:Da} {q:Nat} (hq:q<a.n):CC uA (nV q::fE a)=some (.bool (a.fin q)::fE a):=by
 refine amF ?_;unfold abY;exact bs (Da.S0 hq) rfl
section
variable {a:Da} (h:a.Ok)
include h
theorem am1 {S U:List Nat} {q:Nat} (hq:q<a.n) (hS: ∀s∈S,s<a.n) (hSn:S.length≤1000) (hp:cx a.nx S q a.L <+: U) {i c1 c2:Int} {l1 l2 l3 l4:List V}:
  Loop (LH CC (a.L:Int) i (q:Int) ((List.replicate (((a.L:Nat):Int).toNat) (V.int .i64 0)).length:Int) c1 c2 (a.L:Int) 0 l1 l2 l3 l4) (0,(a.L:Int),(a.st:Int),a.dM,a.ed,List.replicate (((a.L:Nat):Int).toNat) (V.int .i64 0),nS S,mS S)=
   some ((a.L:Int),false,(a.L:Int),(a.st:Int),a.dM,a.ed,(tab a.L fun x=>nV (U.idxOf (a.nx q x))),nS (cx a.nx S q a.L),mS (cx a.nx S q a.L)):=by
 have h6:=h.l6;rw[Int.toNat_natCast,mP,eH];refine (dW a.L (fun x=>((x:Int),(a.L:Int),(a.st:Int),a.dM,a.ed,(tab a.L fun j=>if j<x then nV (U.idxOf (a.nx q j)) else nV 0),nS (cx a.nx S q x),mS (cx a.nx S q x))) _ (fun x hx=> ?_) ?_)
 ·simp only[LH,E5,un,ar,aE];refine bT (cg hx) ?_;refine bs (amZ hq hx) ?_;have hT:(cx a.nx S q x).length≤1000000:=by
   have: ∀x,(cx a.nx S q x).length≤S.length+x:=by
    intro x
    induction x with
    | zero=>exact az _
    | succ x ih=>rw[cx,A0];split<;>omega
   have:=this x;omega
  refine bs (amY (S:=cx a.nx S q x) (by have:=h.kq hq hx;have:=h.je;omega) hT) ?_;refine (ll hx).trans ?_;rw[cq (by omega),Int.toNat_natCast,iI];have e:(bR (cx a.nx S q x) (a.nx q x)).idxOf (a.nx q x)=U.idxOf (a.nx q x):=(A4 ((A1 S q (show x+1≤a.L by omega)).trans hp) wq).symm;show some (Sum.inl _)=some (Sum.inl _);refine congrArg (fun x=>some (Sum.inl x)) ?_;refine jl rfl (jl rfl (jl rfl (jl rfl (jl rfl (jl ?_ (jl rfl rfl))))));refine cJ fun j _=> ?_;by_cases hj:j=x
  ·rw[ak hj,bu,hj,←e];rfl
  ·rw[aj hj];by_cases dj:j<x
   ·rw[ak dj,bu]
   ·rw[aj dj,bO]
 ·simp only[LH,E5,un,ar,aE];refine bF (aW (az _)) ?_;rw[aW (az _)];have:(tab a.L fun j=>if j<a.L then nV (U.idxOf (a.nx q j)) else nV 0)=tab a.L fun j=>nV (U.idxOf (a.nx q j)):=cJ fun j hj=>ak hj;rw[this]
theorem am2:CC Kz ([nV a.L,nV a.st]++fE a)=some ([nV a.L,nV 0,.int .i64 0]++(fE a++[.list ax a.trim.dM,.list ah a.trim.ed,.list ae (nS (aJ a.L a.nx a.st a.n))])):=by
 have h6:=h.l6;have hm:=h.je;have hd:=h.uI a.n;refine amR ?_;unfold ab7;refine bs (amX (by have:=h.s;omega)) ?_;have key:Loop (LI CC (a.L:Int) 0 0 (a.L:Int) 0 ([]:List V) ([]:List V)) (0,(a.L:Int),(a.st:Int),a.dM,a.ed,nS [a.st],mS [a.st],([]:List V),([]:List V))=
   some (.inr (((aJ a.L a.nx a.st a.n).length:Int),false,(a.L:Int),(a.st:Int),a.dM,a.ed,nS (aJ a.L a.nx a.st a.n),mS (aJ a.L a.nx a.st a.n),a.trim.dM,a.trim.ed)):=by
  refine (dW (aJ a.L a.nx a.st a.n).length (fun i=>((i:Int),(a.L:Int),(a.st:Int),a.dM,a.ed,nS (aJ a.L a.nx a.st i),mS (aJ a.L a.nx a.st i),(tab i fun j=>V.bool (a.trim.fin j)),(tab i fun j=>lV a.L (a.trim.nx j)))) _ (fun i hi=> ?_) ?_)
  ·have zV:=SV hd hi;have hUi:(aJ a.L a.nx a.st i)[i]=(aJ a.L a.nx a.st a.n)[i]:=(uH (show i≤a.n by omega)).getElem zV;have hq:(aJ a.L a.nx a.st a.n)[i]<a.n:=h.EP _ _ (cM hi);have hlen:(aJ a.L a.nx a.st i).length≤512:=lu (h.uI i) hm;have auG:(aJ a.L a.nx a.st (i+1)).length≤512:=lu (h.uI (i+1)) hm;have tM:=EO hd hi;simp only[LI,E6,un,ar];refine bT (cZ (by rw[cL];omega)) ?_;refine (cy (uM zV)).trans ?_;refine bT (gh (by omega) (by omega)) ?_;rw[hUi];refine bs (am1 h hq (h.EP i) (by omega) (U:=aJ a.L a.nx a.st a.n) (by rw[←tM];exact uH (by omega))) ?_;rw[←tM];refine bF (cR (by rw[cL];omega)) ?_;refine bT (cap (by rw[eH];simp;omega) (by omega)) ?_;refine bs (am0 hq) ?_;refine bT (cap (by rw[eH];simp;omega) (by omega)) ?_;rw[cq (by omega),EW,EW];have e1:a.trim.fin i=a.fin (aJ a.L a.nx a.st a.n)[i]:=abC hi;have e2:lV a.L (a.trim.nx i)= .list ae (tab a.L fun x=>nV ((aJ a.L a.nx a.st a.n).idxOf (a.nx (aJ a.L a.nx a.st a.n)[i] x))):=by
    unfold lV;refine congrArg _ (cJ fun x hx=> ?_);rw[show a.trim.nx i x=_ from Lq hi hx];rfl
   rw[e1,e2];rfl
  ·simp only[LI,E6,un,ar];rw[abE hd,cL];refine bF (aW (az _)) ?_;rw[aW (az _)];have e3:a.trim.n=(aJ a.L a.nx a.st a.n).length:=sL;unfold Da.dM Da.ed;rw[e3];rfl
 refine bs key ?_;rfl
end
def nC (U:List Nat) (n:Nat):List V:=tab n fun q=>if q∈U then nV (U.idxOf q) else .int .i64 (-1)
theorem am3 {U:List Nat} {n i:Nat} (hU:U.Nodup) (hi:i<U.length):(tab n fun q=>if q∈U.take i then nV (U.idxOf q) else V.int .i64 (-1)).set U[i] (.int .i64 (i:Int))=tab n fun q=>if q∈U.take (i+1) then nV (U.idxOf q) else V.int .i64 (-1):=by
 rw[iI];refine cJ fun q _=> ?_;have e:q∈U.take (i+1)↔q∈U.take i∨q=U[i]:=by rw[HX hi,eS,fl]
 by_cases hq:q=U[i]
 ·rw[ak hq,ak (e.2 (.inr hq)),hq,hU.idxOf_getElem i hi];rfl
 ·rw[aj hq];by_cases h2:q∈U.take i
  ·rw[ak h2,ak (e.2 (.inl h2))]
  ·rw[aj h2,aj fun h3=>(e.1 h3).elim h2 hq]
theorem acb {a:Da} (h:a.Ok):CC Au (fE a)=some (fE a.trim++[.list ae (nC (aJ a.L a.nx a.st a.n) a.n)]):=by
 have hm:=h.je;have hU:=h.EP a.n;have hle:=h.uI a.n;refine amW ?_;unfold aca;refine bs (uL h) ?_;refine bF rfl ?_;refine bs (am2 h) ?_;have e0:((V.nth (((([nV a.L,nV 0,V.int .i64 0]++(fE a++[V.list ax a.trim.dM,V.list ah a.trim.ed,V.list ae (nS (aJ a.L a.nx a.st a.n))])).drop 3).drop 1).drop 1) 0).toList)=a.dM:=rfl;rw[e0,Da.EZ];refine bT (gh (by omega) (by omega)) ?_;rw[Int.toNat_natCast,mP,eH];generalize hUd:aJ a.L a.nx a.st a.n=U at*
 have l1: ∀{c1 c2 c3 c4:Int} {s1 s2 s3 s4 s5:List V},Loop (LL CC (a.n:Int) c1 c2 c3 c4 s1 s2 s3 s4 s5) (0,tab a.n fun _=>V.int .i64 0)=some ((a.n:Int),false,tab a.n fun q=>if q∈U.take 0 then nV (U.idxOf q) else V.int .i64 (-1)):=by
  intro c1 c2 c3 c4 s1 s2 s3 s4 s5;refine (dW a.n (fun i=>((i:Int),(tab a.n fun j=>if j<i then V.int .i64 (-1) else V.int .i64 0))) _ (fun i hi=> ?_) ?_)
  ·simp only[LL,Fa,un,ar,aE];refine bT (cg hi) ?_;refine (ll hi).trans ?_;rw[cq (by omega),Int.toNat_natCast,iI];refine congrArg (fun x=>some (Sum.inl (((i+1:Nat):Int),x))) (cJ fun j _=> ?_);by_cases hj:j=i
   ·rw[ak hj,bu]
   ·rw[aj hj];by_cases dj:j<i
    ·rw[ak dj,bu]
    ·rw[aj dj,bO]
  ·simp only[LL,Fa,un,ar,aE];refine bF (aW (az _)) ?_;rw[aW (az _)];refine congrArg (fun x=>some (Sum.inr ((a.n:Int),false,x))) (cJ fun j hj=> ?_);rw[ak hj,List.take_zero,aj (by simp)]
 refine bs l1 ?_;simp only[un];have hUn:U.Nodup:=by rw[←hUd];exact A3 _
 have l2: ∀{c1 c2 c3 c4:Int} {s2 s3 s4 s5:List V},Loop (LM CC ((nS U).length:Int) c1 c2 c3 c4 (nS U) s2 s3 s4 s5) (0,tab a.n fun q=>if q∈U.take 0 then nV (U.idxOf q) else V.int .i64 (-1))=some ((U.length:Int),false,nC U a.n):=by
  intro c1 c2 c3 c4 s2 s3 s4 s5;rw[cL];refine (dW U.length (fun i=>((i:Int),(tab a.n fun q=>if q∈U.take i then nV (U.idxOf q) else V.int .i64 (-1)))) _ (fun i hi=> ?_) ?_)
  ·have hq:=hU U[i] (cM hi);simp only[LM,Fe,un,ar,aE];refine bT (cg hi) ?_;refine (cy (uM hi)).trans ?_;refine (ll (i:=U[i]) hq).trans ?_;rw[cq (by omega)];refine congrArg (fun x=>some (Sum.inl (((i+1:Nat):Int),x))) ?_;exact am3 hUn hi
  ·simp only[LM,Fe,un,ar,aE];refine bF (aW (az _)) ?_;rw[aW (az _),va];rfl
 refine bs l2 ?_;rfl
noncomputable def Ff (C:af) (f t13:LV) (t14 t15:Int) {β:Type} (kn:Int→Option β) (kr:((Bool) ⊕ (Int×Bool))→Option β):Option β:=
 bif decide (t15<t14) then
  (idx t13 t15).bind fun x1=>
  bif decide ((x1.toInt:Int)<0) then
  kr (.inl false)
  else
  bif decide ((x1.toInt:Int)≥(f.length:Int)) then
   kr (.inl false)
  else
   kn (wrap .i64 (t15+1))
 else
  kr (.inr (t15,decide (t15<t14)))
noncomputable def Td (C:af) (f t13:LV) (t14:Int):=fun t15=>Ff C f t13 t14 t15 (fun y=>some (Sum.inl y)) (fun r=>some (Sum.inr r))
noncomputable def am4 (C:af):cz:=bt 65 SF [EQ,EQ,EQ,H1] [[0],[1,2,3,0,0]] (@Ff C) bB
theorem am5 (C:af):bc C (am4 C) 120 (Lp [1,1,0,1,0,0] 120):=br SF [EQ,EQ,EQ,H1] [[0],[1,2,3,0,0]] (@Ff C) (aR av)
noncomputable def acd (C:af) (f:LV):Option LV:=
 bif decide ((f.length:Int)<1) then
  some [.bool false]
 else
  bif decide ((f.length:Int)>32) then
  some [.bool false]
  else
  (Loop (Td C f f (f.length:Int)) 0).bind (cP (fun (sR:Bool)=>
   some [.bool sR]) (un fun (jF:Int) (gU:Bool)=>
   some [.bool true]))
theorem am6 {f:LV} {r:Option LV} (h:acd CC f=r):CC AE [.list ae f]=r:=bA (ba (am5 CC) av) h
noncomputable def Fg (C:af) (t14 t15:Int) (fs:LV) {β:Type} (kn:(Int×LV)→Option β) (kr:(Int×Bool×LV)→Option β):Option β:=
 bif decide (t15<t14) then
  ar fs t15 fun x1=>
  kn (wrap .i64 (t15+1),aE fs t15 (V.int .i64 t15))
 else
  kr (t15,decide (t15<t14),fs)
noncomputable def Te (C:af) (t14:Int):=un fun t15 fs=>Fg C t14 t15 fs (fun y=>some (Sum.inl y)) (fun r=>some (Sum.inr r))
noncomputable def am7 (C:af):cz:=bt 81 SG [EQ,H1,H1] [[1,0,0,0]] (@Fg C) bB
theorem am8 (C:af):bc C (am7 C) 122 (Lp [1,1,1,0,1,0,0] 122):=br SG [EQ,H1,H1] [[1,0,0,0]] (@Fg C) (aR av)
noncomputable def ace (C:af) (n:Int):Option LV:=
 bif decide (n<1) then
  some [.list ae ([]:LV)]
 else
  bif decide (n>32) then
  some [.list ae ([]:LV)]
  else
  bif (decide (0≤n))&&((decide (n≤n))&&(Nat.ble ((n.toNat)*8) bm)) then
   (Loop (Te C ((List.replicate (n.toNat) (V.int .i64 0)).length:Int)) (0,List.replicate (n.toNat) (V.int .i64 0))).bind (un fun sR=>un fun (jF:Bool) (am9:LV)=>
    some [.list ae am9])
  else none
theorem ana {n:Int} {r:Option LV} (h:ace CC n=r):CC KA [V.int .i64 n]=r:=bA (ba (am8 CC) av) h
noncomputable def Fh (C:af) (g t26:LV) (t27 t28:Int) (Fi:LV) {β:Type} (kn:(Int×LV)→Option β) (kr:(Int×Bool×LV)→Option β):Option β:=
 bif decide (t28<t27) then
  (idx t26 t28).bind fun x3=>
  (idx g x3.toInt).bind fun x4=>
  ar Fi t28 fun x5=>
  kn (wrap .i64 (t28+1),aE Fi t28 (V.int .i64 x4.toInt))
 else
  kr (t28,decide (t28<t27),Fi)
noncomputable def Tf (C:af) (g t26:LV) (t27:Int):=un fun t28 Fi=>Fh C g t26 t27 t28 Fi (fun y=>some (Sum.inl y)) (fun r=>some (Sum.inr r))
noncomputable def anb (C:af):cz:=bt 81 SI [EQ,EQ,EQ,H1,H1] [[1,2,3,0,0,0]] (@Fh C) bB
theorem anc (C:af):bc C (anb C) 124 (Lp [1,1,1,0,1,0,0] 124):=br SI [EQ,EQ,EQ,H1,H1] [[1,2,3,0,0,0]] (@Fh C) (aR av)
noncomputable def acf (C:af) (f g:LV):Option LV:=
 bif (f.length:Int) != (g.length:Int) then
  some [.list ae ([]:LV)]
 else
  (C AE [.list ae f]).bind fun r1=>
  bif !((V.nth r1 0).toBool) then
  some [.list ae ([]:LV)]
  else
  (C AE [.list ae g]).bind fun r2=>
  bif !((V.nth r2 0).toBool) then
   some [.list ae ([]:LV)]
  else
   bif (decide (0≤(f.length:Int)))&&((decide ((f.length:Int)≤(f.length:Int)))&&(Nat.ble (((f.length:Int).toNat)*8) bm)) then
   (Loop (Tf C g f (f.length:Int)) (0,List.replicate ((f.length:Int).toNat) (V.int .i64 0))).bind (un fun oB=>un fun (oC:Bool) (ane:LV)=>
    some [.list ae ane])
   else none
theorem anf {f g:LV} {r:Option LV} (h:acf CC f g=r):CC Ee [.list ae f,.list ae g]=r:=bA (ba (anc CC) av) h
noncomputable def Fj (C:af) (t9:LV) (t10 t11:Int) (Fk:LV) {β:Type} (kn:(Int×LV)→Option β) (kr:(Int×Bool×LV)→Option β):Option β:=
 bif decide (t11<t10) then
  (idx t9 t11).bind fun x1=>
  ar Fk t11 fun x2=>
  kn (wrap .i64 (t11+1),aE Fk t11 (.int .u8 (wrap .u8 x1.toInt)))
 else
  kr (t11,decide (t11<t10),Fk)
noncomputable def Tg (C:af) (t9:LV) (t10:Int):=un fun t11 Fk=>Fj C t9 t10 t11 Fk (fun y=>some (Sum.inl y)) (fun r=>some (Sum.inr r))
noncomputable def ang (C:af):cz:=bt 49 SH [EQ,EQ,H1,H1] [[1,2,0,0,0]] (@Fj C) bB
theorem anh (C:af):bc C (ang C) 123 (Lp [1,1,0,1,0,0] 123):=br SH [EQ,EQ,H1,H1] [[1,2,0,0,0]] (@Fj C) (aR av)
noncomputable def acg (C:af) (f:LV):Option LV:=
 bif (decide (0≤(f.length:Int)))&&((decide ((f.length:Int)≤(f.length:Int)))&&(Nat.ble (((f.length:Int).toNat)*1) bm)) then
  (Loop (Tg C f (f.length:Int)) (0,List.replicate ((f.length:Int).toNat) (V.int .u8 0))).bind (un fun jF=>un fun (gU:Bool) (ani:LV)=>
   some [.str (lD ani)])
 else none
theorem anj {f:LV} {r:Option LV} (h:acg CC f=r):CC v9 [.list ae f]=r:=bA (ba (anh CC) av) h
section
variable {X R γ:Type} {step:X→Option (X ⊕ R)}
theorem sS (s:Nat→LV→X) (n:Nat) (g:Nat→V) (a0:LV) (h0:a0.length=n) (r:LV→R)
  (h: ∀i,i<n→∀a:LV,a.length=n→step (s i a)=some (.inl (s (i+1) (a.set i (g i))))) (he:step (s n (tab n g))=some (.inr (r (tab n g)))):Loop step (s 0 a0)=some (r (tab n g)):=by
 have key: ∀i,i≤n→step (s i (tab n fun j=>if j<i then g j else a0.getD j (.bool false)))=if i<n then some (.inl (s (i+1) (tab n fun j=>if j<i+1 then g j else a0.getD j (.bool false)))) else some (.inr (r (tab n g))):=by
  intro i hi;by_cases c:i<n
  ·rw[ak c,h i c _ (by simp),iI];refine congrArg (fun t=>some (Sum.inl (s (i+1) t))) (cJ fun j _=> ?_);by_cases c2:j=i
   ·rw[ak c2,bu,c2]
   ·rw[aj c2];by_cases c3:j<i
    ·rw[ak c3,bu]
    ·rw[aj c3,bO]
  ·rw[aj c];obtain rfl:i=n:=by omega
   rw[show (tab i fun j=>if j<i then g j else a0.getD j (.bool false))=tab i g from cJ fun j hj=>ak hj];exact he
 have e0:a0=tab n fun j=>if j<0 then g j else a0.getD j (.bool false):=by
  conv=>lhs;rw[abR a0 (.bool false),h0]
  exact cJ fun j _=>by rw[bO]
 rw[e0];refine dW n (fun i=>s i (tab n fun j=>if j<i then g j else a0.getD j (.bool false))) _ (fun i hi=> ?_) ?_
 ·rw[key i (by omega),ak hi]
 ·rw[key n (az _),aj (ml _)]
theorem rq {es:LV} {i:Nat} (hi:i<es.length) {K:Option γ}:(bif (decide (0≤(i:Int)))&&(decide ((i:Int)<(es.length:Int))) then (es[((i:Int)).toNat]?).bind (fun _=>K) else none)=K:=
 (cy (bS hi)).trans rfl
end
theorem gi {S:List Nat} {i:Nat} (h:i<S.length):idx (nS S) (i:Int)=some (nV S[i]):=by rw[PX rfl,uM h]
theorem LO (S:List Nat):nS S=tab S.length fun i=>nV (S.getD i 0):=yn S 0
theorem Fl {i n:Nat} (h:i<n):decide ((i:Int)≥(n:Int))=false:=cR (by omega)
theorem yq {i:Nat}:decide ((i:Int)<0)=false:=cR (by omega)
def Tr (n:Nat) (f:List Nat):Prop:=f.length=n∧∀y∈f,y<n
def comp (f g:List Nat):List Nat:=f.map fun i=>g.getD i 0
theorem Tr.at {n:Nat} {f:List Nat} (h:Tr n f) {i:Nat} (hi:i<f.length):f[i]<n:=h.2 _ (cM hi)
theorem Tr.comp {n:Nat} {f g:List Nat} (hf:Tr n f) (hg:Tr n g):Tr n (comp f g):=by
 refine ⟨by simp[Go.AM.comp,hf.1],fun y hy=> ?_⟩;obtain ⟨i,hi,rfl⟩:=ez.1 hy;have:=hf.2 i hi;rw[bD (by rw[hg.1];exact this)];exact hg.at _
theorem Fm {n:Nat}:Tr n (List.range n):=⟨by simp,fun y hy=>fm.1 hy⟩
section
variable {n:Nat} {f g:List Nat} (h1:1≤n) (nD:n≤32)
include h1 nD
theorem Th (hf:Tr n f):CC AE [.list ae (nS f)]=some [.bool true]:=by
 have hl:=hf.1;refine am6 ?_;unfold acd;rw[cL,hl];refine bF (cR (by omega)) (bF (cR (by omega)) ?_);refine bs (dW n (fun i=>(i:Int)) (.inr ((n:Int),false)) (fun i hi=> ?_) ?_) rfl
 ·simp only[Td,Ff];have cd:i<f.length:=by omega
  refine bT (cg hi) (bs (gi cd) (bF yq (bF ?_ ?_)))
  ·rw[cL,hl];exact Fl (hf.at cd)
  ·rw[cq (by omega)]
 ·simp only[Td,Ff];rw[aW (az _)];rfl
theorem ank:CC KA [.int .i64 (n:Int)]=some [.list ae (nS (List.range n))]:=by
 refine ana ?_;unfold ace;refine bF (cR (by omega)) (bF (cR (by omega)) (bT (gh (by omega) (by omega)) ?_));rw[Int.toNat_natCast,za];refine bs (sS (fun i a=>((i:Int),a)) n nV _ (by simp) (fun a=>((n:Int),false,a)) (fun i hi a ha=> ?_) ?_) ?_
 ·simp only[Te,Fg,un,ar,aE];refine bT (cg hi) ((rq (by omega)).trans ?_);rw[cq (by omega),Int.toNat_natCast];rfl
 ·simp only[Te,Fg,un];rw[aW (az _)];rfl
 ·rw[LO];refine congrArg (fun t=>some [V.list ae t]) ?_;rw[jP];exact cJ fun j hj=>by rw[bD (by simpa using hj)];simp
theorem anl (hf:Tr n f) (hg:Tr n g):CC Ee [.list ae (nS f),.list ae (nS g)]=some [.list ae (nS (comp f g))]:=by
 have hl:=hf.1;have hlg:=hg.1;refine anf ?_;unfold acf;rw[cL,cL,hl,hlg];refine bF (by simp) (bs (Th h1 nD hf) (bF rfl (bs (Th h1 nD hg) (bF rfl (bT (gh (by omega) (by omega)) ?_)))));rw[Int.toNat_natCast];refine bs (sS (fun i a=>((i:Int),a)) n (fun i=>nV (g.getD (f.getD i 0) 0)) _ (by simp) (fun a=>((n:Int),false,a)) (fun i hi a ha=> ?_) ?_) ?_
 ·simp only[Tf,Fh,un,ar,aE];have cd:i<f.length:=by omega
  have h2:=hf.at cd;refine bT (cg hi) (bs (gi cd) (bs (gi (i:=f[i]) (by omega)) ((rq (by omega)).trans ?_)));rw[cq (by omega),Int.toNat_natCast,bD cd,bD (by omega)];rfl
 ·simp only[Tf,Fh,un];rw[aW (az _)];rfl
 ·rw[LO];refine congrArg (fun t=>some [V.list ae t]) ?_;rw[show (comp f g).length=n by simp[comp,hl]];refine cJ fun j hj=> ?_;have dQ:j<f.length:=by omega
  rw[bD (l:=comp f g) (by simpa[comp] using dQ),bD dQ];simp[comp]
end
def lX (f:List Nat):List UInt8:=f.map fun y=>UInt8.ofNat y
theorem anm {n:Nat} (hn:n≤256) {f g:List Nat} (hf:Tr n f) (hg:Tr n g) (e:lX f=lX g):f=g:=by
 refine tn (hf.1.trans hg.1.symm) fun i h1 h2=> ?_;have:=List.getElem_of_eq e (i:=i) (by simpa[lX] using h1);simp only[lX,zg] at this;have a:=hf.at h1;have b:=hg.at h2;have:=congrArg UInt8.toNat this;simp only[UInt8.toNat_ofNat'] at this;omega
theorem Ti {n:Nat} {f:List Nat} (hn:n≤32) (hf:Tr n f):CC v9 [.list ae (nS f)]=some [.str (lX f)]:=by
 have hl:=hf.1;refine anj ?_;unfold acg;rw[cL,hl];refine bT (gh (by omega) (by omega)) ?_;rw[Int.toNat_natCast];refine bs (sS (fun i a=>((i:Int),a)) n (fun i=> .int .u8 ((f.getD i 0:Nat):Int)) _ (by simp) (fun a=>((n:Int),false,a)) (fun i hi a ha=> ?_) ?_) ?_
 ·simp only[Tg,Fj,un,ar,aE];have cd:i<f.length:=by omega
  have h2:=hf.at cd;refine bT (cg hi) (bs (gi cd) ((rq (by omega)).trans ?_));rw[cq (by omega),Int.toNat_natCast,bD cd,show (nV f[i]).toInt=(f[i]:Int) from rfl,JP (by omega) (by omega)]
 ·simp only[Tg,Fj,un];rw[aW (az _)];rfl
 ·refine congrArg (fun t=>some [V.str t]) ?_;rw[←hl];have:(tab f.length fun i=>V.int .u8 ((f.getD i 0:Nat):Int))=f.map fun y=> .int .u8 (y:Int):=(yn (f:=fun y:Nat=>V.int .u8 (y:Int)) f 0).symm;rw[this];simp[lD,lX]
end Go.AM
set_option maxRecDepth 100000
namespace Go.AM
open Go.IntKind (wrap)
section
variable {α:Type} [DecidableEq α] {L:Nat} {next:α→Nat→α} {a0:α}
theorem ach (S:List α) (a:α): ∀x,(cx next S a x).length≤S.length+x
 | 0=>az _
 | x+1=>by
  have:=ach S a x;rw[cx,A0];split<;>omega
end
end Go.AM
set_option maxRecDepth 100000
namespace Go.AM
open Go.IntKind (wrap)
open Go.Proofs
noncomputable def aci (C:af) (f:LV) (Fo last:Int) (word:List UInt8) (behind bN:Int) (bY:Bool) (c8:Int) (aQ aH aI bh bq aS bf bK bU ca:LV):Option LV:=
 (C v9 [.list ae f]).bind fun r1=>
 bif Nat.ble (((V.nth r1 0).toStr).length) maxLen&&true then
  bif Nat.ble ((aH.length+([.list ae f]:LV).length)*24) bm then
  bif Nat.ble ((aI.length+([V.int .i64 Fo]:LV).length)*8) bm then
   bif Nat.ble ((bh.length+([V.int .i64 last]:LV).length)*8) bm then
   bif Nat.ble ((bK.length+([.str word]:LV).length)*16) bm then
    bif Nat.ble ((bU.length+([V.int .i64 behind]:LV).length)*8) bm then
    some [V.int .i64 (aH.length:Int),V.int .i64 bN,.bool bY,V.int .i64 c8,.list ah aQ,.list cC (g9 (.str ((V.nth r1 0).toStr)) (V.int .i64 (aH.length:Int)) bf),.list ah (aH++([.list ae f]:LV)),.list ae (aI++([V.int .i64 Fo]:LV)),.list ae (bh++([V.int .i64 last]:LV)),.list ah bq,.list dU aS,.list cp (bK++([.str word]:LV)),.list ae (bU++([V.int .i64 behind]:LV)),.list ae ca]
    else none
   else none
   else none
  else none
  else none
 else none
theorem ano {f:LV} {Fo last:Int} {word:List UInt8} {behind bN:Int} {bY:Bool} {c8:Int} {aQ aH aI bh bq aS bf bK bU ca:LV} {r:Option LV} (h:aci CC f Fo last word behind bN bY c8 aQ aH aI bh bq aS bf bK bU ca=r):CC AF [.list ae f,V.int .i64 Fo,V.int .i64 last,.str word,V.int .i64 behind,V.int .i64 bN,.bool bY,V.int .i64 c8,.list ah aQ,.list ah aH,.list ae aI,.list ae bh,.list ah bq,.list dU aS,.list cC bf,.list cp bK,.list ae bU,.list ae ca]=r:=bA (L:=bB) av h
noncomputable def acj (C:af) (i x bN:Int) (bY:Bool) (c8:Int) (aQ aH aI bh bq aS bf bK bU ca:LV):Option LV:=
 bif i==(-1) then
  ar ca x fun x1=>
  some [V.int .i64 x1.toInt,V.int .i64 bN,.bool bY,V.int .i64 c8,.list ah aQ,.list cC bf,.list ah aH,.list ae aI,.list ae bh,.list ah bq,.list dU aS,.list cp bK,.list ae bU,.list ae ca]
 else
  ar bq i fun x2=>
  (idx x2.toList x).bind fun x3=>
  some [V.int .i64 x3.toInt,V.int .i64 bN,.bool bY,V.int .i64 c8,.list ah aQ,.list cC bf,.list ah aH,.list ae aI,.list ae bh,.list ah bq,.list dU aS,.list cp bK,.list ae bU,.list ae ca]
theorem anp {i x bN:Int} {bY:Bool} {c8:Int} {aQ aH aI bh bq aS bf bK bU ca:LV} {r:Option LV} (h:acj CC i x bN bY c8 aQ aH aI bh bq aS bf bK bU ca=r):CC Ef [V.int .i64 i,V.int .i64 x,V.int .i64 bN,.bool bY,V.int .i64 c8,.list ah aQ,.list ah aH,.list ae aI,.list ae bh,.list ah bq,.list dU aS,.list cC bf,.list cp bK,.list ae bU,.list ae ca]=r:=bA (L:=bB) av h
noncomputable def ack (C:af) (bN:Int) (bY:Bool) (c8:Int) (aQ aH aI bh bq aS bf bK bU ca:LV):Option LV:=
 some [.bool (c8==(aH.length:Int)),V.int .i64 bN,.bool bY,V.int .i64 c8,.list cC bf,.list ah aQ,.list ah aH,.list ae aI,.list ae bh,.list ah bq,.list dU aS,.list cp bK,.list ae bU,.list ae ca]
theorem anq {bN:Int} {bY:Bool} {c8:Int} {aQ aH aI bh bq aS bf bK bU ca:LV} {r:Option LV} (h:ack CC bN bY c8 aQ aH aI bh bq aS bf bK bU ca=r):CC Kt [V.int .i64 bN,.bool bY,V.int .i64 c8,.list ah aQ,.list ah aH,.list ae aI,.list ae bh,.list ah bq,.list dU aS,.list cC bf,.list cp bK,.list ae bU,.list ae ca]=r:=bA (L:=bB) av h
noncomputable def LP (C:af) (i x bN:Int) (bY:Bool) (c8:Int) (aQ aH aI bh bq aS bf bK bU ca:LV):Option LV:=
 (C Ef [V.int .i64 i,V.int .i64 x,V.int .i64 bN,.bool bY,V.int .i64 c8,.list ah aQ,.list ah aH,.list ae aI,.list ae bh,.list ah bq,.list dU aS,.list cC bf,.list cp bK,.list ae bU,.list ae ca]).bind fun r1=>
 ar ((V.nth (((((r1.drop 1).drop 3).drop 1).drop 1).drop 1) 0).toList) ((V.nth r1 0).toInt) fun x2=>
 bif (x2.toInt:Int)==i then
  ar ((V.nth ((((((r1.drop 1).drop 3).drop 1).drop 1).drop 1).drop 1) 0).toList) ((V.nth r1 0).toInt) fun x3=>
  some [.bool ((x3.toInt:Int)==x),V.int .i64 ((V.nth (r1.drop 1) 0).toInt),.bool ((V.nth ((r1.drop 1).drop 1) 0).toBool),V.int .i64 ((V.nth (((r1.drop 1).drop 1).drop 1) 0).toInt),.list ah ((V.nth ((r1.drop 1).drop 3) 0).toList),.list cC ((V.nth (((r1.drop 1).drop 3).drop 1) 0).toList),.list ah ((V.nth ((((r1.drop 1).drop 3).drop 1).drop 1) 0).toList),.list ae ((V.nth (((((r1.drop 1).drop 3).drop 1).drop 1).drop 1) 0).toList),.list ae ((V.nth ((((((r1.drop 1).drop 3).drop 1).drop 1).drop 1).drop 1) 0).toList),.list ah ((V.nth (((((((r1.drop 1).drop 3).drop 1).drop 1).drop 1).drop 1).drop 1) 0).toList),.list dU ((V.nth ((((((((r1.drop 1).drop 3).drop 1).drop 1).drop 1).drop 1).drop 1).drop 1) 0).toList),.list cp ((V.nth (((((((((r1.drop 1).drop 3).drop 1).drop 1).drop 1).drop 1).drop 1).drop 1).drop 1) 0).toList),.list ae ((V.nth ((((((((((r1.drop 1).drop 3).drop 1).drop 1).drop 1).drop 1).drop 1).drop 1).drop 1).drop 1) 0).toList),.list ae ((V.nth (((((((((((r1.drop 1).drop 3).drop 1).drop 1).drop 1).drop 1).drop 1).drop 1).drop 1).drop 1).drop 1) 0).toList)]
 else
  some [.bool false,V.int .i64 ((V.nth (r1.drop 1) 0).toInt),.bool ((V.nth ((r1.drop 1).drop 1) 0).toBool),V.int .i64 ((V.nth (((r1.drop 1).drop 1).drop 1) 0).toInt),.list ah ((V.nth ((r1.drop 1).drop 3) 0).toList),.list cC ((V.nth (((r1.drop 1).drop 3).drop 1) 0).toList),.list ah ((V.nth ((((r1.drop 1).drop 3).drop 1).drop 1) 0).toList),.list ae ((V.nth (((((r1.drop 1).drop 3).drop 1).drop 1).drop 1) 0).toList),.list ae ((V.nth ((((((r1.drop 1).drop 3).drop 1).drop 1).drop 1).drop 1) 0).toList),.list ah ((V.nth (((((((r1.drop 1).drop 3).drop 1).drop 1).drop 1).drop 1).drop 1) 0).toList),.list dU ((V.nth ((((((((r1.drop 1).drop 3).drop 1).drop 1).drop 1).drop 1).drop 1).drop 1) 0).toList),.list cp ((V.nth (((((((((r1.drop 1).drop 3).drop 1).drop 1).drop 1).drop 1).drop 1).drop 1).drop 1) 0).toList),.list ae ((V.nth ((((((((((r1.drop 1).drop 3).drop 1).drop 1).drop 1).drop 1).drop 1).drop 1).drop 1).drop 1) 0).toList),.list ae ((V.nth (((((((((((r1.drop 1).drop 3).drop 1).drop 1).drop 1).drop 1).drop 1).drop 1).drop 1).drop 1).drop 1) 0).toList)]
theorem anr {i x bN:Int} {bY:Bool} {c8:Int} {aQ aH aI bh bq aS bf bK bU ca:LV} {r:Option LV} (h:LP CC i x bN bY c8 aQ aH aI bh bq aS bf bK bU ca=r):CC Eg [V.int .i64 i,V.int .i64 x,V.int .i64 bN,.bool bY,V.int .i64 c8,.list ah aQ,.list ah aH,.list ae aI,.list ae bh,.list ah bq,.list dU aS,.list cC bf,.list cp bK,.list ae bU,.list ae ca]=r:=bA (L:=bB) av h
end Go.AM
