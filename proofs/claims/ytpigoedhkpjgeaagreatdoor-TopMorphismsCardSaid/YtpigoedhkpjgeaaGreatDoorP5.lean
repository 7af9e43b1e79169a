/-
  Functions of the program, lifted to plain data.
-/
import Derived.Test.YtpigoedhkpjgeaaGreatDoorProg
import Derived.Tactics
import Derived.Tactics2
import Derived.StillTactics
import Derived.Laws.Pointers
import Derived.Lib.LazyBuf
import Derived.RegionTactic
import Derived.LoopTactic
import Derived.WalkKit
import Derived.Laws.Externs
import Derived.Lib.Builder
import Derived.Recover
import Derived.Test.YtpigoedhkpjgeaaGreatDoorRows
import Derived.Lib.LaidTab
import Derived.LaidHandle
import Derived.MakeChecks
import Derived.Lay
import Derived.Test.YtpigoedhkpjgeaaGreatDoorP4
set_option linter.unusedVariables false
set_option linter.unusedSimpArgs false
set_option linter.unusedSectionVars false
set_option maxRecDepth 100000
namespace Go.AM
open Go.IntKind (wrap)
open Go.Proofs
abbrev Aj:List UInt8:=[0,1,2,2,3,3,3,3,4,4,4,4,4,4,4,4,5,5,5,5,5,5,5,5,5,5,5,5,5,5,5,5,6,6,6,6,6,6,6,6,6,6,6,6,6,6,6,6,6,6,6,6,6,6,6,6,6,6,6,6,6,6,6,6,7,7,7,7,7,7,7,7,7,7,7,7,7,7,7,7,7,7,7,7,7,7,7,7,7,7,7,7,7,7,7,7,7,7,7,7,7,7,7,7,7,7,7,7,7,7,7,7,7,7,7,7,7,7,7,7,7,7,7,7,7,7,7,7,8,8,8,8,8,8,8,8,8,8,8,8,8,8,8,8,8,8,8,8,8,8,8,8,8,8,8,8,8,8,8,8,8,8,8,8,8,8,8,8,8,8,8,8,8,8,8,8,8,8,8,8,8,8,8,8,8,8,8,8,8,8,8,8,8,8,8,8,8,8,8,8,8,8,8,8,8,8,8,8,8,8,8,8,8,8,8,8,8,8,8,8,8,8,8,8,8,8,8,8,8,8,8,8,8,8,8,8,8,8,8,8,8,8,8,8,8,8,8,8,8,8,8,8,8,8,8,8]
abbrev DS:FuncId:=3
abbrev DT:FuncId:=4
abbrev ur:FuncId:=5
abbrev DU:FuncId:=6
abbrev JY:FuncId:=7
abbrev ou:FuncId:=8
abbrev DV:FuncId:=9
abbrev JZ:FuncId:=10
abbrev J0:FuncId:=11
abbrev J1:FuncId:=12
abbrev J2:FuncId:=13
abbrev J3:FuncId:=14
abbrev J4:FuncId:=15
abbrev J5:FuncId:=16
abbrev Ak:FuncId:=17
abbrev uu:FuncId:=18
abbrev P7:FuncId:=19
abbrev DW:FuncId:=20
abbrev J6:FuncId:=21
abbrev Al:FuncId:=22
abbrev J7:FuncId:=23
abbrev sC:FuncId:=24
abbrev J8:FuncId:=25
abbrev DX:FuncId:=26
abbrev DY:FuncId:=27
abbrev DZ:FuncId:=28
abbrev J9:FuncId:=29
abbrev Ka:FuncId:=30
abbrev D0:FuncId:=31
abbrev D1:FuncId:=32
abbrev uv:FuncId:=33
abbrev D2:FuncId:=34
abbrev Am:FuncId:=35
abbrev rh:FuncId:=36
abbrev Kb:FuncId:=37
abbrev P8:FuncId:=38
abbrev P9:FuncId:=39
abbrev Qa:FuncId:=40
abbrev Qb:FuncId:=41
abbrev An:FuncId:=42
abbrev Qc:FuncId:=43
abbrev Kd:FuncId:=44
abbrev ait:FuncId:=45
abbrev aiu:FuncId:=46
abbrev Zl:FuncId:=47
abbrev aiv:FuncId:=48
abbrev aiw:FuncId:=49
abbrev Ke:FuncId:=50
abbrev Kf:FuncId:=52
abbrev Kg:FuncId:=53
abbrev Kh:FuncId:=54
abbrev Ki:FuncId:=55
abbrev D3:FuncId:=56
abbrev Kj:FuncId:=57
abbrev D4:FuncId:=58
abbrev Kk:FuncId:=59
abbrev Ao:FuncId:=60
abbrev ja:FuncId:=61
abbrev D5:FuncId:=62
abbrev Kl:FuncId:=63
abbrev Km:FuncId:=64
abbrev Kn:FuncId:=65
abbrev Qd:FuncId:=66
abbrev aix:FuncId:=67
abbrev aiy:FuncId:=68
abbrev Ko:FuncId:=69
abbrev aiz:FuncId:=70
abbrev vV:FuncId:=71
abbrev vW:FuncId:=72
abbrev D6:FuncId:=73
abbrev Ap:FuncId:=74
abbrev Kp:FuncId:=75
abbrev aiA:FuncId:=76
abbrev aiB:FuncId:=77
abbrev aiC:FuncId:=78
abbrev aiD:FuncId:=79
abbrev vX:FuncId:=80
abbrev Aq:FuncId:=81
abbrev Kq:FuncId:=82
abbrev Kr:FuncId:=83
abbrev D7:FuncId:=84
abbrev Ks:FuncId:=85
abbrev D8:FuncId:=86
abbrev D9:FuncId:=88
abbrev Ea:FuncId:=89
abbrev Kt:FuncId:=90
abbrev Eb:FuncId:=91
abbrev Ku:FuncId:=92
abbrev Kv:FuncId:=93
abbrev jy:FuncId:=94
abbrev xS:FuncId:=95
abbrev qb:FuncId:=96
abbrev Kw:FuncId:=98
abbrev qc:FuncId:=99
abbrev aiE:FuncId:=100
abbrev aiF:FuncId:=101
abbrev aiG:FuncId:=102
abbrev aiH:FuncId:=103
abbrev aiI:FuncId:=104
abbrev aiJ:FuncId:=105
abbrev Qe:FuncId:=106
abbrev Kx:FuncId:=107
abbrev uw:FuncId:=108
abbrev ux:FuncId:=109
abbrev Ar:FuncId:=110
abbrev aiK:FuncId:=111
abbrev vY:FuncId:=112
abbrev As:FuncId:=113
abbrev Au:FuncId:=114
abbrev Av:FuncId:=115
abbrev Aw:FuncId:=116
abbrev Ax:FuncId:=117
abbrev Ay:FuncId:=118
abbrev aiL:FuncId:=119
abbrev Az:FuncId:=120
abbrev AA:FuncId:=121
abbrev Ky:FuncId:=122
abbrev vZ:FuncId:=123
abbrev Ec:FuncId:=124
abbrev Ed:FuncId:=125
abbrev Ee:FuncId:=126
abbrev Ef:FuncId:=127
abbrev Kz:FuncId:=128
abbrev KA:FuncId:=129
abbrev AB:FuncId:=130
abbrev Eg:FuncId:=131
abbrev Eh:FuncId:=132
abbrev aiM:FuncId:=133
abbrev aiN:FuncId:=134
abbrev aiO:FuncId:=135
abbrev aiP:FuncId:=136
abbrev aiQ:FuncId:=137
abbrev aiR:FuncId:=138
abbrev aiS:FuncId:=139
abbrev aiT:FuncId:=140
abbrev KC:FuncId:=141
abbrev Ei:FuncId:=142
abbrev v5:FuncId:=143
abbrev AD:FuncId:=144
abbrev aiU:FuncId:=145
abbrev Qf:FuncId:=146
abbrev aiV:FuncId:=147
abbrev aiW:FuncId:=148
abbrev aiX:FuncId:=149
abbrev aiY:FuncId:=150
abbrev xT:FuncId:=151
abbrev aiZ:FuncId:=152
abbrev ai0:FuncId:=154
abbrev ai1:FuncId:=155
abbrev ai2:FuncId:=156
abbrev Ej:FuncId:=157
abbrev ai3:FuncId:=158
abbrev AE:FuncId:=159
abbrev ai4:FuncId:=162
abbrev ai5:FuncId:=163
abbrev ae:TypeId:=3
abbrev ax:TypeId:=4
abbrev Ek:TypeId:=5
abbrev ch:TypeId:=9
abbrev kh:TypeId:=22
abbrev Qg:TypeId:=23
abbrev ah:TypeId:=33
abbrev cg:TypeId:=50
abbrev AF:TypeId:=89
abbrev jz:TypeId:=95
abbrev cz:TypeId:=115
abbrev uy:TypeId:=126
abbrev El:TypeId:=163
abbrev dQ:TypeId:=171
abbrev jA:TypeId:=186
abbrev Qh:Nat:=197
def KD:List V:=[.int .u8 0,.int .u8 1,.int .u8 56,.int .u8 2,.int .u8 57,.int .u8 49,.int .u8 28,.int .u8 3,.int .u8 61,.int .u8 58,.int .u8 42,.int .u8 50,.int .u8 38,.int .u8 29,.int .u8 17,.int .u8 4,.int .u8 62,.int .u8 47,.int .u8 59,.int .u8 36,.int .u8 45,.int .u8 43,.int .u8 51,.int .u8 22,.int .u8 53,.int .u8 39,.int .u8 33,.int .u8 30,.int .u8 24,.int .u8 18,.int .u8 12,.int .u8 5,.int .u8 63,.int .u8 55,.int .u8 48,.int .u8 27,.int .u8 60,.int .u8 41,.int .u8 37,.int .u8 16,.int .u8 46,.int .u8 35,.int .u8 44,.int .u8 21,.int .u8 52,.int .u8 32,.int .u8 23,.int .u8 11,.int .u8 54,.int .u8 26,.int .u8 40,.int .u8 15,.int .u8 34,.int .u8 20,.int .u8 31,.int .u8 10,.int .u8 25,.int .u8 14,.int .u8 19,.int .u8 9,.int .u8 13,.int .u8 8,.int .u8 7,.int .u8 6]
abbrev aa:VS:= .one (.int .i64)
abbrev aw:VS:= .one (.bool)
abbrev cA:VS:= .one (.list ah)
abbrev bf:VS:= .one (.aG 0 0 0)
abbrev bY:VS:= .one (.list ae)
abbrev c9:VS:= .one (.whole ae 0)
abbrev dK:VS:= .one (.list cg)
abbrev sD:VS:= .one (.list ax)
abbrev db:VS:= .one (.aG 1 0 0)
abbrev jb:VS:= .one (.str)
abbrev dq:VS:= .one (.list uy)
abbrev eW:VS:= .one (.aG 2 0 0)
abbrev ai6:VS:= .one (.whole AF 3)
abbrev ov:VS:= .one (.whole ae 3)
abbrev nt:VS:= .one (.whole ae 4)
abbrev nu:VS:= .one (.list ch)
abbrev mJ:VS:= .one (.whole ah 1)
abbrev gO:VS:= .one (.int .u64)
abbrev AG:VS:= .one (.whole ah 5)
abbrev xU:VS:= .one (.whole ah 2)
abbrev ai7:VS:= .one (.whole AF 4)
abbrev lQ:VS:= .one (.whole ae 1)
abbrev xV:VS:= .one (.tp)
abbrev Em:VS:= .one (.cK cz 7)
abbrev lR:VS:= .one (.whole cg 0)
abbrev xW:VS:= .one (.whole ah 6)
abbrev Qi:VS:= .one (.whole ae 10)
abbrev pb:VS:= .one (.aG 3 0 0)
abbrev uz:VS:= .one (.whole ah 7)
abbrev KE:VS:= .one (.whole ax 5)
abbrev xX:VS:= .one (.whole ae 2)
abbrev v7:VS:= .one (.aG 5 0 0)
abbrev Qj:VS:= .one (.whole ch 8)
abbrev Qk:VS:= .one (.whole ae 9)
abbrev v8:VS:= .one (.whole ah 12)
abbrev Zm:VS:= .one (.whole dQ 6)
abbrev Zn:VS:= .one (.whole ax 3)
abbrev En:VS:= .one (.whole cg 4)
abbrev xY:VS:= .one (.aG 4 0 0)
abbrev KF:VS:= .one (.whole ah 9)
abbrev xZ:VS:= .one (.cK cz 3)
abbrev Zo:VS:= .one (.whole uy 4)
abbrev AH:VS:= .one (.whole ah 13)
abbrev KG:VS:= .one (.whole cg 1)
abbrev Ql:VS:= .one (.whole ax 6)
abbrev AI:VS:= .one (.whole ah 8)
abbrev Eo:VS:= .one (.whole ae 15)
abbrev Ep:VS:= .one (.whole ae 16)
abbrev ai8:VS:= .one (.whole Ek 2)
abbrev Qm:VS:= .one (.whole ax 4)
abbrev Er:VS:= .one (.whole ax 11)
abbrev Qn:VS:= .one (.whole ae 20)
abbrev KH:VS:= .one (.whole ah 14)
abbrev AJ:VS:= .one (.whole cg 5)
abbrev Qo:VS:= .one (.whole ax 2)
abbrev Qp:VS:= .one (.whole dQ 17)
abbrev KI:VS:= .one (.whole ae 6)
abbrev AK:VS:= .one (.whole cg 3)
abbrev ai9:VS:= .one (.whole ah 4)
abbrev KJ:VS:= .one (.whole ax 0)
abbrev Qq:VS:= .one (.whole ae 14)
abbrev Zp:VS:= .one (.whole ah 18)
abbrev Zq:VS:= .one (.whole ax 22)
abbrev Zr:VS:= .one (.whole jz 7)
abbrev ya:VS:= .one (.whole cg 6)
abbrev aja:VS:= .one (.whole ax 8)
abbrev KK:VS:= .one (.whole ah 11)
abbrev ajb:VS:= .one (.whole AF 5)
abbrev Zs:VS:= .one (.whole ch 19)
abbrev Qr:VS:= .one (.whole ae 17)
abbrev Es:VS:= .one (.whole ae 5)
abbrev ajc:VS:= .one (.whole Ek 3)
abbrev AL:VS:= .one (.whole ax 10)
abbrev ajd:VS:= .one (.whole ax 21)
abbrev aje:VS:= .one (.whole ch 9)
abbrev ajf:VS:= .one (.whole ax 12)
abbrev Zt:VS:= .one (.whole ah 10)
abbrev Qs:VS:= .one (.whole ae 12)
abbrev KL:VS:= .one (.whole ae 11)
abbrev Qt:VS:= .one (.whole cg 2)
abbrev Zu:VS:= .one (.whole uy 2)
abbrev Zv:VS:= .one (.whole ae 19)
abbrev Zw:VS:= .one (.whole ae 13)
abbrev Zx:VS:= .one (.whole ae 18)
abbrev ajg:VS:= .one (.whole uy 5)
abbrev Zy:VS:= .one (.whole ah 3)
abbrev Zz:VS:= .one (.nilS jz)
abbrev ZA:VS:= .one (.whole ah 16)
abbrev ZB:VS:= .one (.whole ah 15)
abbrev KM:VS:= .one (.whole uy 0)
abbrev ajh:VS:= .one (.whole Ek 1)
abbrev aji:VS:= .one (.whole AF 0)
abbrev Qu:VS:= .one (.whole ax 1)
abbrev ZC:VS:= .one (.whole kh 6)
abbrev Qv:VS:= .one (.whole jz 8)
abbrev ZD:VS:= .one (.whole ax 23)
abbrev ajj:VS:= .one (.whole ax 9)
abbrev ZE:VS:= .one (.cK El 2)
abbrev Qw:VS:= .one (.whole AF 2)
abbrev ajk:VS:= .one (.whole ah 0)
abbrev ZF:VS:= .one (.whole ah 17)
abbrev ZG:VS:= .one (.whole dQ 18)
abbrev ZH:VS:= .one (.whole ae 21)
abbrev ajl:VS:= .one (.whole ch 18)
abbrev ajm:VS:= .one (.whole dQ 16)
abbrev ajn:VS:= .one (.whole ch 17)
abbrev ajo:VS:= .one (.whole dQ 15)
abbrev ajp:VS:= .one (.whole ch 16)
abbrev pc:VS:= .agg [.int .i64,.int .i64,.list cg]
abbrev AN:VS:= .agg [.int .i64,.int .i64,.list ax,.list ah]
abbrev yb:VS:= .agg [.int .i64,.list ah,.list ch,.list ae,.list ax,.list ax]
abbrev Et:VS:= .agg [.int .i64,.int .i64,.whole ax 0,.whole ah 1]
abbrev Qx:VS:= .agg [.str]
abbrev ajq:VS:= .agg [.int .i64,.int .i64,.list cg,.int .i64,.int .i64,.list cg,.bool]
abbrev ajr:VS:= .agg [.int .i64,.bool]
abbrev ajs:VS:= .agg [.int .i64,.int .i64,.whole cg 0]
abbrev uA:BS:= .var 91 [ai6]
abbrev jZ:BS:= .var 25 [aa,aa,sD,cA]
abbrev pd:BS:= .var 50 [aa,aa,dK]
abbrev v9:BS:= .var 3 [aa]
abbrev pe:BS:= .var 87 [jb]
abbrev yc:BS:= .var 91 [ai7]
abbrev ow:BS:= .var 35 [aa,cA,nu,bY,sD,sD]
abbrev KN:BS:= .var 4 [aw]
abbrev ajt:BS:= .var 133 [aa,aw,mJ,xU,ov,nt,AG,Zm,aa,Em,Qj,Qk,Qi]
abbrev aju:BS:= .var 89 [Zo]
abbrev ajv:BS:= .var 156 [xV,ai8]
abbrev AO:BS:= .var 25 [aa,aa,KE,xW]
abbrev AP:BS:= .var 25 [aa,aa,Ql,uz]
abbrev Eu:BS:= .var 25 [aa,aa,Zn,ai9]
abbrev Ev:BS:= .var 25 [aa,aa,Qm,AG]
abbrev ZI:BS:= .var 33 [ov]
abbrev yd:BS:= .var 25 [aa,aa,aja,KF]
abbrev ajw:BS:= .var 91 [ajb]
abbrev ajx:BS:= .var 33 [xX]
abbrev ZJ:BS:= .var 33 [nt]
abbrev ajy:BS:= .var 156 [xV,ajc]
abbrev Qy:BS:= .var 35 [aa,Zp,Zs,Qn,ajd,Zq]
abbrev ZK:BS:= .var 60 [mJ,Zr,aa]
abbrev ZL:BS:= .var 35 [aa,AI,aje,Qi,Er,ajf]
abbrev ajz:BS:= .var 22 [Zn]
abbrev Qz:BS:= .var 173 [gO]
abbrev ajA:BS:= .var 89 [ajg]
abbrev ajB:BS:= .var 71 [cA,lQ,Qo,ov]
abbrev ajC:BS:= .var 71 [cA,nt,KE,KI]
abbrev Ew:BS:= .var 150 [aa,aa,En,aa,aa,AJ,aw]
abbrev ajD:BS:= .var 119 [aa,KG,xU,aa,xZ]
abbrev ajE:BS:= .var 156 [xV,ajh]
abbrev ajF:BS:= .var 60 [xU,Zz,aa]
abbrev ajG:BS:= .var 98 [aa,aw,AH,KH,Eo,Ep,xW,Qp,aa]
abbrev ajH:BS:= .var 119 [aa,En,AG,aa,xZ]
abbrev QA:BS:= .var 25 [aa,aa,ajj,Zt]
abbrev KO:BS:= .var 152 [aa,aw]
abbrev ajI:BS:= .var 89 [Zu]
abbrev ZM:BS:= .var 25 [aa,aa,Qo,Zy]
abbrev ajJ:BS:= .var 133 [aa,aw,v8,AH,Qq,Eo,ZA,Qp,aa,Em,ajl,Zv,Qn]
abbrev ajK:BS:= .var 133 [aa,aw,KK,v8,Zw,Qq,ZB,ajm,aa,Em,ajn,Zx,Zv]
abbrev ajL:BS:= .var 133 [aa,aw,mJ,KK,Qs,Zw,KH,ajo,aa,Em,ajp,Qr,Zx]
abbrev ajM:BS:= .var 119 [aa,En,AG,aa,.one (.cK cz 6)]
abbrev ZN:BS:= .var 98 [aa,aw,v8,AH,Qq,Eo,ZA,Qp,aa]
abbrev ZO:BS:= .var 35 [aa,Zt,.one (.whole ch 11),Qs,.one (.whole ax 13),.one (.whole ax 14)]
abbrev ZP:BS:= .var 98 [aa,aw,ZB,KF,Ep,Qr,Zp,.one (.whole dQ 19),aa]
abbrev ZQ:BS:= .var 35 [aa,.one (.whole ah 20),.one (.whole ch 21),.one (.whole ae 22),ZD,.one (.whole ax 24)]
abbrev ajN:BS:= .var 98 [aa,aw,AH,KH,Eo,Ep,ZF,ZG,aa]
abbrev ajO:BS:= .var 35 [aa,.one (.whole ah 19),.one (.whole ch 20),ZH,Zq,ZD]
abbrev ajP:BS:= .var 98 [aa,aw,xU,Zy,nt,Es,xW,.one (.whole dQ 7),aa]
abbrev ajQ:BS:= .var 133 [aa,aw,AI,KF,Qi,KL,v8,.one (.whole dQ 13),aa,.one (.cK cz 14),.one (.whole ch 15),Ep,Qr]
abbrev ajR:BS:= .var 188 [.one (.whole ae 7),.one (.cK jA 8)]
abbrev aT:BS:= .arr ae false
abbrev aX:BS:= .arr ah false
abbrev bP:BS:= .arr ax false
abbrev dr:BS:= .arr cg false
abbrev lb:BS:= .arr ch false
abbrev nv:BS:= .arr dQ false
abbrev mK:BS:= .arr uy false
abbrev Ex:BS:= .arr Ek false
abbrev Ey:BS:= .arr ae true
abbrev uB:BS:= .arr jz false
abbrev ye:BS:= .arr ah true
abbrev fZ:BS:= .nest AF
abbrev qd:BS:= .nest ah
abbrev QB:BS:= .nest kh
abbrev bB:List BS:=[aT]
abbrev fQ:List BS:=[dr]
abbrev iF:List BS:=[v9]
abbrev lS:List BS:=[jZ]
abbrev ox:List BS:=[ajt,aX,aX,aT,aT,aX,nv,.map cz,lb,aT,aT]
abbrev qe:List BS:=[aju,uA,.dead,fZ,mK]
abbrev ri:List BS:=[ajv,.dead,Ex]
abbrev sE:List BS:=[pe,uA,pd,fZ]
abbrev sF:List BS:=[uA,pd,yc,fZ,fZ]
abbrev wa:List BS:=[bP]
abbrev wc:List BS:=[pe,v9,uA,fZ]
abbrev we:List BS:=[pe,yc,KN,ajw,fZ,fZ]
abbrev yf:List BS:=[ajx,ZI,aT,Ey]
abbrev yg:List BS:=[ajy,.dead,pd,Ex]
abbrev AQ:List BS:=[aT,ZJ,ajz,bP,Ey]
abbrev AR:List BS:=[.dead,dr]
abbrev AS:List BS:=[KN,ajA,yc,.dead,fZ,mK]
abbrev Ez:List BS:=[ajB,aT,bP,aT]
abbrev EA:List BS:=[ajC,.dead,.dead,.dead,aT,bP,aT]
abbrev EB:List BS:=[ajD,dr,aX,.map cz]
abbrev EC:List BS:=[ajE,Ex]
abbrev KP:List BS:=[ow,aT]
abbrev KQ:List BS:=[aT,qd]
abbrev KR:List BS:=[ajF,jZ,qd]
abbrev KS:List BS:=[ZK,ye,.dead,ZL,ajG,Qy,aX,uB,aX,lb,aT,bP,bP,aX,aX,aT,aT,nv,qd,lb,aT,bP,bP]
abbrev KT:List BS:=[ajH,.dead,.dead,.map cz,dr,aX]
abbrev KU:List BS:=[ow,Eu,AO,bP,aX,bP,qd]
abbrev KV:List BS:=[Ev,AP,aT,aT,bP,aX,bP,aX]
abbrev KW:List BS:=[aT,Qz]
abbrev KX:List BS:=[ajI,uA,mK,fZ]
abbrev KY:List BS:=[bP,aX]
abbrev QC:List BS:=[ajJ,.dead,.dead,.dead,.dead,.dead,.dead,.map cz,.dead,.dead,.dead,aT,aX,aX,aT,aT,aX,nv,lb,aT,aT]
abbrev QD:List BS:=[ajK,.dead,.dead,.dead,.dead,.dead,.dead,.map cz,.dead,.dead,.dead,aX,aX,aT,aT,aX,nv,lb,aT,aT]
abbrev QE:List BS:=[ajL,aX,.dead,.dead,.dead,.dead,.dead,.map cz,.dead,.dead,.dead,aX,aT,aT,aX,nv,lb,aT,aT]
abbrev ZR:List BS:=[ZM,ajM,bP,aX,dr,aX,.map cz]
abbrev ZS:List BS:=[ZK,ye,.dead,ZL,ajN,ajO,QB,uB,aX,lb,aT,bP,bP,aX,aX,aT,aT,aX,nv,qd,lb,aT,bP,bP]
abbrev ZT:List BS:=[AP,aT,yd,aT,aT,aT,bP,aX,bP,aX]
abbrev ZU:List BS:=[ajP,ajQ,aX,aX,aT,aT,aX,nv,aX,aX,aT,aT,aX,nv,.map cz,lb,aT,aT]
abbrev ZV:List BS:=[jZ,AO,ajR,QA,aT,bP,aX,aT,.map jA,bP,aX]
abbrev dL:List (Nat×VS):=[(0,aw)]
abbrev ec:List (Nat×VS):=[(0,aa)]
abbrev ld:List (Nat×VS):=[(0,pc)]
abbrev pf:List (Nat×VS):=[(4,aw)]
abbrev sG:List (Nat×VS):=[(0,bf)]
abbrev uC:List (Nat×VS):=[(2,aa)]
abbrev wg:List (Nat×VS):=[(0,AN)]
abbrev yh:List (Nat×VS):=[(0,pc),(1,aa)]
abbrev yi:List (Nat×VS):=[(0,c9)]
abbrev yj:List (Nat×VS):=[(0,lR)]
abbrev ED:List (Nat×VS):=[(4,aa)]
abbrev EE:List (Nat×VS):=[(0,c9),(1,aa),(10,aa),(11,aa)]
abbrev EF:List (Nat×VS):=[(0,cA),(1,bY)]
abbrev EG:List (Nat×VS):=[(0,cA)]
abbrev EH:List (Nat×VS):=[(0,gO)]
abbrev EI:List (Nat×VS):=[(0,c9),(1,aa),(2,aa)]
abbrev EJ:List (Nat×VS):=[(0,aji)]
abbrev EK:List (Nat×VS):=[(0,KG)]
abbrev KZ:List (Nat×VS):=[(0,bf),(1,aa)]
abbrev K0:List (Nat×VS):=[(0,bY),(1,aa)]
abbrev K3:List (Nat×VS):=[(0,Qx),(1,pc),(2,dq)]
abbrev K4:List (Nat×VS):=[(0,c9),(1,aa),(2,aa),(3,aa)]
abbrev K5:List (Nat×VS):=[(0,aa),(1,bf),(2,db),(3,eW)]
abbrev K6:List (Nat×VS):=[(0,aa),(1,aa)]
abbrev K7:List (Nat×VS):=[(0,ajq)]
abbrev K8:List (Nat×VS):=[(0,ajr),(1,pc)]
abbrev K9:List (Nat×VS):=[(0,ajs)]
abbrev QF:List (Nat×VS):=[(4,bf),(5,aa)]
abbrev QG:List (Nat×VS):=[(4,ajk),(5,aa)]
abbrev QH:List (Nat×VS):=[(8,c9),(9,aw)]
abbrev QI:List (Nat×VS):=[(0,c9),(1,aa),(2,aa),(7,aa),(8,aa)]
abbrev QJ:List (Nat×VS):=[(0,c9),(1,aa),(9,aa),(10,aa)]
abbrev QK:List (Nat×VS):=[(0,cA),(1,cA),(2,bY)]
abbrev QL:List (Nat×VS):=[(0,aa),(1,dK)]
abbrev QM:List (Nat×VS):=[(0,aa),(1,bf),(2,db)]
abbrev QN:List (Nat×VS):=[(0,Et),(1,aa)]
abbrev ZW:List (Nat×VS):=[(11,bf),(13,lQ),(16,bY),(17,cA),(122,lQ),(123,aa),(124,aa)]
abbrev ZX:List (Nat×VS):=[(1,bf),(3,aa),(38,cA),(39,aa),(40,aa),(49,bY),(50,aa),(51,aa)]
abbrev ZY:List (Nat×VS):=[(1,bf),(3,aa),(38,cA),(39,aa),(40,aa),(49,bY),(50,aa),(51,aa),(52,aw)]
abbrev ZZ:List (Nat×VS):=[(1,bf),(3,aa),(38,cA),(39,aa),(40,aa),(41,aw)]
abbrev Z0:List (Nat×VS):=[(0,c9),(1,aa),(2,aa),(7,aa),(8,aa),(9,aa)]
abbrev Z1:List (Nat×VS):=[(0,c9),(1,aa),(2,aa),(7,aa),(8,aa),(10,aa)]
abbrev Z2:List (Nat×VS):=[(1,nu),(2,bf),(39,nu),(40,aa),(41,aa)]
def QO:Shape×List (Out×Shape):=(⟨Z2,lS⟩,[(.ret,⟨pf,[]⟩),(.exit 0,⟨Z2++[(42,aw)],lS⟩)])
abbrev Z3:List (Nat×VS):=[(9,bf),(11,db),(13,xX),(96,nu),(97,aa),(98,aa)]
def QP:Shape×List (Out×Shape):=(⟨Z3,[ow,ow,aT]⟩,[(.exit 2,⟨Z3++[(99,aw)],[ow,ow,aT]⟩)])
def QQ:Shape×List (Out×Shape):=(⟨[(11,bf),(13,lQ),(16,bY),(17,cA),(19,aa),(20,aa),(122,lQ),(123,aa),(124,aa),(129,bY),(130,aa),(131,aa)],KP⟩,[(.exit 6,⟨ZW,KP⟩)])
def QR:Shape×List (Out×Shape):=(⟨ZW,KP⟩,[(.exit 4,⟨[(11,bf),(13,lQ),(16,bY),(17,cA),(122,lQ),(123,aa),(124,aa),(125,aw)],KP⟩)])
abbrev Z4:List (Nat×VS):=[(0,jb),(1,aa),(5,aa)]
def QS:Shape×List (Out×Shape):=(⟨Z4,[]⟩,[(.ret,⟨pf,[]⟩),(.exit 0,⟨Z4++[(17,aw)],[]⟩)])
abbrev Z5:List (Nat×VS):=[(1,nu),(2,bf),(4,db),(6,eW),(33,nu),(34,aa),(35,aa)]
def QT:Shape×List (Out×Shape):=(⟨Z5,[jZ,Eu,AO,bP,aX,bP,aX]⟩,[(.ret,⟨QF,[.var 25 [aa,aa,Qu,xU],bP,aX]⟩),(.exit 0,⟨Z5++[(36,aw)],[jZ,Eu,AO,bP,aX,bP,aX]⟩)])
abbrev Z6:List (Nat×VS):=[(1,nu),(4,bf),(6,db),(10,eW),(11,aa),(12,ov),(55,aa),(56,aa),(62,nu),(63,aa),(64,aa)]
def QU:Shape×List (Out×Shape):=(⟨Z6,[Ev,AP,.var 25 [aa,aa,Ql,AI],aT,bP,aX,bP,aX,aX]⟩,[(.exit 4,⟨Z6++[(65,aw)],[Ev,AP,.var 25 [aa,aa,Ql,AI],aT,bP,aX,bP,aX,aX]⟩)])
abbrev Z7:List (Nat×VS):=[(1,nu),(4,bf),(6,db),(10,eW),(55,aa),(56,aa)]
def QV:Shape×List (Out×Shape):=(⟨Z7,[Eu,AO,.var 25 [aa,aa,KE,uz],bP,aX,bP,aX,aX]⟩,[(.exit 2,⟨Z7++[(57,aw)],[Eu,AO,.var 25 [aa,aa,KE,uz],bP,aX,bP,aX,aX]⟩)])
abbrev Z8:List (Nat×VS):=[(5,bf),(14,bY),(15,aa),(16,aa)]
def QW:Shape×List (Out×Shape):=(⟨Z8,Ez⟩,[(.exit 0,⟨Z8++[(17,aw)],Ez⟩)])
abbrev Z9:List (Nat×VS):=[(0,cA),(1,bY),(7,c9),(34,aa),(35,aa)]
def QX:Shape×List (Out×Shape):=(⟨Z9,bB⟩,[(.exit 0,⟨Z9++[(36,aw)],bB⟩)])
abbrev aaa:List (Nat×VS):=[(0,cA),(1,bY),(7,c9),(42,bY),(43,aa),(44,aa)]
def QY:Shape×List (Out×Shape):=(⟨aaa,bB⟩,[(.ret,⟨QG,[aX]⟩),(.exit 2,⟨aaa++[(45,aw)],bB⟩)])
abbrev aab:List (Nat×VS):=[(0,cA),(1,bY),(7,c9),(11,mJ),(12,aa),(13,aa),(68,bY),(69,aa),(70,aa),(81,bY),(82,aa),(83,aa)]
def QZ:Shape×List (Out×Shape):=(⟨aab,KQ⟩,[(.ret,⟨QG,[aX]⟩),(.exit 6,⟨aab++[(84,aw)],KQ⟩)])
abbrev aac:List (Nat×VS):=[(0,cA),(1,bY),(7,c9),(11,mJ),(68,bY),(69,aa),(70,aa)]
def Q0:Shape×List (Out×Shape):=(⟨aac,KQ⟩,[(.ret,⟨QG,[aX]⟩),(.exit 4,⟨aac++[(71,aw)],KQ⟩)])
abbrev aad:List (Nat×VS):=[(0,cA),(1,bY),(2,cA),(3,bY),(10,bf),(54,aa),(55,aa)]
def Q1:Shape×List (Out×Shape):=(⟨aad,[.var 33 [lQ],aT]⟩,[(.exit 0,⟨aad++[(56,aw)],[.var 33 [lQ],aT]⟩)])
def Q2:Shape×List (Out×Shape):=(⟨[(0,cA),(2,cA),(3,bY),(10,bf),(12,db),(13,.fn rh [] [.aG 0 0 0,.aG 1 0 0]),(63,bY),(64,aa),(65,aa)],yf⟩,[(.ret,⟨QH,bB⟩),(.exit 2,⟨[(0,cA),(2,cA),(3,bY),(10,bf),(12,db),(13,.fn rh [] [.aG 0 0 0,.aG 1 0 0]),(63,bY),(64,aa),(65,aa),(66,aw)],yf⟩)])
def Q3:Shape×List (Out×Shape):=(⟨[(0,cA),(2,cA),(10,bf),(12,db),(13,.fn rh [] [.aG 0 0 0,.aG 1 0 0]),(16,bY),(17,aa),(18,aa),(95,bY),(96,aa),(97,aa)],yf⟩,[(.ret,⟨QH,bB⟩),(.exit 6,⟨[(0,cA),(2,cA),(10,bf),(12,db),(13,.fn rh [] [.aG 0 0 0,.aG 1 0 0]),(16,bY),(17,aa),(18,aa),(95,bY),(96,aa),(97,aa),(98,aw)],yf⟩)])
def Q4:Shape×List (Out×Shape):=(⟨[(0,cA),(2,cA),(10,bf),(12,db),(13,.fn rh [] [.aG 0 0 0,.aG 1 0 0]),(16,bY),(17,aa)],yf⟩,[(.ret,⟨QH,bB⟩),(.exit 4,⟨[(0,cA),(2,cA),(10,bf),(12,db),(13,.fn rh [] [.aG 0 0 0,.aG 1 0 0]),(16,bY),(17,aa),(88,aw)],yf⟩)])
abbrev aae:List (Nat×VS):=[(7,KJ),(21,bY),(22,aa),(23,aa)]
def Q5:Shape×List (Out×Shape):=(⟨aae,wa⟩,[(.exit 0,⟨aae++[(24,aw)],wa⟩)])
abbrev aaf:List (Nat×VS):=[(10,c9),(31,Qu),(32,aa),(33,aa)]
def Q6:Shape×List (Out×Shape):=(⟨aaf,[aT,bP]⟩,[(.exit 2,⟨aaf++[(34,aw)],[aT,bP]⟩)])
def Q7:Shape×List (Out×Shape):=(⟨ZX,lS⟩,[(.ret,⟨uC,[]⟩),(.exit 2,⟨ZY,lS⟩)])
def Q8:Shape×List (Out×Shape):=(⟨[(1,bf),(3,aa),(38,cA),(39,aa),(40,aa)],lS⟩,[(.ret,⟨uC,[]⟩),(.exit 0,⟨ZZ,lS⟩)])
def Q9:Shape×List (Out×Shape):=(⟨[(4,bf),(7,db)],ZR⟩,[(.ret,⟨QF,[.var 25 [aa,aa,Qu,xU],bP,aX]⟩),(.exit 0,⟨[(4,bf),(7,db),(22,aw)],ZR⟩)])
abbrev aag:List (Nat×VS):=[(0,jb),(1,aa),(18,aa),(19,aa)]
def Ra:Shape×List (Out×Shape):=(⟨aag,[]⟩,[(.ret,⟨pf,[]⟩),(.exit 0,⟨aag++[(20,aw)],[]⟩)])
abbrev aah:List (Nat×VS):=[(1,aa),(2,jb),(3,bf),(30,aa),(31,aa)]
def Rb:Shape×List (Out×Shape):=(⟨aah,lS⟩,[(.exit 0,⟨aah++[(32,aw)],lS⟩)])
def Rc:Shape×List (Out×Shape):=(⟨ZX,lS⟩,[(.ret,⟨uC,[]⟩),(.exit 2,⟨ZY,lS⟩)])
def Re:Shape×List (Out×Shape):=(⟨[(1,bf),(3,aa),(38,cA),(39,aa),(40,aa)],lS⟩,[(.ret,⟨uC,[]⟩),(.exit 0,⟨ZZ,lS⟩)])
abbrev aai:List (Nat×VS):=[(0,bf),(3,db),(5,aa),(6,aa),(33,aa),(34,aa),(37,aa),(38,aa)]
def Rf:Shape×List (Out×Shape):=(⟨aai,KR⟩,[(.exit 2,⟨aai++[(39,aw)],KR⟩)])
abbrev aaj:List (Nat×VS):=[(0,bf),(3,db),(5,aa),(33,aa),(34,aa)]
def Rg:Shape×List (Out×Shape):=(⟨aaj,KR⟩,[(.exit 0,⟨aaj++[(35,aw)],KR⟩)])
abbrev aak:List (Nat×VS):=[(0,bf),(2,pb),(5,xY),(7,aa),(8,v7),(9,aa)]
def Rh:Shape×List (Out×Shape):=(⟨aak,[.var 60 [mJ,.one (.whole jz 6),aa],ye,.dead,.var 35 [aa,uz,Qj,Qk,AL,Er],ZN,Qy,uB,aX,lb,aT,bP,bP,aX,aX,aT,aT,aX,nv,qd,lb,aT,bP,bP]⟩,[(.exit 0,⟨aak++[(55,aw)],[.var 60 [mJ,.one (.whole jz 6),aa],ye,.dead,.var 35 [aa,uz,Qj,Qk,AL,Er],ZN,Qy,uB,aX,lb,aT,bP,bP,aX,aX,aT,aT,aX,nv,qd,lb,aT,bP,bP]⟩)])
abbrev aal:List (Nat×VS):=[(0,bf),(2,pb),(5,xY),(7,aa),(8,v7),(10,aa),(12,aa),(86,xW),(87,aa),(88,aa)]
def Ri:Shape×List (Out×Shape):=(⟨aal,KS⟩,[(.exit 4,⟨aal++[(119,aw)],KS⟩)])
abbrev aam:List (Nat×VS):=[(0,bf),(2,pb),(5,xY),(7,aa),(8,v7),(86,xW),(87,aa),(88,aa)]
def Rj:Shape×List (Out×Shape):=(⟨aam,KS⟩,[(.exit 2,⟨aam++[(89,aw)],KS⟩)])
abbrev aan:List (Nat×VS):=[(2,pb),(5,xY),(7,aa),(8,v7),(13,ZC),(14,aa),(15,.one (.aG 7 0 0)),(162,Qv),(163,aa),(164,aa),(175,KF),(176,aa),(177,aa)]
def Rk:Shape×List (Out×Shape):=(⟨aan,[.var 60 [mJ,Qv,aa],ye,.dead,ZO,ZP,ZQ,QB,.var 95 [aa,sD,aa],uB,aX,aX,lb,aT,bP,bP,aX,aT,aT,aX,nv,qd,lb,aT,bP,bP]⟩,[(.exit 8,⟨aan++[(178,aw)],[.var 60 [mJ,Qv,aa],ye,.dead,ZO,ZP,ZQ,QB,.var 95 [aa,sD,aa],uB,aX,aX,lb,aT,bP,bP,aX,aT,aT,aX,nv,qd,lb,aT,bP,bP]⟩)])
abbrev aao:List (Nat×VS):=[(2,pb),(5,xY),(7,aa),(8,v7),(13,ZC),(162,Zr),(163,aa),(164,aa)]
def Rl:Shape×List (Out×Shape):=(⟨aao,ZS⟩,[(.exit 6,⟨aao++[(165,aw)],ZS⟩)])
abbrev aap:List (Nat×VS):=[(1,bf),(3,db),(28,cA),(29,aa),(30,aa)]
def Rm:Shape×List (Out×Shape):=(⟨aap,[ow,ow]⟩,[(.ret,⟨uC,[]⟩),(.exit 0,⟨aap++[(31,aw)],[ow,ow]⟩)])
abbrev aaq:List (Nat×VS):=[(1,jb),(2,bf),(5,aa),(13,aa),(14,aa)]
def Rn:Shape×List (Out×Shape):=(⟨aaq,[ow]⟩,[(.exit 0,⟨aaq++[(15,aw)],[ow]⟩)])
abbrev aar:List (Nat×VS):=[(0,bf),(1,aa),(4,aa),(5,aa),(66,nt),(67,aa),(68,aa)]
def Ro:Shape×List (Out×Shape):=(⟨aar,EA⟩,[(.exit 2,⟨aar++[(69,aw)],EA⟩)])
abbrev aas:List (Nat×VS):=[(0,bf),(1,aa),(4,aa),(5,aa)]
def Rp:Shape×List (Out×Shape):=(⟨aas,EA⟩,[(.exit 0,⟨aas++[(39,aw)],EA⟩)])
abbrev aat:List (Nat×VS):=[(0,cA),(7,bY),(8,aa),(9,aa)]
def Rq:Shape×List (Out×Shape):=(⟨aat,[]⟩,[(.ret,⟨pf,[]⟩),(.exit 0,⟨aat++[(10,aw)],[]⟩)])
abbrev aau:List (Nat×VS):=[(1,aa),(7,bY),(8,aa),(9,aa)]
def Rr:Shape×List (Out×Shape):=(⟨aau,[]⟩,[(.ret,⟨pf,[]⟩),(.exit 0,⟨aau++[(10,aw)],[]⟩)])
abbrev aav:List (Nat×VS):=[(0,bf),(3,nt),(16,aa),(17,aa)]
def Rs:Shape×List (Out×Shape):=(⟨aav,[.var 119 [aa,AJ,xW,aa,xZ],.dead,.dead,.map cz,aT,dr,aX]⟩,[(.ret,⟨uC,KT⟩),(.exit 0,⟨aav++[(18,aw)],[.var 119 [aa,AJ,xW,aa,xZ],.dead,.dead,.map cz,aT,dr,aX]⟩)])
abbrev aaw:List (Nat×VS):=[(2,xY),(3,v7),(21,ya),(22,aa),(23,aa)]
def ajS:Shape×List (Out×Shape):=(⟨aaw,[.var 119 [aa,ya,uz,aa,xZ],.dead,.dead,.map cz,yd,.var 25 [aa,aa,AL,uz],dr,aX,bP,aX,bP]⟩,[(.exit 0,⟨aaw++[(24,aw)],[.var 119 [aa,ya,uz,aa,xZ],.dead,.dead,.map cz,yd,.var 25 [aa,aa,AL,uz],dr,aX,bP,aX,bP]⟩)])
abbrev aax:List (Nat×VS):=[(1,bf),(2,db),(4,eW),(5,ov),(6,nt),(7,v7),(8,aa),(10,KI),(28,nt),(29,aa),(30,aa),(47,bY),(48,aa),(49,aa)]
def Rt:Shape×List (Out×Shape):=(⟨aax,[jZ,.var 25 [aa,aa,.one (.whole ax 7),AI],QA,aT,aT,.var 25 [aa,aa,Er,v8],aT,bP,aX,bP,aX,bP,aX]⟩,[(.exit 2,⟨aax++[(50,aw)],[jZ,.var 25 [aa,aa,.one (.whole ax 7),AI],QA,aT,aT,.var 25 [aa,aa,Er,v8],aT,bP,aX,bP,aX,bP,aX]⟩)])
abbrev aay:List (Nat×VS):=[(1,bf),(2,db),(4,eW),(5,ov),(6,nt),(7,v7),(28,nt),(29,aa),(30,aa)]
def Ru:Shape×List (Out×Shape):=(⟨aay,[jZ,AP,yd,aT,aT,.var 25 [aa,aa,AL,KK],bP,aX,bP,aX,bP,aX]⟩,[(.exit 0,⟨aay++[(31,aw)],[jZ,AP,yd,aT,aT,.var 25 [aa,aa,AL,KK],bP,aX,bP,aX,bP,aX]⟩)])
abbrev aaz:List (Nat×VS):=[(2,bf),(6,lQ),(13,eW),(14,ov),(15,nt),(87,Es),(88,aa),(89,aa)]
def Rv:Shape×List (Out×Shape):=(⟨aaz,ZT⟩,[(.exit 4,⟨aaz++[(90,aw)],ZT⟩)])
def Rw:Shape×List (Out×Shape):=(⟨[(4,bf),(6,db)],ZU⟩,[(.ret,⟨QF,[.var 98 [aa,aw,mJ,xU,ov,nt,AG,Zm,aa],aX,aX,aT,aT,aX,nv]⟩),(.exit 0,⟨[(4,bf),(6,db),(21,aw)],ZU⟩)])
abbrev aaA:List (Nat×VS):=[(1,bf),(3,aa),(53,cA),(54,aa),(55,aa)]
def Rx:Shape×List (Out×Shape):=(⟨aaA,[ow]⟩,[(.ret,⟨[(2,aw)],[]⟩),(.exit 0,⟨aaA++[(56,aw)],[ow]⟩)])
abbrev aaB:List (Nat×VS):=[(1,bf),(2,db),(3,eW),(4,aa),(5,bY),(19,cA),(20,aa),(21,aa),(34,bY),(35,aa),(36,aa)]
def Ry:Shape×List (Out×Shape):=(⟨aaB,KU⟩,[(.exit 2,⟨aaB++[(37,aw)],KU⟩)])
abbrev aaC:List (Nat×VS):=[(1,bf),(2,db),(3,eW),(19,cA),(20,aa),(21,aa)]
def Rz:Shape×List (Out×Shape):=(⟨aaC,KU⟩,[(.exit 0,⟨aaC++[(22,aw)],KU⟩)])
abbrev aaD:List (Nat×VS):=[(0,bY),(1,bY),(12,aa),(13,aa)]
def RA:Shape×List (Out×Shape):=(⟨aaD,[]⟩,[(.ret,⟨pf,[]⟩),(.exit 0,⟨aaD++[(14,aw)],[]⟩)])
abbrev aaE:List (Nat×VS):=[(0,nu),(1,nu),(12,aa),(13,aa)]
def RB:Shape×List (Out×Shape):=(⟨aaE,[]⟩,[(.ret,⟨pf,[]⟩),(.exit 0,⟨aaE++[(14,aw)],[]⟩)])
abbrev aaF:List (Nat×VS):=[(0,sD),(1,sD),(12,aa),(13,aa)]
def RC:Shape×List (Out×Shape):=(⟨aaF,[]⟩,[(.ret,⟨pf,[]⟩),(.exit 0,⟨aaF++[(14,aw)],[]⟩)])
def RD:Shape×List (Out×Shape):=(⟨[(0,c9),(1,aa),(2,aa),(3,aa),(8,aw),(9,aw),(10,aa),(35,aw)],bB⟩,[(.norm,⟨[(0,c9),(1,aa),(2,aa),(3,aa),(8,aw),(9,aw),(10,aa)],bB⟩)])
def RE:Shape×List (Out×Shape):=(⟨[(0,c9),(1,aa),(2,aa),(3,aa),(8,aw),(9,aw),(10,aa),(11,aa),(12,aa),(50,aw)],bB⟩,[(.norm,⟨[(0,c9),(1,aa),(2,aa),(3,aa),(8,aw),(9,aw),(10,aa),(11,aa),(12,aa)],bB⟩)])
def RF:Shape×List (Out×Shape):=(⟨[(0,c9),(1,aa),(2,aa),(3,aa),(8,aw),(9,aw),(10,aa),(11,aa),(68,aw)],bB⟩,[(.ret,⟨[(0,c9),(1,aa),(2,aa),(3,aa),(8,aw),(9,aw),(10,aa),(11,aa),(72,aw)],bB⟩),(.norm,⟨[(0,c9),(1,aa),(2,aa),(3,aa),(8,aw),(9,aw),(10,aa),(11,aa)],bB⟩)])
def RG:Shape×List (Out×Shape):=(⟨[(0,c9),(1,aa),(2,aa),(3,aa),(8,aw),(9,aw)],bB⟩,[(.ret,⟨[],bB⟩)])
abbrev aaG:List (Nat×VS):=[(0,cA),(13,cA),(14,aa),(15,aa),(24,bY),(25,aa),(26,aa)]
def RH:Shape×List (Out×Shape):=(⟨aaG,[]⟩,[(.ret,⟨uC,[]⟩),(.exit 2,⟨aaG++[(27,aw)],[]⟩)])
abbrev aaH:List (Nat×VS):=[(0,cA),(13,cA),(14,aa),(15,aa)]
def RI:Shape×List (Out×Shape):=(⟨aaH,[]⟩,[(.ret,⟨uC,[]⟩),(.exit 0,⟨aaH++[(16,aw)],[]⟩)])
abbrev aaI:List (Nat×VS):=[(0,cA),(5,KJ),(7,aa),(9,bY),(10,bY),(16,bY),(17,aa),(18,aa),(29,cA),(30,aa),(31,aa),(45,bY),(46,aa),(47,aa)]
def RJ:Shape×List (Out×Shape):=(⟨aaI,wa⟩,[(.ret,⟨pf,[]⟩),(.exit 4,⟨aaI++[(48,aw)],wa⟩)])
abbrev aaJ:List (Nat×VS):=[(0,cA),(5,KJ),(7,aa),(16,bY),(17,aa),(18,aa),(29,cA),(30,aa),(31,aa)]
def RK:Shape×List (Out×Shape):=(⟨aaJ,wa⟩,[(.ret,⟨pf,[]⟩),(.exit 2,⟨aaJ++[(32,aw)],wa⟩)])
abbrev aaK:List (Nat×VS):=[(0,cA),(5,KJ),(16,bY),(17,aa),(18,aa)]
def RL:Shape×List (Out×Shape):=(⟨aaK,wa⟩,[(.ret,⟨pf,[]⟩),(.exit 0,⟨aaK++[(19,aw)],wa⟩)])
def RM:Shape×List (Out×Shape):=(⟨[(0,cA),(3,c9),(4,db),(5,eW),(6,.fn qc [] [.aG 2 0 0,.aG 1 0 0]),(7,aa),(9,aa),(17,aa),(18,aa),(45,bY),(46,aa),(47,aa)],AQ⟩,[(.exit 4,⟨[(0,cA),(3,c9),(4,db),(5,eW),(6,.fn qc [] [.aG 2 0 0,.aG 1 0 0]),(7,aa),(9,aa),(17,aa),(18,aa),(45,bY),(46,aa),(47,aa),(48,aw)],AQ⟩)])
def RN:Shape×List (Out×Shape):=(⟨[(0,cA),(3,c9),(4,db),(5,eW),(6,.fn qc [] [.aG 2 0 0,.aG 1 0 0]),(7,aa),(17,aa),(18,aa)],AQ⟩,[(.exit 2,⟨[(0,cA),(3,c9),(4,db),(5,eW),(6,.fn qc [] [.aG 2 0 0,.aG 1 0 0]),(7,aa),(17,aa),(18,aa),(35,aw)],AQ⟩)])
def RO:Shape×List (Out×Shape):=(⟨[(0,cA),(3,c9),(4,db),(5,eW),(6,.fn qc [] [.aG 2 0 0,.aG 1 0 0]),(7,aa),(17,aa),(18,aa)],AQ⟩,[(.exit 0,⟨[(0,cA),(3,c9),(4,db),(5,eW),(6,.fn qc [] [.aG 2 0 0,.aG 1 0 0]),(7,aa),(17,aa),(18,aa),(19,aw)],AQ⟩)])
abbrev aaL:List (Nat×VS):=[(1,cA),(2,bY),(7,aa),(23,cA),(24,aa),(25,aa),(30,bY),(31,aa),(32,aa)]
def RP:Shape×List (Out×Shape):=(⟨aaL,[]⟩,[(.ret,⟨[(6,aw)],[]⟩),(.exit 2,⟨aaL++[(33,aw)],[]⟩)])
abbrev aaM:List (Nat×VS):=[(1,cA),(2,bY),(23,cA),(24,aa),(25,aa)]
def RQ:Shape×List (Out×Shape):=(⟨aaM,[]⟩,[(.ret,⟨[(6,aw)],[]⟩),(.exit 0,⟨aaM++[(26,aw)],[]⟩)])
abbrev aaN:List (Nat×VS):=[(1,aa),(53,dK),(54,aa),(55,aa)]
def ajT:Shape×List (Out×Shape):=(⟨aaN,[]⟩,[(.ret,⟨pf,[]⟩),(.exit 1,⟨aaN++[(56,aw)],[]⟩)])
abbrev aaO:List (Nat×VS):=[(1,bf),(2,db),(3,Qt),(20,dK),(21,aa),(22,aa)]
def ajU:Shape×List (Out×Shape):=(⟨aaO,[pd,.var 50 [aa,aa,AK],dr,dr]⟩,[(.exit 0,⟨aaO++[(23,aw)],[pd,.var 50 [aa,aa,AK],dr,dr]⟩)])
abbrev aaP:List (Nat×VS):=[(19,dK),(20,aa),(21,aa)]
def ajV:Shape×List (Out×Shape):=(⟨aaP,[]⟩,[(.ret,⟨[(2,aw)],[]⟩),(.exit 1,⟨aaP++[(22,aw)],[]⟩)])
abbrev aaQ:List (Nat×VS):=[(2,bf),(4,db),(5,xX),(7,ov),(31,aa),(32,aa)]
def RR:Shape×List (Out×Shape):=(⟨aaQ,KV⟩,[(.exit 0,⟨aaQ++[(33,aw)],KV⟩)])
abbrev aaR:List (Nat×VS):=[(2,bf),(4,db),(7,xX),(39,ov),(40,aa),(41,aa)]
def RS:Shape×List (Out×Shape):=(⟨aaR,KV⟩,[(.exit 2,⟨aaR++[(42,aw)],KV⟩)])
abbrev aaS:List (Nat×VS):=[(1,bf),(3,lQ),(4,aa),(24,sD),(25,aa),(26,aa)]
def RT:Shape×List (Out×Shape):=(⟨aaS,[jZ,aT]⟩,[(.exit 0,⟨aaS++[(27,aw)],[jZ,aT]⟩)])
abbrev aaT:List (Nat×VS):=[(1,bf),(3,lQ),(4,aa),(7,ZE),(8,ov),(9,aa),(11,xY),(46,cA),(47,aa),(48,aa),(58,bY),(59,aa),(60,aa)]
def RU:Shape×List (Out×Shape):=(⟨aaT,[jZ,aT,.map El,aT,.var 165 [aa,aa,aa,aa,aa,aa,aa]]⟩,[(.exit 6,⟨aaT++[(61,aw)],[jZ,aT,.map El,aT,.var 165 [aa,aa,aa,aa,aa,aa,aa]]⟩)])
abbrev aaU:List (Nat×VS):=[(1,bf),(3,lQ),(4,aa),(7,ZE),(8,ov),(46,cA),(47,aa),(48,aa)]
def RV:Shape×List (Out×Shape):=(⟨aaU,[jZ,aT,.map El,aT]⟩,[(.exit 4,⟨aaU++[(49,aw)],[jZ,aT,.map El,aT]⟩)])
def RW:Shape×List (Out×Shape):=(⟨[(1,bf),(3,lQ),(4,aa)],[jZ,aT]⟩,[(.ret,⟨[(2,c9)],bB⟩)])
abbrev aaV:List (Nat×VS):=[(2,dq),(3,bf),(7,db),(20,dK),(21,aa),(22,aa)]
def ajW:Shape×List (Out×Shape):=(⟨aaV,[pe,.var 91 [Qw],fZ]⟩,[(.exit 0,⟨aaV++[(23,aw)],[pe,.var 91 [Qw],fZ]⟩)])
abbrev aaW:List (Nat×VS):=[(3,bf),(4,db),(7,Zu),(8,pb),(9,aa)]
def ajX:Shape×List (Out×Shape):=(⟨aaW,[pe,pd,mK,v9]⟩,[(.exit 0,⟨aaW++[(28,aw)],[pe,pd,mK,v9]⟩)])
abbrev aaX:List (Nat×VS):=[(3,bf),(8,db),(10,Qw),(11,pb),(12,aa)]
def ajY:Shape×List (Out×Shape):=(⟨aaX,[pe,v9,fZ,yc,fZ]⟩,[(.exit 2,⟨aaX++[(48,aw)],[pe,v9,fZ,yc,fZ]⟩)])
abbrev aaY:List (Nat×VS):=[(2,dq),(3,bf),(4,db),(7,eW),(20,dK),(21,aa),(22,aa)]
def ajZ:Shape×List (Out×Shape):=(⟨aaY,[pe,pd,uA,fZ]⟩,[(.exit 0,⟨aaY++[(23,aw)],[pe,pd,uA,fZ]⟩)])
def aj0:Shape×List (Out×Shape):=(⟨[(1,.fn Aq [] [.aG 0 0 0,.aG 1 0 0,.aG 2 0 0]),(4,aa),(5,gO),(6,dq),(7,aa),(8,aa)],sE⟩,[(.exit 2,⟨[(1,.fn Aq [] [.aG 0 0 0,.aG 1 0 0,.aG 2 0 0]),(4,aa),(5,gO),(6,dq),(7,aa),(8,aa),(14,aw)],sE⟩)])
def aj1:Shape×List (Out×Shape):=(⟨[(1,.fn Aq [] [.aG 0 0 0,.aG 1 0 0,.aG 2 0 0]),(6,dq),(7,aa),(8,aa)],sE⟩,[(.exit 0,⟨[(1,.fn Aq [] [.aG 0 0 0,.aG 1 0 0,.aG 2 0 0]),(6,dq),(7,aa),(8,aa),(9,aw)],sE⟩)])
def aj2:Shape×List (Out×Shape):=(⟨[(0,aa),(1,bf),(2,db),(3,eW),(10,aw)],sE⟩,[(.norm,⟨[],sE⟩)])
abbrev aaZ:List (Nat×VS):=[(1,aw),(6,bf),(39,cA),(40,aa),(41,aa)]
def RX:Shape×List (Out×Shape):=(⟨aaZ,ox⟩,[(.ret,⟨[(4,.one (.eb)),(5,aa)],[]⟩),(.exit 0,⟨aaZ++[(42,aw)],ox⟩)])
def RY:Shape×List (Out×Shape):=(⟨[(6,bf),(9,aa),(72,aw)],ox⟩,[(.norm,⟨[(6,bf),(9,aa)],ox⟩)])
def RZ:Shape×List (Out×Shape):=(⟨[(6,bf),(9,aa),(10,aa),(11,bY),(12,jb),(13,aa),(85,mJ),(86,aa),(87,aa),(106,aw)],ox⟩,[(.norm,⟨[(6,bf),(9,aa),(13,aa),(85,mJ),(86,aa),(87,aa)],ox⟩)])
abbrev aa0:List (Nat×VS):=[(6,bf),(9,aa),(85,mJ),(86,aa),(87,aa)]
def R0:Shape×List (Out×Shape):=(⟨aa0,ox⟩,[(.exit 2,⟨aa0++[(88,aw)],ox⟩)])
def R3:Shape×List (Out×Shape):=(⟨[(0,bf),(3,aa),(4,KL),(5,aa),(7,Qs),(8,aa),(10,jb),(27,AH),(28,aa),(29,aa),(78,aw)],[.var 133 [aa,aw,AH,KH,Eo,Ep,ZF,ZG,aa,Em,Zs,Qn,ZH],.dead,.dead,.dead,.dead,.dead,.dead,.map cz,.dead,.dead,.dead,aT,aT,aX,aX,aT,aT,aX,nv,lb,aT,aT]⟩,[(.norm,⟨[(0,bf),(3,aa),(4,KL),(5,aa),(8,aa),(27,v8),(28,aa),(29,aa)],QC⟩)])
abbrev aa1:List (Nat×VS):=[(0,bf),(3,aa),(4,KL),(27,v8),(28,aa),(29,aa)]
def R4:Shape×List (Out×Shape):=(⟨aa1,QC⟩,[(.ret,⟨uC,QD⟩),(.exit 0,⟨aa1++[(30,aw)],QC⟩)])
abbrev aa2:List (Nat×VS):=[(0,bY),(1,aa),(7,aa),(8,aa)]
def R5:Shape×List (Out×Shape):=(⟨aa2,[]⟩,[(.ret,⟨ED,[]⟩),(.exit 0,⟨aa2++[(9,aw)],[]⟩)])
abbrev aa3:List (Nat×VS):=[(1,aa),(7,bY),(8,aa),(9,aa)]
def R6:Shape×List (Out×Shape):=(⟨aa3,[]⟩,[(.ret,⟨pf,[]⟩),(.exit 0,⟨aa3++[(10,aw)],[]⟩)])
abbrev aa4:List (Nat×VS):=[(0,c9),(1,aa),(2,aa),(6,aa),(7,aa)]
def R7:Shape×List (Out×Shape):=(⟨aa4,bB⟩,[(.exit 2,⟨aa4++[(30,aw)],bB⟩)])
abbrev aa5:List (Nat×VS):=[(0,c9),(1,aa),(2,aa),(6,aa)]
def R8:Shape×List (Out×Shape):=(⟨aa5,bB⟩,[(.exit 0,⟨aa5++[(12,aw)],bB⟩)])
abbrev aa6:List (Nat×VS):=[(0,c9),(6,aa),(7,aa),(8,aa),(9,aa)]
def R9:Shape×List (Out×Shape):=(⟨aa6,bB⟩,[(.exit 0,⟨aa6++[(19,aw)],bB⟩)])
abbrev aa7:List (Nat×VS):=[(0,c9),(6,aa),(7,aa),(10,aa)]
def Sa:Shape×List (Out×Shape):=(⟨aa7,bB⟩,[(.exit 2,⟨aa7++[(30,aw)],bB⟩)])
def Sb:Shape×List (Out×Shape):=(⟨[(0,c9),(1,aa),(6,aa),(7,db),(8,gO),(9,aa),(10,aa),(43,aw)],KW⟩,[(.norm,⟨[(0,c9),(1,aa),(6,aa),(7,db),(8,gO),(9,aa),(10,aa)],KW⟩)])
abbrev aa8:List (Nat×VS):=[(0,c9),(1,aa),(6,aa),(7,db),(8,gO),(9,aa)]
def Sd:Shape×List (Out×Shape):=(⟨aa8,KW⟩,[(.exit 0,⟨aa8++[(33,aw)],KW⟩)])
def Se:Shape×List (Out×Shape):=(⟨[(0,bY),(9,bf),(10,aa),(11,aa),(12,aa),(34,aw)],iF⟩,[(.norm,⟨[(0,bY),(9,bf),(10,aa),(11,aa),(12,aa)],iF⟩)])
def Sf:Shape×List (Out×Shape):=(⟨[(0,bY),(8,aa),(9,bf),(10,aa),(11,aa),(12,aa),(32,aw)],iF⟩,[(.norm,⟨[(9,bf),(11,aa)],iF⟩)])
abbrev aa9:List (Nat×VS):=[(0,c9),(6,aa),(7,aa)]
def Sg:Shape×List (Out×Shape):=(⟨aa9,bB⟩,[(.exit 0,⟨aa9++[(13,aw)],bB⟩)])
def Sh:Shape×List (Out×Shape):=(⟨QI,bB⟩,[(.exit 2,⟨[(0,c9),(1,aa),(2,aa),(7,aa),(8,aa),(32,aw)],bB⟩)])
def Si:Shape×List (Out×Shape):=(⟨Z0,bB⟩,[(.exit 4,⟨Z0,bB⟩)])
def Sj:Shape×List (Out×Shape):=(⟨[(0,c9),(1,aa),(2,aa),(7,aa),(8,aa),(61,aw)],bB⟩,[(.norm,⟨QI,bB⟩)])
def Sk:Shape×List (Out×Shape):=(⟨Z1,bB⟩,[(.exit 6,⟨Z1,bB⟩)])
def Sl:Shape×List (Out×Shape):=(⟨QI,bB⟩,[(.ret,⟨[(6,aw)],bB⟩),(.exit 0,⟨[(0,c9),(1,aa),(2,aa),(7,aa),(8,aa),(14,aw)],bB⟩)])
def Sm:Shape×List (Out×Shape):=(⟨QJ,bB⟩,[(.exit 2,⟨[(0,c9),(1,aa),(9,aa),(10,aa),(43,aw)],bB⟩)])
def Sn:Shape×List (Out×Shape):=(⟨QJ,bB⟩,[(.exit 4,⟨[(0,c9),(1,aa),(9,aa),(10,aa),(59,aw)],bB⟩)])
def So:Shape×List (Out×Shape):=(⟨QJ,bB⟩,[(.exit 0,⟨[(0,c9),(1,aa),(9,aa),(10,aa),(64,aw)],bB⟩)])
def Sp:Shape×List (Out×Shape):=(⟨EE,bB⟩,[(.exit 0,⟨[(0,c9),(1,aa),(10,aa),(11,aa),(43,aw)],bB⟩)])
def Sq:Shape×List (Out×Shape):=(⟨EE,bB⟩,[(.exit 2,⟨[(0,c9),(1,aa),(10,aa),(11,aa),(60,aw)],bB⟩)])
def Sr:Shape×List (Out×Shape):=(⟨EE,bB⟩,[(.exit 6,⟨[(0,c9),(1,aa),(10,aa),(11,aa),(112,aw)],bB⟩)])
def Ss:Shape×List (Out×Shape):=(⟨EE,bB⟩,[(.exit 8,⟨[(0,c9),(1,aa),(10,aa),(11,aa),(129,aw)],bB⟩)])
def Su:Shape×List (Out×Shape):=(⟨EE,bB⟩,[(.exit 4,⟨[(0,c9),(1,aa),(10,aa),(11,aa),(134,aw)],bB⟩)])
def Sv:Shape×List (Out×Shape):=(⟨[(0,gO),(2,aa),(4,aw)],[]⟩,[(.norm,⟨[(0,gO),(2,aa)],[]⟩)])
def Sw:Shape×List (Out×Shape):=(⟨[(0,gO),(2,aa),(8,aw)],[]⟩,[(.norm,⟨[(0,gO),(2,aa)],[]⟩)])
abbrev aba:List (Nat×VS):=[(1,aa),(2,bf),(23,dK),(24,aa),(25,aa)]
def aj3:Shape×List (Out×Shape):=(⟨aba,iF⟩,[(.ret,⟨[(6,aw)],iF⟩),(.exit 0,⟨aba++[(26,aw)],iF⟩)])
def aj4:Shape×List (Out×Shape):=(⟨[(3,bf),(4,db),(5,eW),(6,pb),(24,aw)],[pd,Ew,.var 50 [aa,aa,ya],.var 50 [aa,aa,.one (.whole cg 7)],dr,dr,dr,dr]⟩,[(.norm,⟨[(3,bf),(4,db),(5,eW)],[pd,.var 150 [aa,aa,AK,aa,aa,En,aw],.var 50 [aa,aa,AJ],dr,dr,dr]⟩)])
def aj5:Shape×List (Out×Shape):=(⟨[(0,bf),(3,eW),(5,aa),(28,aw)],yg⟩,[(.norm,⟨[],ri⟩)])
def aj6:Shape×List (Out×Shape):=(⟨[(0,bf),(3,eW),(5,aa),(22,aw)],yg⟩,[(.norm,⟨[],ri⟩)])
def aj7:Shape×List (Out×Shape):=(⟨[(0,bf),(3,eW),(5,aa),(14,aw)],yg⟩,[(.norm,⟨[],ri⟩)])
def aj8:Shape×List (Out×Shape):=(⟨[(0,bf),(3,eW),(5,aa),(10,aw)],yg⟩,[(.norm,⟨[],ri⟩)])
def aj9:Shape×List (Out×Shape):=(⟨[(0,bf),(3,eW),(5,aa),(6,aw)],yg⟩,[(.norm,⟨[],ri⟩)])
def Sy:Shape×List (Out×Shape):=(⟨[(0,aa),(2,.fn uw [] [.aG 0 0 0]),(3,.fn ux [] [.aG 0 0 0]),(8,db),(11,eW),(12,pb),(13,aa),(14,aa),(15,nt),(36,aa),(37,aa)],ZV⟩,[(.exit 2,⟨[(0,aa),(2,.fn uw [] [.aG 0 0 0]),(3,.fn ux [] [.aG 0 0 0]),(8,db),(11,eW),(12,pb),(13,aa),(14,aa),(15,nt),(36,aa),(37,aa),(38,aw)],ZV⟩)])
def Sz:Shape×List (Out×Shape):=(⟨[(0,aa),(2,.fn uw [] [.aG 0 0 0]),(3,.fn ux [] [.aG 0 0 0]),(8,db),(11,eW),(12,pb),(13,aa)],[jZ,Ev,.var 188 [KI,.one (.cK jA 7)],yd,bP,aX,aT,.map jA,bP,aX]⟩,[(.ret,⟨[(8,db),(9,nt),(10,aa)],[jZ,ZM,bP,aX,aT]⟩),(.exit 0,⟨[(0,aa),(2,.fn uw [] [.aG 0 0 0]),(3,.fn ux [] [.aG 0 0 0]),(8,db),(11,eW),(12,pb),(13,aa),(25,aw)],[jZ,Ev,.var 188 [KI,.one (.cK jA 7)],yd,bP,aX,aT,.map jA,bP,aX]⟩)])
abbrev abb:List (Nat×VS):=[(0,KM),(1,dq),(6,aa)]
def aka:Shape×List (Out×Shape):=(⟨abb,[mK]⟩,[(.exit 0,⟨abb++[(12,aw)],[mK]⟩)])
abbrev abc:List (Nat×VS):=[(0,aa),(1,bf),(2,db),(3,eW),(10,aa),(11,aa)]
def akb:Shape×List (Out×Shape):=(⟨abc,sF⟩,[(.exit 0,⟨abc++[(12,aw)],sF⟩)])
abbrev abd:List (Nat×VS):=[(0,aa),(1,bf),(2,db),(3,eW),(5,Zo),(6,aa)]
def akc:Shape×List (Out×Shape):=(⟨abd,[pe,v9,uA,fZ,mK]⟩,[(.exit 0,⟨abd++[(13,aw)],[pe,v9,uA,fZ,mK]⟩)])
abbrev abe:List (Nat×VS):=[(0,bY),(13,bY),(14,aa),(15,aa)]
def SA:Shape×List (Out×Shape):=(⟨abe,[]⟩,[(.ret,⟨[(2,aw)],[]⟩),(.exit 0,⟨abe++[(16,aw)],[]⟩)])
abbrev abf:List (Nat×VS):=[(3,c9),(14,aa),(15,aa)]
def SB:Shape×List (Out×Shape):=(⟨abf,bB⟩,[(.exit 0,⟨abf++[(16,aw)],bB⟩)])
abbrev abg:List (Nat×VS):=[(3,.one (.whole Ek 0)),(9,bY),(10,aa),(11,aa)]
def SC:Shape×List (Out×Shape):=(⟨abg,[Ex]⟩,[(.exit 0,⟨abg++[(12,aw)],[Ex]⟩)])
abbrev abh:List (Nat×VS):=[(1,bY),(5,c9),(26,bY),(27,aa),(28,aa)]
def SD:Shape×List (Out×Shape):=(⟨abh,bB⟩,[(.exit 0,⟨abh++[(29,aw)],bB⟩)])
def SF:Shape×List (Out×Shape):=(⟨[(0,c9),(2,aa),(3,aa),(8,aa),(9,aa),(36,aw)],bB⟩,[(.norm,⟨[(0,c9),(2,aa),(3,aa),(8,aa),(9,aa)],bB⟩)])
abbrev SG:List (Nat×VS):=[(0,c9),(2,aa),(3,aa),(8,aa)]
def SH:Shape×List (Out×Shape):=(⟨SG,bB⟩,[(.exit 0,⟨SG++[(9,aa),(16,aw)],bB⟩),(.ret,⟨SG++[(9,aa),(52,aw)],bB⟩)])
abbrev abi:List (Nat×VS):=[(2,bf),(3,db),(4,eW),(5,AK),(6,En),(7,aa),(21,dK),(22,aa),(23,aa)]
def akd:Shape×List (Out×Shape):=(⟨abi,[KO,pd,.var 150 [aa,aa,AJ,aa,aa,ya,aw],dr,dr,dr,dr]⟩,[(.exit 0,⟨abi++[(24,aw)],[KO,pd,.var 150 [aa,aa,AJ,aa,aa,ya,aw],dr,dr,dr,dr]⟩)])
abbrev abj:List (Nat×VS):=[(2,bf),(4,db),(5,Qt),(6,AK),(7,aw),(20,dK),(21,aa),(22,aa)]
def ake:Shape×List (Out×Shape):=(⟨abj,[KO,Ew,dr,dr,dr,dr]⟩,[(.exit 0,⟨abj++[(23,aw)],[KO,Ew,dr,dr,dr,dr]⟩)])
abbrev abk:List (Nat×VS):=[(4,bf),(6,KG),(7,aw),(11,Qt),(54,AK),(55,aa),(56,aa)]
def akf:Shape×List (Out×Shape):=(⟨abk,[Ew,dr,dr,dr,dr,dr]⟩,[(.exit 2,⟨abk++[(57,aw)],[Ew,dr,dr,dr,dr,dr]⟩)])
def akg:Shape×List (Out×Shape):=(⟨[(0,bf),(2,jb),(3,aa),(9,eW),(10,dK),(11,aa),(12,aa),(18,aw)],yg⟩,[(.norm,⟨[(0,bf),(2,jb),(3,aa),(9,eW),(10,dK),(11,aa),(12,aa)],yg⟩)])
abbrev abl:List (Nat×VS):=[(0,bf),(2,jb),(3,aa),(10,dK),(11,aa),(12,aa)]
def akh:Shape×List (Out×Shape):=(⟨abl,ri⟩,[(.exit 0,⟨abl++[(13,aw)],ri⟩)])
def aki:Shape×List (Out×Shape):=(⟨[(0,dK),(1,.fn v5 [] []),(7,aa),(8,aa)],[]⟩,[(.ret,⟨ED,[]⟩),(.exit 0,⟨[(0,dK),(1,.fn v5 [] []),(7,aa),(8,aa),(9,aw)],[]⟩)])
def akj:Shape×List (Out×Shape):=(⟨[(0,lR),(1,.fn vY [] []),(5,aa),(6,aa)],fQ⟩,[(.exit 0,⟨[(0,lR),(1,.fn vY [] []),(5,aa),(6,aa),(19,aw)],fQ⟩)])
abbrev abm:List (Nat×VS):=[(0,aa),(5,lR),(8,dK),(9,aa),(10,aa)]
def akk:Shape×List (Out×Shape):=(⟨abm,fQ⟩,[(.exit 0,⟨abm++[(11,aw)],fQ⟩)])
def akl:Shape×List (Out×Shape):=(⟨[(0,lR),(1,.fn AE [] []),(5,aa),(6,.one (.sub cg 0)),(7,aa)],fQ⟩,[(.exit 2,⟨[(0,lR),(1,.fn AE [] []),(5,aa),(6,.one (.sub cg 0)),(7,aa),(35,aw)],fQ⟩)])
def akm:Shape×List (Out×Shape):=(⟨[(0,lR),(1,.fn AE [] []),(5,aa)],fQ⟩,[(.ret,⟨[(4,KG)],AR⟩),(.exit 0,⟨[(0,lR),(1,.fn AE [] []),(5,aa),(15,aw)],fQ⟩)])
def akn:Shape×List (Out×Shape):=(⟨[(0,dK),(1,dK),(2,.fn Ej [] []),(11,dK),(12,aa),(13,aa)],[]⟩,[(.ret,⟨[(6,aa)],[]⟩),(.exit 0,⟨[(0,dK),(1,dK),(2,.fn Ej [] []),(11,dK),(12,aa),(13,aa),(14,aw)],[]⟩)])
def ako:Shape×List (Out×Shape):=(⟨[(0,dK),(1,.fn vY [] []),(7,aa),(8,aa)],[]⟩,[(.ret,⟨ED,[]⟩),(.exit 0,⟨[(0,dK),(1,.fn vY [] []),(7,aa),(8,aa),(9,aw)],[]⟩)])
def akp:Shape×List (Out×Shape):=(⟨[(1,.fn Av [] [.aG 0 0 0]),(4,aa),(5,gO),(6,dq),(7,aa),(8,aa)],iF⟩,[(.exit 2,⟨[(1,.fn Av [] [.aG 0 0 0]),(4,aa),(5,gO),(6,dq),(7,aa),(8,aa),(14,aw)],iF⟩)])
def akq:Shape×List (Out×Shape):=(⟨[(1,.fn Av [] [.aG 0 0 0]),(6,dq),(7,aa),(8,aa)],iF⟩,[(.exit 0,⟨[(1,.fn Av [] [.aG 0 0 0]),(6,dq),(7,aa),(8,aa),(9,aw)],iF⟩)])
def akr:Shape×List (Out×Shape):=(⟨[(0,lR),(1,.fn xT [] []),(5,aa),(6,aa)],fQ⟩,[(.exit 0,⟨[(0,lR),(1,.fn xT [] []),(5,aa),(6,aa),(19,aw)],fQ⟩)])
def aks:Shape×List (Out×Shape):=(⟨[(0,dK),(1,.fn xT [] []),(7,aa),(8,aa)],[]⟩,[(.ret,⟨ED,[]⟩),(.exit 0,⟨[(0,dK),(1,.fn xT [] []),(7,aa),(8,aa),(9,aw)],[]⟩)])
def akt:Shape×List (Out×Shape):=(⟨[(0,lR),(1,.fn v5 [] []),(5,aa),(6,aa)],fQ⟩,[(.exit 0,⟨[(0,lR),(1,.fn v5 [] []),(5,aa),(6,aa),(19,aw)],fQ⟩)])
def aku:Shape×List (Out×Shape):=(⟨[(1,.fn Ay [] [.aG 0 0 0,.aG 1 0 0,.aG 2 0 0]),(4,aa),(5,gO),(6,dq),(7,aa),(8,aa)],wc⟩,[(.exit 2,⟨[(1,.fn Ay [] [.aG 0 0 0,.aG 1 0 0,.aG 2 0 0]),(4,aa),(5,gO),(6,dq),(7,aa),(8,aa),(14,aw)],wc⟩)])
def akv:Shape×List (Out×Shape):=(⟨[(1,.fn Ay [] [.aG 0 0 0,.aG 1 0 0,.aG 2 0 0]),(6,dq),(7,aa),(8,aa)],wc⟩,[(.exit 0,⟨[(1,.fn Ay [] [.aG 0 0 0,.aG 1 0 0,.aG 2 0 0]),(6,dq),(7,aa),(8,aa),(9,aw)],wc⟩)])
def akw:Shape×List (Out×Shape):=(⟨[(1,.fn Ax [] [.aG 0 0 0,.aG 1 0 0,.aG 2 0 0]),(4,aa),(5,gO),(6,dq),(7,aa),(8,aa)],sF⟩,[(.exit 2,⟨[(1,.fn Ax [] [.aG 0 0 0,.aG 1 0 0,.aG 2 0 0]),(4,aa),(5,gO),(6,dq),(7,aa),(8,aa),(14,aw)],sF⟩)])
def akx:Shape×List (Out×Shape):=(⟨[(1,.fn Ax [] [.aG 0 0 0,.aG 1 0 0,.aG 2 0 0]),(6,dq),(7,aa),(8,aa)],sF⟩,[(.exit 0,⟨[(1,.fn Ax [] [.aG 0 0 0,.aG 1 0 0,.aG 2 0 0]),(6,dq),(7,aa),(8,aa),(9,aw)],sF⟩)])
def aky:Shape×List (Out×Shape):=(⟨[(1,.fn Aw [] [.aG 0 0 0,.aG 1 0 0]),(4,aa),(5,gO),(6,dq),(7,aa),(8,aa)],qe⟩,[(.exit 2,⟨[(1,.fn Aw [] [.aG 0 0 0,.aG 1 0 0]),(4,aa),(5,gO),(6,dq),(7,aa),(8,aa),(14,aw)],qe⟩)])
def akz:Shape×List (Out×Shape):=(⟨[(1,.fn Aw [] [.aG 0 0 0,.aG 1 0 0]),(6,dq),(7,aa),(8,aa)],qe⟩,[(.exit 0,⟨[(1,.fn Aw [] [.aG 0 0 0,.aG 1 0 0]),(6,dq),(7,aa),(8,aa),(9,aw)],qe⟩)])
def akA:Shape×List (Out×Shape):=(⟨[(1,.fn Ar [] [.aG 0 0 0,.aG 1 0 0]),(4,aa),(5,gO),(6,dq),(7,aa),(8,aa)],qe⟩,[(.exit 2,⟨[(1,.fn Ar [] [.aG 0 0 0,.aG 1 0 0]),(4,aa),(5,gO),(6,dq),(7,aa),(8,aa),(14,aw)],qe⟩)])
def akB:Shape×List (Out×Shape):=(⟨[(1,.fn Ar [] [.aG 0 0 0,.aG 1 0 0]),(6,dq),(7,aa),(8,aa)],qe⟩,[(.exit 0,⟨[(1,.fn Ar [] [.aG 0 0 0,.aG 1 0 0]),(6,dq),(7,aa),(8,aa),(9,aw)],qe⟩)])
def akC:Shape×List (Out×Shape):=(⟨[(1,.fn As [] [.aG 0 0 0,.aG 1 0 0,.aG 2 0 0,.aG 3 0 0]),(4,aa),(5,gO),(6,dq),(7,aa),(8,aa)],we⟩,[(.exit 2,⟨[(1,.fn As [] [.aG 0 0 0,.aG 1 0 0,.aG 2 0 0,.aG 3 0 0]),(4,aa),(5,gO),(6,dq),(7,aa),(8,aa),(14,aw)],we⟩)])
def akD:Shape×List (Out×Shape):=(⟨[(1,.fn As [] [.aG 0 0 0,.aG 1 0 0,.aG 2 0 0,.aG 3 0 0]),(6,dq),(7,aa),(8,aa)],we⟩,[(.exit 0,⟨[(1,.fn As [] [.aG 0 0 0,.aG 1 0 0,.aG 2 0 0,.aG 3 0 0]),(6,dq),(7,aa),(8,aa),(9,aw)],we⟩)])
def akE:Shape×List (Out×Shape):=(⟨[(1,.fn Au [] [.aG 0 0 0,.aG 1 0 0,.aG 2 0 0]),(4,aa),(5,gO),(6,dq),(7,aa),(8,aa)],AS⟩,[(.exit 2,⟨[(1,.fn Au [] [.aG 0 0 0,.aG 1 0 0,.aG 2 0 0]),(4,aa),(5,gO),(6,dq),(7,aa),(8,aa),(14,aw)],AS⟩)])
def akF:Shape×List (Out×Shape):=(⟨[(1,.fn Au [] [.aG 0 0 0,.aG 1 0 0,.aG 2 0 0]),(6,dq),(7,aa),(8,aa)],AS⟩,[(.exit 0,⟨[(1,.fn Au [] [.aG 0 0 0,.aG 1 0 0,.aG 2 0 0]),(6,dq),(7,aa),(8,aa),(9,aw)],AS⟩)])
def akG:Shape×List (Out×Shape):=(⟨[(0,dK),(1,.fn D6 [] []),(7,aa),(8,aa)],[]⟩,[(.ret,⟨ED,[]⟩),(.exit 0,⟨[(0,dK),(1,.fn D6 [] []),(7,aa),(8,aa),(9,aw)],[]⟩)])
def akH:List (Nat×FuncId):=[(3,DS),
 (4,DT),
 (5,ur),
 (6,DU),
 (7,JY),
 (8,ou),
 (9,DV),
 (10,JZ),
 (11,J0),
 (12,J1),
 (13,J2),
 (14,J3),
 (15,J4),
 (16,J5),
 (17,Ak),
 (18,uu),
 (19,P7),
 (20,DW),
 (21,J6),
 (22,Al),
 (23,J7),
 (24,sC),
 (25,J8),
 (26,DX),
 (27,DY),
 (28,DZ),
 (29,J9),
 (30,Ka),
 (31,D0),
 (32,D1),
 (33,uv),
 (34,D2),
 (35,Am),
 (36,rh),
 (37,Kb),
 (38,P8),
 (39,P9),
 (40,Qa),
 (41,Qb),
 (42,An),
 (43,Qc),
 (44,Kd),
 (45,ait),
 (46,aiu),
 (47,Zl),
 (48,aiv),
 (49,aiw),
 (50,Ke),
 (52,Kf),
 (53,Kg),
 (54,Kh),
 (55,Ki),
 (56,D3),
 (57,Kj),
 (58,D4),
 (59,Kk),
 (60,Ao),
 (61,ja),
 (62,D5),
 (63,Kl),
 (64,Km),
 (65,Kn),
 (66,Qd),
 (67,aix),
 (68,aiy),
 (69,Ko),
 (70,aiz),
 (71,vV),
 (72,vW),
 (73,D6),
 (74,Ap),
 (75,Kp),
 (76,aiA),
 (77,aiB),
 (78,aiC),
 (79,aiD),
 (80,vX),
 (81,Aq),
 (82,Kq),
 (83,Kr),
 (84,D7),
 (85,Ks),
 (86,D8),
 (88,D9),
 (89,Ea),
 (90,Kt),
 (91,Eb),
 (92,Ku),
 (93,Kv),
 (94,jy),
 (95,xS),
 (96,qb),
 (98,Kw),
 (99,qc),
 (100,aiE),
 (101,aiF),
 (102,aiG),
 (103,aiH),
 (104,aiI),
 (105,aiJ),
 (106,Qe),
 (107,Kx),
 (108,uw),
 (109,ux),
 (110,Ar),
 (111,aiK),
 (112,vY),
 (113,As),
 (114,Au),
 (115,Av),
 (116,Aw),
 (117,Ax),
 (118,Ay),
 (119,aiL),
 (120,Az),
 (121,AA),
 (122,Ky),
 (123,vZ),
 (124,Ec),
 (125,Ed),
 (126,Ee),
 (127,Ef),
 (128,Kz),
 (129,KA),
 (130,AB),
 (131,Eg),
 (132,Eh),
 (133,aiM),
 (134,aiN),
 (135,aiO),
 (136,aiP),
 (137,aiQ),
 (138,aiR),
 (139,aiS),
 (140,aiT),
 (141,KC),
 (142,Ei),
 (143,v5),
 (144,AD),
 (145,aiU),
 (146,Qf),
 (147,aiV),
 (148,aiW),
 (149,aiX),
 (150,aiY),
 (151,xT),
 (152,aiZ),
 (154,ai0),
 (155,ai1),
 (156,ai2),
 (157,Ej),
 (158,ai3),
 (159,AE),
 (162,ai4),
 (163,ai5),
 (197,Ei),
 (198,Qe),
 (199,KC),
 (200,vX),
 (201,Qf),
 (202,KC),
 (203,Qf),
 (204,Zl),
 (205,vX),
 (206,vX),
 (207,vX),
 (208,vX),
 (209,vX),
 (210,vX),
 (211,Qe),
 (212,KC)]
def akI:List (Nat×Shape):=[(3,⟨[(0,AN),(1,nu)],[]⟩),
 (4,⟨[(0,AN),(1,aa)],[]⟩),
 (5,⟨[],[]⟩),
 (6,⟨[(0,jb),(1,aa)],[]⟩),
 (7,⟨[(0,AN),(1,nu)],[]⟩),
 (8,⟨wg,[]⟩),
 (9,⟨[(0,yb),(1,jb)],[]⟩),
 (10,⟨EF,[]⟩),
 (11,⟨EF,[]⟩),
 (12,⟨[(0,cA),(1,bY),(2,cA),(3,bY)],[]⟩),
 (13,⟨QK,[]⟩),
 (14,⟨wg,[]⟩),
 (15,⟨yh,[]⟩),
 (16,⟨QL,[]⟩),
 (17,⟨ec,[]⟩),
 (18,⟨wg,[]⟩),
 (19,⟨[(0,pc),(1,jb)],[]⟩),
 (20,⟨ec,[]⟩),
 (21,⟨wg,[]⟩),
 (22,⟨[(0,jb),(1,aa)],[]⟩),
 (23,⟨[(0,AN),(1,aa),(2,jb)],[]⟩),
 (24,⟨wg,[]⟩),
 (25,⟨[(0,bf),(1,AN)],[.var 60 [.one (.nilS ah),Zz,aa]]⟩),
 (26,⟨sG,[.var 60 [mJ,.one (.whole jz 2),aa],qd,uB]⟩),
 (27,⟨[(0,yb)],[]⟩),
 (28,⟨[(0,yb),(1,jb)],[]⟩),
 (29,⟨EF,[]⟩),
 (30,⟨EG,[]⟩),
 (31,⟨KZ,Ez⟩),
 (32,⟨yi,bB⟩),
 (33,⟨EG,[]⟩),
 (34,⟨EF,[]⟩),
 (35,⟨K0,[]⟩),
 (36,⟨[(0,aa),(1,aa),(2,bf),(3,db)],yf⟩),
 (37,⟨QK,[]⟩),
 (38,⟨yh,[]⟩),
 (39,⟨yh,[]⟩),
 (40,⟨ld,[]⟩),
 (41,⟨sG,EB⟩),
 (42,⟨sG,EB⟩),
 (43,⟨sG,EB⟩),
 (44,⟨wg,[]⟩),
 (45,⟨ld,[]⟩),
 (46,⟨[(0,Qx)],[]⟩),
 (47,⟨[(0,KM),(1,aa)],[mK]⟩),
 (48,⟨K3,[]⟩),
 (49,⟨[(0,dq),(1,aa)],[]⟩),
 (50,⟨[(0,cA),(1,aw)],[]⟩),
 (52,⟨K0,[]⟩),
 (53,⟨[(0,.agg [.int .i64,.list ax,.int .i64]),(1,bY)],[]⟩),
 (54,⟨[(0,yb)],[]⟩),
 (55,⟨[(0,yb)],[]⟩),
 (56,⟨[(0,bY),(1,bY)],[]⟩),
 (57,⟨[(0,nu),(1,nu)],[]⟩),
 (58,⟨[(0,sD),(1,sD)],[]⟩),
 (59,⟨EG,[]⟩),
 (60,⟨KZ,Ez⟩),
 (61,⟨K4,bB⟩),
 (62,⟨EH,[]⟩),
 (63,⟨EG,[]⟩),
 (64,⟨EF,[]⟩),
 (65,⟨EG,[]⟩),
 (66,⟨QK,[]⟩),
 (67,⟨ld,[]⟩),
 (68,⟨yh,[]⟩),
 (69,⟨[(0,bf),(1,pc)],EB⟩),
 (70,⟨ld,[]⟩),
 (71,⟨yh,[]⟩),
 (72,⟨ld,[]⟩),
 (73,⟨ld,[]⟩),
 (74,⟨wg,[]⟩),
 (75,⟨wg,[]⟩),
 (76,⟨[(0,Qx),(1,dK),(2,dq)],[]⟩),
 (77,⟨K3,[]⟩),
 (78,⟨K3,[]⟩),
 (79,⟨K3,[]⟩),
 (80,⟨[(0,dq),(1,.fn Aq [] [.aG 0 0 0,.aG 1 0 0,.aG 2 0 0])],sE⟩),
 (81,⟨K5,sE⟩),
 (82,⟨[(0,cA),(1,aw)],[]⟩),
 (83,⟨sG,ox⟩),
 (84,⟨sG,ox⟩),
 (85,⟨K0,[]⟩),
 (86,⟨K0,[]⟩),
 (88,⟨EI,bB⟩),
 (89,⟨EI,bB⟩),
 (90,⟨EI,bB⟩),
 (91,⟨[(0,bY),(1,aa),(2,aa)],[]⟩),
 (92,⟨EI,bB⟩),
 (93,⟨EI,bB⟩),
 (94,⟨K6,[]⟩),
 (95,⟨K4,bB⟩),
 (96,⟨K4,bB⟩),
 (98,⟨EH,[]⟩),
 (99,⟨QM,[.var 22 [Qo],ZI,bP,Ey]⟩),
 (100,⟨[(0,pc),(1,aa),(2,bf)],iF⟩),
 (101,⟨QL,[]⟩),
 (102,⟨K7,[]⟩),
 (103,⟨K8,[]⟩),
 (104,⟨[(0,bf),(1,pc)],EC⟩),
 (105,⟨sG,EC⟩),
 (106,⟨[(0,dK),(1,.fn v5 [] [])],[]⟩),
 (107,⟨[(0,aa),(1,aa),(2,.fn uw [] [.aG 0 0 0]),(3,.fn ux [] [.aG 0 0 0])],lS⟩),
 (108,⟨[(0,aa),(1,aa),(2,bf)],lS⟩),
 (109,⟨[(0,aa),(1,bf)],lS⟩),
 (110,⟨QM,KX⟩),
 (111,⟨[(0,KM),(1,dq),(2,aa)],[mK]⟩),
 (112,⟨ld,[]⟩),
 (113,⟨[(0,aa),(1,bf),(2,db),(3,eW),(4,pb)],we⟩),
 (114,⟨K5,[KN,.var 89 [.one (.whole uy 3)],yc,mK,fZ]⟩),
 (115,⟨[(0,aa),(1,bf)],iF⟩),
 (116,⟨QM,KX⟩),
 (117,⟨K5,sF⟩),
 (118,⟨K5,wc⟩),
 (119,⟨EH,[]⟩),
 (120,⟨[(0,bY)],[]⟩),
 (121,⟨[(0,bf),(1,bY),(2,aa),(3,aa),(4,jb),(5,aa)],ox⟩),
 (122,⟨ec,[]⟩),
 (123,⟨[(0,bY)],[]⟩),
 (124,⟨[(0,bY),(1,bY)],[]⟩),
 (125,⟨[(0,bf),(1,aa),(2,aa)],ox⟩),
 (126,⟨[(0,bf),(1,aa),(2,aa)],ox⟩),
 (127,⟨K4,bB⟩),
 (128,⟨ec,[]⟩),
 (129,⟨sG,[Qz]⟩),
 (130,⟨[(0,bY),(1,aa),(2,bf)],iF⟩),
 (131,⟨[(0,bY),(1,aa),(2,aa),(3,aa),(4,bf)],iF⟩),
 (132,⟨ec,[]⟩),
 (133,⟨[(0,dK)],[]⟩),
 (134,⟨[(0,dK)],[]⟩),
 (135,⟨[(0,dK)],[]⟩),
 (136,⟨[],[]⟩),
 (137,⟨K8,[]⟩),
 (138,⟨K8,[]⟩),
 (139,⟨[(0,bf),(1,.one (.int .u8))],EC⟩),
 (140,⟨[(0,bf),(1,dK),(2,jb),(3,aa)],EC⟩),
 (141,⟨[(0,dK),(1,.fn v5 [] [])],[]⟩),
 (142,⟨KZ,[.var 188 [lQ,.one (.eo jA)],aT]⟩),
 (143,⟨ld,[]⟩),
 (144,⟨[(0,bY),(1,aa),(2,aa),(3,bf)],iF⟩),
 (145,⟨[],[]⟩),
 (146,⟨[(0,lR),(1,.fn vY [] [])],fQ⟩),
 (147,⟨QL,[]⟩),
 (148,⟨[(0,aa),(1,dK),(2,pc)],[]⟩),
 (149,⟨yj,fQ⟩),
 (150,⟨[],[]⟩),
 (151,⟨ld,[]⟩),
 (152,⟨K8,[]⟩),
 (154,⟨[(0,bf),(1,jb)],EC⟩),
 (155,⟨ec,[]⟩),
 (156,⟨[(0,lR),(1,.fn Ej [] [])],fQ⟩),
 (157,⟨[(0,pc),(1,pc)],[]⟩),
 (158,⟨[(0,lR),(1,.fn AE [] [])],fQ⟩),
 (159,⟨[(0,pc),(1,pc)],[]⟩),
 (162,⟨K6,[]⟩),
 (163,⟨[(0,dK),(1,dK),(2,.fn Ej [] [])],[]⟩),
 (197,⟨KZ,[.var 188 [lQ,.one (.cK jA 2)],aT,.map jA]⟩),
 (198,⟨[(0,dK),(1,.fn vY [] [])],[]⟩),
 (199,⟨[(0,dK),(1,.fn vY [] [])],[]⟩),
 (200,⟨[(0,dq),(1,.fn Av [] [.aG 0 0 0])],iF⟩),
 (201,⟨[(0,lR),(1,.fn xT [] [])],fQ⟩),
 (202,⟨[(0,dK),(1,.fn xT [] [])],[]⟩),
 (203,⟨[(0,lR),(1,.fn v5 [] [])],fQ⟩),
 (204,⟨[(0,.one (.row uy 0 [0])),(1,aa)],[fZ]⟩),
 (205,⟨[(0,dq),(1,.fn Ay [] [.aG 0 0 0,.aG 1 0 0,.aG 2 0 0])],wc⟩),
 (206,⟨[(0,dq),(1,.fn Ax [] [.aG 0 0 0,.aG 1 0 0,.aG 2 0 0])],sF⟩),
 (207,⟨[(0,dq),(1,.fn Aw [] [.aG 0 0 0,.aG 1 0 0])],KX⟩),
 (208,⟨[(0,dq),(1,.fn Ar [] [.aG 0 0 0,.aG 1 0 0])],KX⟩),
 (209,⟨[(0,dq),(1,.fn As [] [.aG 0 0 0,.aG 1 0 0,.aG 2 0 0,.aG 3 0 0])],we⟩),
 (210,⟨[(0,dq),(1,.fn Au [] [.aG 0 0 0,.aG 1 0 0,.aG 2 0 0])],[KN,.var 89 [.one (.whole uy 3)],yc,mK,fZ]⟩),
 (211,⟨[(0,dK),(1,.fn D6 [] [])],[]⟩),
 (212,⟨[(0,dK),(1,.fn D6 [] [])],[]⟩)]
def akJ:List (Nat×Shape):=[(3,⟨dL,[]⟩),
 (4,⟨dL,[]⟩),
 (5,⟨dL,[]⟩),
 (6,⟨dL,[]⟩),
 (7,⟨QN,KY⟩),
 (8,⟨[(0,yb),(1,aa)],[]⟩),
 (9,⟨ec,[]⟩),
 (10,⟨yi,bB⟩),
 (11,⟨[(0,cA),(1,aa)],[]⟩),
 (12,⟨[(0,c9),(1,aw)],bB⟩),
 (13,⟨yi,bB⟩),
 (14,⟨ec,[]⟩),
 (15,⟨QN,KY⟩),
 (16,⟨ld,[]⟩),
 (17,⟨K9,fQ⟩),
 (18,⟨[(0,Et)],KY⟩),
 (19,⟨dL,[]⟩),
 (20,⟨dL,[]⟩),
 (21,⟨QN,KY⟩),
 (22,⟨dL,[]⟩),
 (23,⟨ec,[]⟩),
 (24,⟨ec,[]⟩),
 (25,⟨ec,[.var 60 [mJ,.one (.whole jz 2),aa],qd,uB]⟩),
 (26,⟨[(0,yb),(1,.one (.list kh)),(2,aa)],[.var 60 [mJ,.one (.whole jz 3),aa],ye,.dead,uB]⟩),
 (27,⟨ec,[]⟩),
 (28,⟨ec,[]⟩),
 (29,⟨dL,[]⟩),
 (30,⟨sG,Ez⟩),
 (31,⟨[],EA⟩),
 (32,⟨[],bB⟩),
 (33,⟨ec,[]⟩),
 (34,⟨dL,[]⟩),
 (35,⟨dL,[]⟩),
 (36,⟨dL,[ZJ,.var 33 [Es],.dead,.dead,aT,Ey]⟩),
 (37,⟨dL,[]⟩),
 (38,⟨ec,[]⟩),
 (39,⟨sG,EB⟩),
 (40,⟨ld,[]⟩),
 (41,⟨dL,KT⟩),
 (42,⟨ec,KT⟩),
 (43,⟨[(0,.agg [.int .i64,.int .i64,.whole ax 4,.whole ah 5])],[.var 119 [aa,ya,AG,aa,xZ],.dead,.dead,.map cz,bP,aX,dr]⟩),
 (44,⟨[(0,Et),(1,xX)],[bP,aX,aT]⟩),
 (45,⟨dL,[]⟩),
 (46,⟨[(0,KM)],[mK]⟩),
 (47,⟨[],[mK]⟩),
 (48,⟨EJ,[fZ]⟩),
 (49,⟨dL,[]⟩),
 (50,⟨[(0,.agg [.int .i64,.bool,.whole ah 0,.whole ah 1,.whole ae 2,.whole ae 3,.whole ah 4,.whole dQ 5,.int .i64]),(1,aa)],[aX,aX,aT,aT,aX,nv]⟩),
 (52,⟨dL,[]⟩),
 (53,⟨dL,[]⟩),
 (54,⟨dL,[]⟩),
 (55,⟨[(0,Et)],[bP,qd]⟩),
 (56,⟨dL,[]⟩),
 (57,⟨dL,[]⟩),
 (58,⟨dL,[]⟩),
 (59,⟨dL,[]⟩),
 (60,⟨[],[.var 71 [cA,lQ,Qm,Es],aT,.dead,.dead,bP,aT]⟩),
 (61,⟨[],bB⟩),
 (62,⟨ec,[]⟩),
 (63,⟨ec,[]⟩),
 (64,⟨dL,[]⟩),
 (65,⟨yi,bB⟩),
 (66,⟨dL,[]⟩),
 (67,⟨dL,[]⟩),
 (68,⟨dL,[]⟩),
 (69,⟨ec,KT⟩),
 (70,⟨ld,[]⟩),
 (71,⟨yh,[]⟩),
 (72,⟨[(0,jb)],[]⟩),
 (73,⟨dL,[]⟩),
 (74,⟨[(0,Et),(1,xX)],[bP,aX,aT]⟩),
 (75,⟨yi,bB⟩),
 (76,⟨EJ,[fZ]⟩),
 (77,⟨EJ,[fZ]⟩),
 (78,⟨EJ,[fZ]⟩),
 (79,⟨EJ,[fZ]⟩),
 (80,⟨[],sE⟩),
 (81,⟨[],sE⟩),
 (82,⟨[(0,bf),(1,.one (.Cf .i64 0))],ox⟩),
 (83,⟨dL,QD⟩),
 (84,⟨ec,QD⟩),
 (85,⟨ec,[]⟩),
 (86,⟨dL,[]⟩),
 (88,⟨[],bB⟩),
 (89,⟨[],bB⟩),
 (90,⟨[],bB⟩),
 (91,⟨K6,[]⟩),
 (92,⟨[],bB⟩),
 (93,⟨dL,bB⟩),
 (94,⟨dL,[]⟩),
 (95,⟨ec,bB⟩),
 (96,⟨[(0,aa),(1,aw)],bB⟩),
 (98,⟨ec,[]⟩),
 (99,⟨[],[.var 22 [Qm],.var 33 [Es],.dead,.dead,bP,Ey]⟩),
 (100,⟨dL,iF⟩),
 (101,⟨ld,[]⟩),
 (102,⟨yh,[]⟩),
 (103,⟨K7,[]⟩),
 (104,⟨[],ri⟩),
 (105,⟨[(0,jb)],[.var 156 [xV,xV],.dead]⟩),
 (106,⟨dL,[]⟩),
 (107,⟨[(0,.agg [.int .i64,.int .i64,.whole ax 1,.whole ah 2]),(1,ov),(2,aa)],[jZ,bP,aX,aT]⟩),
 (108,⟨ec,lS⟩),
 (109,⟨dL,lS⟩),
 (110,⟨[],qe⟩),
 (111,⟨[],[mK]⟩),
 (112,⟨dL,[]⟩),
 (113,⟨[],we⟩),
 (114,⟨[],AS⟩),
 (115,⟨[],iF⟩),
 (116,⟨[],qe⟩),
 (117,⟨[],sF⟩),
 (118,⟨[],wc⟩),
 (119,⟨ec,[]⟩),
 (120,⟨dL,[]⟩),
 (121,⟨ec,QE⟩),
 (122,⟨yi,bB⟩),
 (123,⟨[(0,jb)],[]⟩),
 (124,⟨yi,bB⟩),
 (125,⟨ec,QE⟩),
 (126,⟨dL,QE⟩),
 (127,⟨[],bB⟩),
 (128,⟨EH,[]⟩),
 (129,⟨EH,[Qz]⟩),
 (130,⟨ec,iF⟩),
 (131,⟨ec,iF⟩),
 (132,⟨dL,[]⟩),
 (133,⟨ld,[]⟩),
 (134,⟨ld,[]⟩),
 (135,⟨ld,[]⟩),
 (136,⟨K9,fQ⟩),
 (137,⟨K7,[]⟩),
 (138,⟨K7,[]⟩),
 (139,⟨[(0,xV)],ri⟩),
 (140,⟨[],ri⟩),
 (141,⟨ec,[]⟩),
 (142,⟨ec,[.var 188 [xX,.one (.cK jA 3)],.dead,aT,.map jA]⟩),
 (143,⟨dL,[]⟩),
 (144,⟨K6,iF⟩),
 (145,⟨K9,fQ⟩),
 (146,⟨EK,AR⟩),
 (147,⟨yj,fQ⟩),
 (148,⟨ld,[]⟩),
 (149,⟨EK,AR⟩),
 (150,⟨K9,fQ⟩),
 (151,⟨dL,[]⟩),
 (152,⟨ld,[]⟩),
 (154,⟨[(0,aa),(1,xV)],ri⟩),
 (155,⟨ec,[]⟩),
 (156,⟨[],fQ⟩),
 (157,⟨ec,[]⟩),
 (158,⟨EK,AR⟩),
 (159,⟨dL,[]⟩),
 (162,⟨ec,[]⟩),
 (163,⟨ec,[]⟩),
 (197,⟨ec,[.var 188 [ov,.one (.cK jA 2)],.dead,.map jA,aT]⟩),
 (198,⟨dL,[]⟩),
 (199,⟨ec,[]⟩),
 (200,⟨[],iF⟩),
 (201,⟨EK,AR⟩),
 (202,⟨ec,[]⟩),
 (203,⟨EK,AR⟩),
 (204,⟨[],[fZ]⟩),
 (205,⟨[],wc⟩),
 (206,⟨[],sF⟩),
 (207,⟨[],qe⟩),
 (208,⟨[],qe⟩),
 (209,⟨[],we⟩),
 (210,⟨[],AS⟩),
 (211,⟨dL,[]⟩),
 (212,⟨ec,[]⟩)]
def akK:List (Nat×Shape):=[(82,⟨[(0,.one (.eb)),(1,aa)],[]⟩),
 (146,⟨yj,fQ⟩),
 (149,⟨yj,fQ⟩),
 (158,⟨yj,fQ⟩),
 (201,⟨yj,fQ⟩),
 (203,⟨yj,fQ⟩)]
def akL (n:Nat):List Nat:=(List.range (n.log2+1)).filter n.testBit
def abn:Nat→List Nat→List (Nat×List Nat)
 | _,[]=>[]
 | i,n::l=>(i,akL n)::abn (i+1) l
def SI (l:List (Nat×List Nat)):List (Nat×List (Nat×List Nat)):=l.map fun e=>(e.1,abn 0 e.2)
def akM:List (Nat×List (Nat×List Nat)):=SI [(3,[6,137438953478,16,3848290697222,8246337208326,3848290697286,18018246800179206,16,3848290697222,390,1922,7938,19807040628566084398385990146,16,10754,554597137599850363154807663104,1188422437713965063903159265792,554597137599850363154807695872,554597137599850363154807663104,554597137599850363154807663104,76288,468992,2658455991569831745807614120560896000,16,37218383881977644441306597687849854976,79753679747094952374228423616820881408,37218383881977644441306597687851427840,4801171520775116132928551101732606388224,10245689391510131548342544820640897771520,4801171520775116132928551101732612679680,353250315247816102719424149111863257016320,37218383881977644441306597687849854976,4801171520775116132928551101732606388224,37218383881977644441306597687849854976,25298944,16]),
 (4,[6,16]),
 (5,[0,6,1]),
 (6,[3,8195,16,35,131107,35,4294967331,16,16]),
 (7,[22,214,2097366,48,2147483734,48,60129542230,128849018966,60129542742,8856222564438,48,60129542230,1106,108086391056893010,252201579132748882,108086391056895058,108086391056899154,32389888520048614482,69283376667467717714,32389888520048639058,32389888520048614482,32389888520048614482,108086391056893010,108086391056893010,48]),
 (9,[6,134,16,16]),
 (10,[3,2051,16,34,114720,245792,114848,114720,114720,32,16]),
 (11,[3,67,524355,48,536870915,48,131,51539607683,120259084419,51539607939,51539607683,51539607683,30786325577859,65970697666691,30786325579395,576491538629002883,48,30786325577859,30786325577859,2179,2066035336255469783171,4427218577690292390019,2066035336255469795459,2066035336255469795459,16927027509941063915681923,36269840623775130710980739,16927027509941063915731075,16927027509941063915698307,2596148446194441324206312080291971,48,16927027509941063915681923,2066035336255469783171,48]),
 (13,[7,131078,64,132,14680192,31457408,14680704,14680192,14680192,1152,15032386560,32212255744,15032392704,289910295552,15032386560,15032386560,64]),
 (14,[2,10,16394,4,65546,4,68719476746,4,1924145348618,4123168604170,1924145348650,283399122059306,4,3942573819297802,8446173446668298,3942573819297930,2309785583032991754,4,3942573819297802,1924145348618,4]),
 (15,[22,86,8278,48,144,4194448,400,67109264,48,48]),
 (16,[19,16]),
 (17,[5,4]),
 (18,[6,134,4,12,4]),
 (19,[6,16390,16,38,102,102,16]),
 (20,[1,4]),
 (21,[6,22,278,12,12]),
 (22,[3,65539,16,786435,1835011,786467,17180655619,16,786435,16]),
 (23,[14,268435470,64,3221225486,7516192782,3221225614,3221225486,3221225486,64]),
 (24,[2,32770,4,10,1048586,4,68719476746,4,1924145348618,4123168604170,1924145348650,283399122059306,4,3942573819297802,8446173446668298,3942573819297930,2309785583032991754,4,3942573819297802,1924145348618,4]),
 (26,[5,101,134217829,28,165,17179869349,28,421,933,36028797018964901,933,933,933,541598767187353870268367269,1160568786830044007717929381,541598767187353870268370341,541598767187353870268368293,541598767187353870268368293,541598767187353870268368293,541598767187353870268372389,664613998434056703639257400408544677,541598767187353870268372389,541598767187353870268372389,541598767187353870268367269,8613,40922045845265281709703175316055924550366111211940,87690098239854175092221089962976981179355952587172,40922045845265281709703175316055924550366111261092,40922045845265281709703175316055924550366111261092,335274321610258453047598115364446189841149549088924068,718398206826730667637184872152023485745834329634824612,335274321610258453047598115364446189841149549089120676,335274321610258453047598115364446189841149549088924068,335274321610258453047598115364446189841149549088924068,40922045845265281709703175316055924550366111211940,28]),
 (27,[2,514,4,26,67108874,4,1879048202,4026531850,1879048298,4399925559306,4,1879048202,9444732965739290427392,4,4]),
 (28,[6,2054,16,38,24614,57382,24678,24614,24614,16]),
 (29,[3,16]),
 (30,[1,4]),
 (31,[16387,19,19,19,51,549755813939,51,17592186044467,51,516508834063867445299,1106804644422573097011,516508834063867445427,516508834063867445299,516508834063867445299]),
 (32,[5,0]),
 (33,[1,9,137,4,8192,4,4]),
 (34,[3,897,1921,961,1049473,16,897,16]),
 (35,[3,898,1922,962,525186,16,898,16]),
 (37,[7,64]),
 (38,[6,1030,16,8198,16,131072,16,16]),
 (39,[6,38,36,32,16]),
 (40,[6,38,4,4]),
 (41,[1,4]),
 (42,[1,9,196617,458761,196633,196729,274878103673,4,197049,2251799813882041,288230376151908409,4,196761,196617,196617,1,0,4]),
 (43,[5,13,14680076,31457292,14680108,14680076,14680076,4]),
 (44,[6,54,118,246,1879048438,4026532086,1879049206,551634862582,1879049718,985164297537014,2111064204379638,985164297543158,985164297537014,985164297537014,1879049462,1879048438,1879048438,24676,57444,1083197534374707740536791108,2321137573660088015435915332,1083197534374707740536987716,1083197534374707740536987716,317995847591432058114712789060,1083197534374707740536791108,1083197534374707740536791108,12]),
 (45,[2,4]),
 (46,[2,4]),
 (47,[0]),
 (48,[28,540,1564,64,131612,64,67109404,67109404,64,8589934620,64,156,128,64]),
 (49,[3,16]),
 (50,[19,208,65744,48,2097232,336,33554768,48,48]),
 (52,[3,16]),
 (53,[6,16]),
 (54,[2,10,16777226,4,2251799813685258,4,63050394783186954,135107988821114890,63050394783186986,295210955574136012810,4,63050394783186954,4]),
 (55,[6,14,3670030,7864334,3670078,3670078,120262754366,257701707838,120262754558,120262754366,120262754366,3670030,4]),
 (56,[3,1027,16,12291,28675,12323,16789507,16,12291,16]),
 (57,[3,1027,16,12291,28675,12323,16789507,16,12291,16]),
 (58,[3,1027,16,12291,28675,12323,16789507,16,12291,16]),
 (59,[1,4]),
 (60,[2051,3,0]),
 (61,[271,783,1807,8390415,0,536872719,0,34359740175,1807,1807,7951,1125899906850575,3855,3855,7951,295147905179352829711,4722366482869645217551,154742504910672534362394383,8973,783,50191,17935,214543,475663,10384593717069655257060992658915855,17167,17165,783,17167,17163,783]),
 (62,[1,4,4]),
 (63,[1,513,4,4097,4,57345,122881,57361,8445969,4,117497857,251715585,117497921,137556451329,4,117497857,57345,4]),
 (64,[3,35,458785,983073,458913,34013345,458913,3758555297,8053522593,3758555809,3758556833,246294363178657,527769339889313,246294363184801,1153167798970025633,16,246294363178657,3758555297,458785,16]),
 (66,[7,4194311,64,58720262,125829126,58720646,7574913158,16164847750,7574914694,18014406084395142,64,7574913158,58720262,64]),
 (67,[2,10,4]),
 (68,[6,518,16,134217734,16,536870918,16,1610612742,1610612742,16,137975824390,137975824390,137975824390,17592186044422,16,35184908959750,35184372088838,2251799813685254,16,63050394783186946,135107988821114882,63050394783187010,4674736413210574850,16,63050394783186946,16]),
 (69,[9,41,41,32,16]),
 (70,[6,518,4,14,7340046,15728654,7340094,7340046,7340046,4]),
 (71,[22,48]),
 (72,[2,66,4,10,8,4]),
 (73,[2,66,194,194,4,1090,4,32834,32834,3670016,7864320,3670032,137887744,4,3670016,4,536870914,4,4]),
 (74,[6,8198,12,54,180,6442451124,15032385716,6442451380,6442451124,6442451124,3848290697364,8246337208468,3848290698900,3848290697364,3848290697364,12]),
 (75,[2,262146,4,26,117440538,251658266,117440634,68836917306,117440538,117440538,154,410,492581209244058,1055531162665370,492581209245594,492581209247642,2018105214271228826,4323948223484922778,2018105214271241114,2018105214271228826,2018105214271228826,492581209295770,1208925820107210383969178,492581209263002,492581209260954,492581209244058,492581209244058,19807040628566084398385987970,4,26]),
 (76,[14,142,7340172,15728780,7340684,7341708,7341708,7342732,7346316,7340172,7340172,64]),
 (77,[28,412,408,920,268436376,920,920,1288,3336,7432,281474976718088,7432,15624,15624,15624,7432,64]),
 (78,[28,156,7340188,15728796,7340700,7341212,7340188,7340188,64]),
 (79,[28,140,396,128,64]),
 (80,[450,962,498,16882,498,498,450]),
 (81,[15,1039,0,1048581,0]),
 (82,[3,4194307,48,67,67,3848290697282,8246337208386,3848290697538,144119036366553410,48,3848290697282,3848290697282,578,4722366482869645214272,576,270799383593676935134184000,580284393415022003858965056,270799383593676935134187072,270799383593676935134191168,270799383593676935134215744,81129909213990275372724139343424,270799383593676935134192192,270799383593676935134192192,270799383593676935134184000,270799383593676935134184000,48]),
 (83,[1,4]),
 (84,[1,9,25,939524121,2013265945,939524217,939524281,939525049,939526073,73786976295777732537,4,302231454903658233202105,939524409,158456325028528675188027426105,939524409,939524121,939524121,1,0,4]),
 (85,[3,387,899,419,65955,16,387,16]),
 (86,[3,898,1922,962,525186,16,898,16]),
 (88,[71,4167,71,199,1073742023,199,199]),
 (89,[71,199,449,961,525249,961,961,1217,1073743041,1217,1217,1217]),
 (90,[67,32835,195,451,963,8589935555,963,1987,8796093024195,1987,963]),
 (91,[7,259,771,1795,3843,7937,4294975233,17179876865,7681,7681,7681,2560,562949953423360,192,2814749767108608,192,18014398509484032,192]),
 (92,[69,193,8385,193,193,193]),
 (93,[7,135,391,16775,391,4294967687,391,137438953863,64,2199023255943,64,391,2305843009213694343,903,36893488147419104135,903,302231454903657293677447,903,316912650057057350374175801735,1415,10141204801825835211973625644423,1415,83076749736557242056487941267522951,1415,64]),
 (94,[3,16]),
 (95,[15,7,1539,8796093023747,1539,576460752303425027,1539,18446744073709553155,1539,1539,1539,256]),
 (96,[15,7,3075,8796093025283,3075,1152921504606850051,3075,36893488147419106307,2048,768,3075,3075,3075,5192296858534827628530496329223171,3075,680564733841876926926749214863536425987,3075,21778071482940061661655974875633165536259,3075,3075,3075,2048,768]),
 (98,[5,21,1,5,261,5,5,16389,5,5,4]),
 (100,[14,65550,64,14,58720262,125829126,58720518,17238589446,64,58720262,64]),
 (101,[19,83,211,16,2131,16,32787,16,2097171,16,49,67108912,201326640,137438953520,16,16,35184372088880,140737488355376,16,144115188075855920,16,16,16]),
 (102,[6,134,12,12]),
 (103,[28,124,4220,12412,16,266364,16777336,56,16,2147487804,2147487804,2147487804,16,274877911100,144,400,16,144115188075855932,16,16]),
 (104,[9,41,105,0,1065,0,16425,0,4194345,0,268435497,0,17179869225,0,1099511627817,9,0,281474976710665,1,0]),
 (105,[1,4]),
 (106,[3,16]),
 (107,[271,2319,2317,6413,14605,33569037,14605,30989,63757,206158493965,481036400909,206158559501,206158493965,206158493965,4503599627434253,1792,30989,14605,1792]),
 (108,[7,32]),
 (109,[3,8]),
 (110,[0]),
 (111,[67,4163,67,67]),
 (112,[2,4]),
 (113,[93,69,0]),
 (114,[4109,0]),
 (115,[0]),
 (116,[135,0]),
 (117,[3087,7183,3119,68655,3087,3087,3087]),
 (118,[47,111,8303,111,111,47,41,0]),
 (119,[1,17,4,4]),
 (120,[1,4097,4,57345,122881,57361,67166209,4,57345,4]),
 (121,[63,8255,8255,8253,8249,8241,8225,8192,4096]),
 (122,[1,1025,4,8,49160,114696,49176,49160,49160,4]),
 (123,[1,9,3592,7688,3640,3592,3592,4]),
 (124,[3,4194307,16,35,469762082,1006632994,469762274,469762082,469762082,16]),
 (125,[7,263,64,64]),
 (126,[7,135,64]),
 (127,[269,781,66317,68719477517,781,4503599627371277,525,269]),
 (128,[1,4]),
 (129,[1,1,1,1,4]),
 (130,[7,64]),
 (131,[31,31,23,4,1024]),
 (132,[1,4]),
 (133,[5,37,4,12,4]),
 (134,[5,37,4,12,4]),
 (135,[5,37,4,12,4]),
 (136,[1,1]),
 (137,[28,124,252,14680316,31457532,14681084,14681596,14681340,4398061191420,14680316,14680316,2200,72057594037930136,216172782113786008,2064,4683743612465318040,2064,1180591620717411305616,2064,16]),
 (138,[28,60,124,252,7340276,15728884,7341044,275776500,7340276,7341428,7340276,7340276,2288,126100789566376144,270215977642232016,126100789566388432,9349472826421164240,126100789566376144,126100789566396624,126100789566376144,126100789566376144,16]),
 (139,[3,3,0,16]),
 (140,[7181,15373,7949,269837,7693,67116557,7181,7693,7181,7181,7181]),
 (141,[3,387,899,419,65955,16,387,16]),
 (142,[3,99,131107,4194307,3,35,35,32,16]),
 (143,[2,4]),
 (144,[15,262158,6,768,768]),
 (145,[1,1]),
 (146,[3,35,4131,16,99,524387,99,227,536871139,99,99,33,16]),
 (147,[3,35,1825,3873,1953,133025,1825,1825,1825,16]),
 (148,[99,355,867,64,4163,64,64]),
 (149,[1,1,4]),
 (150,[1,1]),
 (151,[2,4]),
 (152,[28,88,16,16]),
 (154,[3,3,2,48]),
 (155,[1,8,24,4,72,4,264,4,1032,4,4096,4,4]),
 (156,[19,0]),
 (157,[12,524,16,524300,16,16]),
 (158,[3,1027,16,35,32803,35,268435491,99,227,34359738595,227,562949953421539,227,227,33,16,16]),
 (159,[12,16]),
 (162,[3,35,99,2115,4096,16,16,8195,16,65539,16,524288,16,16]),
 (163,[7,14343,30727,14727,2111879,64,15111,15367,2147499015,64,14343,274877906944,64,64])]++[(8,[(0,[1,2]),(1,[1,2,4]),(2,[1,2,4,13]),(3,[2,3]),(4,[1,2,5,2000011]),(5,[2,5,6,2000011]),(6,[2,5,6,20,2000011]),(7,[2,3]),(8,[2,7,8,9]),(9,[2,7,8,9,29]),(10,[2,3]),(11,[2,7]),(12,[2,3])]),(12,[(0,[0,1,2,3]),(1,[0,1,2,3,49]),(2,[8,9]),(3,[0,1,2,3,10]),(4,[0,1,2,3,10,54,55]),(5,[0,1,2,3,10,54,55,56]),(6,[0,1,2,3,10,11,54,55]),(7,[0,1,2,3,10,54,55]),(8,[0,1,2,3,10,54,55]),(9,[0,1,2,3,10,12,1000015]),(10,[0,1,2,3,10,12,13,1000015]),(11,[0,2,3,10,12,13,63,64,65,1000015]),(12,[0,2,3,10,12,13,63,64,65,66,1000015]),(13,[0,2,3,10,12,13,14,15,63,64,65,1000015]),(14,[0,2,3,10,12,13,63,64,65,77,1000015]),(15,[8,9]),(16,[0,2,3,10,12,13,63,64,65,1000015]),(17,[0,2,10,12,13,16,1000015]),(18,[0,2,10,12,13,16,17,1000015]),(19,[0,2,10,12,13,16,17,88,1000015]),(20,[0,2,10,12,13,16,17,1000015]),(21,[0,2,10,12,13,16,17,18,1000015]),(22,[0,2,10,12,13,16,17,18,95,96,97,1000015]),(23,[0,2,10,12,13,16,17,18,95,96,97,98,1000015]),(24,[0,2,10,12,13,16,17,18,20,95,96,97,1000015]),(25,[0,2,10,12,13,16,17,18,95,96,97,123,1000015]),(26,[8,9]),(27,[0,2,10,12,13,16,17,18,95,96,97,1000015]),(28,[10,129]),(29,[8,9]),(30,[8,9])]),(25,[(0,[0,3,2000006]),(1,[0,3,5,2000006]),(2,[0,3,5,17,2000006]),(3,[4]),(4,[0,3,5,22,2000006]),(5,[0,3,5,2000006]),(6,[0,3,5,33,34,2000006]),(7,[0,3,5,33,34,35,2000006]),(8,[0,3,5,6,33,34,2000006]),(9,[0,3,5,6,33,34,37,38,2000006]),(10,[0,3,5,6,33,34,37,38,39,2000006]),(11,[0,3,5,6,7,33,34,37,38,2000006]),(12,[0,3,5,6,33,34,37,38,2000006]),(13,[0,3,5,6,33,34,37,38,2000006]),(14,[0,3,5,33,34,2000006]),(15,[0,5,2000006]),(16,[]),(17,[4])]),(36,[(0,[0,1,2,3,3000010]),(1,[0,1,2,3,11,3000010]),(2,[0,1,2,3,3000010]),(3,[0,1,2,3000010]),(4,[6,3000010]),(9999,[3000010])]),(65,[(0,[0]),(1,[0,3,4,1000007]),(2,[0,3,4,5,1000007]),(3,[0,3,4,5,6,1000007]),(4,[0,3,4,5,6,7,1000007]),(5,[0,3,4,5,6,7,17,18,1000007]),(6,[0,3,4,5,6,7,17,18,19,1000007]),(7,[0,3,4,5,6,7,8,17,18,1000007]),(8,[0,3,4,5,6,7,8,17,18,24,1000007]),(9,[0,3,4,5,6,7,8,17,18,1000007]),(10,[0,3,4,5,6,7,17,18,1000007]),(11,[0,3,4,5,6,7,17,18,35,1000007]),(12,[0,3,4,5,6,7,17,18,1000007]),(13,[0,3,4,5,6,7,9,17,18,1000007]),(14,[0,3,4,5,6,7,9,17,18,45,46,47,1000007]),(15,[0,3,4,5,6,7,9,17,18,45,46,47,48,1000007]),(16,[0,3,4,5,6,7,9,11,17,18,45,46,47,1000007]),(17,[0,3,4,5,6,7,9,11,17,18,45,46,47,1000007]),(18,[0,3,4,5,6,7,9,17,18,45,46,47,1000007]),(19,[0,3,4,5,6,7,9,17,18,45,46,47,1000007]),(20,[0,3,4,5,6,7,17,18,1000007]),(21,[2])]),(99,[(0,[0,1,2,8,3000010]),(1,[0,2,3000010]),(2,[3000010]),(9999,[3000010])])]
def akN:List (Nat×List (Nat×List Nat)):=SI [(3,[0,0,0,0,0,0,0,0,0,0,0,0,0,0,0,0,0,0,0,0,0,0,0,0,0,0,0,0,0,0,0,0,0,0,0,0,0,6,0,0,0,0,3848290697222,0,0,0,0,0,0,0,0,0,0,0,3848290697222,0,0,0,0,0,0,0,0,0,0,0,0,0,0,0,0,0,0,0,0,0,0,0,0,0,0,0,0,0,0,0,0,0,0,0,0,0,0,0,2562,0,0,0,0,554597137599850363154807663104,0,0,0,0,0,0,0,0,0,0,0,0,0,0,0,0,0,0,0,0,0,206848,0,0,0,37218383881977644441306597687849854976,0,0,0,0,0,0,4801171520775116132928551101732606388224,0,0,0,0,0,4801171520775116132928551101732606388224]),
 (4,[]),
 (5,[]),
 (6,[0,0,0,0,0,0,0,0,0,0,0,0,0,3,0,0,0,35,0,0,0,0,0,0,0,0,0,0,0,0,0,0,35]),
 (7,[0,0,0,0,0,0,0,0,0,0,0,0,0,0,0,0,0,0,0,0,0,86,0,0,0,0,0,0,0,0,0,86,0,0,0,0,60129542230,0,0,0,0,0,0,60129542230,0,0,0,0,0,0,0,0,0,0,0,0,0,108086391056893010,0,0,0,0,0,0,0,32389888520048614482]),
 (9,[0,0,0,0,0,0,0,6]),
 (10,[0,0,0,0,0,0,0,0,0,0,0,3,0,0,0,0,0,114720]),
 (11,[0,0,0,0,0,0,0,0,0,0,0,0,0,0,0,0,0,0,0,3,0,0,0,0,0,0,0,0,0,3,0,0,0,0,0,0,51539607683,0,0,0,0,0,0,0,0,30786325577859,0,0,0,0,0,0,0,0,0,0,0,0,0,30786325579395,0,0,0,0,0,0,0,0,0,0,0,2066035336255469783171,0,0,0,0,0,0,0,0,0,0,0,0,16927027509941063915681923,0,0,0,0,0,0,0,0,0,0,0,0,0,0,0,0,0,0,0,0,0,0,0,0,0,0,16927027509941063915681923]),
 (13,[0,0,0,0,0,0,0,0,0,0,0,0,0,0,0,0,0,6,0,0,0,0,0,0,14680192,0,0,0,0,0,0,0,0,0,15032386560,0,0,0,15032386560]),
 (14,[0,0,0,0,0,0,0,0,0,0,0,0,0,0,10,0,10,0,0,0,0,0,0,0,0,0,0,0,0,0,0,0,0,0,0,0,10,0,0,0,0,1924145348618,0,0,0,0,0,0,1924145348650,0,0,0,3942573819297802,0,0,0,0,0,0,0,0,3942573819297802]),
 (15,[0,0,0,0,0,0,0,0,0,0,0,0,0,22,0,0,0,0,0,0,0,0,144,0,0,0,144]),
 (16,[]),
 (17,[]),
 (18,[0,0,0,0,0,0,0,6]),
 (19,[0,0,0,0,0,0,0,0,0,0,0,0,0,0,6]),
 (20,[]),
 (21,[0,0,0,0,0,0,0,0,6]),
 (22,[0,0,0,0,0,0,0,0,0,0,0,0,0,0,0,0,3,0,0,0,786435,0,0,0,0,0,0,0,0,0,0,0,0,0,786435]),
 (23,[0,0,0,0,0,0,0,0,0,0,0,0,0,0,0,0,0,0,0,0,0,0,0,0,0,0,0,0,14,0,0,0,3221225486]),
 (24,[0,0,0,0,0,0,0,0,0,0,0,0,0,0,0,2,0,0,0,0,10,0,0,0,0,0,0,0,0,0,0,0,0,0,0,0,10,0,0,0,0,1924145348618,0,0,0,0,0,0,1924145348650,0,0,0,3942573819297802,0,0,0,0,0,0,0,0,3942573819297802]),
 (26,[0,0,0,0,0,0,0,0,0,0,0,0,0,0,0,0,0,0,0,0,0,0,0,0,0,0,0,37,0,0,0,0,0,0,165,0,0,0,0,0,0,0,0,0,0,0,0,0,0,0,0,0,0,0,0,933,0,0,0,0,0,0,0,0,0,0,0,0,0,0,0,0,0,0,0,0,0,0,0,0,0,0,0,0,0,0,0,0,0,541598767187353870268367269,0,0,0,0,0,0,0,0,0,0,0,0,0,0,0,0,0,0,0,0,0,0,0,0,0,0,0,0,0,541598767187353870268372389,0,0,0,0,0,0,0,0,0,0,0,0,0,0,0,0,0,0,0,0,0,0,0,0,0,0,0,0,0,0,0,0,0,0,0,0,0,0,0,0,0,0,0,0,0,40922045845265281709703175316055924550366111211940,0,0,0,0,0,0,0,0,0,0,0,0,335274321610258453047598115364446189841149549088924068]),
 (27,[0,0,0,0,0,0,0,0,0,2,0,0,0,0,0,0,0,0,0,0,0,0,0,0,0,0,10,0,0,0,0,1879048202,0,0,0,0,0,0,0,0,0,0,1879048202,0,0,0,0,0,0,0,0,0,0,0,0,0,0,0,0,0,0,0,0,0,0,0,0,0,0,0,0,0,0,0]),
 (28,[0,0,0,0,0,0,0,0,0,0,0,6,0,0,0,24614]),
 (29,[]),
 (30,[]),
 (31,[0,0,0,0,0,0,0,0,0,0,0,0,0,0,3,0,0,0,0,0,0,0,0,0,0,0,0,0,0,0,0,0,0,0,0,0,0,0,0,51,0,0,0,0,51,0,0,0,0,0,0,0,0,0,0,0,0,0,0,0,0,0,0,0,0,0,0,0,0,516508834063867445299]),
 (32,[]),
 (33,[0,0,0,0,0,0,0,1,0,0,0,0,0,0]),
 (34,[0,0,0,0,0,0,0,0,0,0,897,0,0,0,0,0,0,0,0,0,897]),
 (35,[0,0,0,0,0,0,0,0,0,0,898,0,0,0,0,0,0,0,0,898]),
 (37,[]),
 (38,[0,0,0,0,0,0,0,0,0,0,6,0,0,6,0,0,0,0]),
 (39,[]),
 (40,[0,0,0,0,0,6]),
 (41,[]),
 (42,[0,0,0,0,0,0,0,0,0,0,0,0,0,0,0,0,0,0,196617,0,0,0,0,0,0,0,0,0,0,0,0,0,0,0,0,0,0,0,196665,0,0,0,0,0,0,0,0,0,0,0,0,196761,0,0,0,0,0,0,196665]),
 (43,[0,0,0,0,0,0,0,0,0,0,0,0,0,0,0,0,0,0,0,0,0,0,0,0,14680076]),
 (44,[0,0,0,0,0,0,0,0,0,0,0,0,0,0,0,0,0,0,0,0,0,0,0,0,0,0,0,0,0,0,0,1879048438,0,0,0,0,0,0,0,1879048694,0,0,0,0,0,0,0,0,0,0,985164297537014,0,0,0,0,0,0,0,0,0,0,0,0,0,0,0,0,0,0,0,0,0,0,0,0,0,0,0,0,0,0,0,0,0,0,0,0,0,0,0,1083197534374707740536791108,0,0,0,0,0,0,0,1083197534374707740536791108]),
 (45,[]),
 (46,[]),
 (47,[]),
 (48,[0,0,0,0,0,0,0,0,0,0,28,0,0,0,0,0,0,28,0,0,0,0,0,0,0,0,67109404,0,0,0,0,0,0,28]),
 (49,[]),
 (50,[0,0,0,0,0,0,0,0,0,0,0,0,0,0,0,0,80,0,0,0,0,80,0,0,0,80]),
 (52,[]),
 (53,[]),
 (54,[0,0,0,0,0,0,0,0,0,0,0,0,0,0,0,0,0,0,0,0,0,0,0,0,10,0,0,0,0,0,0,0,0,0,0,0,0,0,0,0,0,0,0,0,0,0,0,0,0,0,0,10,0,0,0,0,63050394783186954,0,0,0,0,0,0,0,0,0,0,0,63050394783186954]),
 (55,[0,0,0,0,0,0,0,0,0,0,0,0,0,0,0,0,0,0,0,0,0,0,3670030,0,0,0,0,0,0,0,0,0,0,0,0,0,0,120262754366]),
 (56,[0,0,0,0,0,0,0,0,0,0,3,0,0,0,12291,0,0,0,0,0,0,0,0,0,12291]),
 (57,[0,0,0,0,0,0,0,0,0,0,3,0,0,0,12291,0,0,0,0,0,0,0,0,0,12291]),
 (58,[0,0,0,0,0,0,0,0,0,0,3,0,0,0,12291,0,0,0,0,0,0,0,0,0,12291]),
 (59,[]),
 (60,[0,0,0,0,0,0,0,0,0,0,0,0]),
 (61,[0,0,0,0,0,0,0,0,0,0,0,0,0,0,0,0,0,0,0,0,0,0,0,1807,0,0,0,0,0,1807,0,0,0,0,0,1807,0,0,0,0,0,0,0,0,0,0,0,0,0,0,7951,0,0,0,0,0,0,0,0,0,0,0,0,0,0,0,0,0,3855,0,0,0,3855,0,0,0,0,0,0,0,0,0,0,0,0,0,0,3087,0,0,0,0,0,0,0,0,0,0,0,0,0,0,0,0,0,0,0,0,0,0,0,0,0,783]),
 (62,[]),
 (63,[0,0,0,0,0,0,0,0,0,1,0,0,1,0,0,0,57345,0,0,0,0,0,0,57361,0,0,0,117497857,0,0,0,0,0,0,0,0,0,117497857]),
 (64,[0,0,0,0,0,0,0,0,0,0,0,0,0,0,0,0,0,0,0,458785,0,0,0,0,0,458913,0,0,0,0,0,0,3758555297,0,0,0,0,0,0,0,0,0,0,0,0,0,0,0,246294363178657,0,0,0,0,0,0,0,0,0,0,0,246294363178657]),
 (66,[0,0,0,0,0,0,0,0,0,0,0,0,0,0,0,0,0,0,0,0,0,0,7,0,0,0,58720262,0,0,0,0,0,0,7574913158,0,0,0,0,0,0,0,0,0,0,0,0,0,0,0,0,0,0,0,0,7574913158]),
 (67,[]),
 (68,[0,0,0,0,0,0,0,0,0,6,0,0,0,0,0,0,0,0,0,0,0,0,0,0,0,0,0,6,0,0,1610612742,0,0,0,0,0,0,137975824390,0,0,0,0,0,0,6,35184372088838,0,0,0,0,0,6,0,0,0,0,63050394783186946,0,0,0,0,0,63050394783186946]),
 (69,[]),
 (70,[0,0,0,0,0,0,0,0,0,6,0,0,0,0,0,0,0,0,0,0,0,0,0,7340046]),
 (71,[]),
 (72,[0,0,0,0,0,0,2]),
 (73,[0,0,0,0,0,0,0,194,0,0,0,0,0,0,0,32834,0,0,0,0,0,0,3670016,0,0,0,0,3670016,0,0]),
 (74,[0,0,0,0,0,0,0,0,0,0,0,0,0,6,0,0,0,0,0,0,0,0,0,0,0,0,0,0,0,0,0,0,0,6442451124,0,0,0,0,0,0,0,0,3848290697364]),
 (75,[0,0,0,0,0,0,0,0,0,0,0,0,0,0,0,0,0,0,2,0,0,0,0,0,0,0,0,117440538,0,0,0,0,0,0,0,0,117440538,0,0,0,0,0,0,0,0,0,0,0,0,492581209244058,0,0,0,0,0,0,0,0,0,0,0,2018105214271228826,0,0,0,0,0,0,0,0,0,0,0,0,0,0,0,0,0,0,492581209260954,0,0,0,0,0,0,0,0,0,0,0,0,0,386]),
 (76,[0,0,0,0,0,0,0,0,0,0,0,0,0,0,0,0,0,0,0,0,0,0,0,7340172]),
 (77,[0,0,0,0,0,0,0,0,0,0,0,0,0,0,0,0,0,0,0,0,0,0,0,0,0,0,0,0,920,0,0,0,0,0,0,0,0,0,0,0,0,0,0,0,0,0,0,0,7432]),
 (78,[0,0,0,0,0,0,0,0,0,0,0,0,0,0,0,0,0,0,0,0,0,0,0,7340188]),
 (79,[]),
 (80,[0,0,0,0,0,0,0,0,0,450,0,0,0,0,498]),
 (81,[0,0,0,0,0,0,0,0,0,0,0,0,0,0,0,0,0,0,0,0,0]),
 (82,[0,0,0,0,0,0,0,0,0,0,0,0,0,0,0,0,0,0,0,0,0,0,3,0,0,0,0,0,0,0,0,0,0,0,0,0,0,0,0,0,0,0,3848290697282,0,0,0,0,0,0,0,0,0,0,0,0,0,0,3848290697538,0,0,0,0,0,0,0,0,0,0,0,0,0,0,576,0,0,0,0,0,0,0,0,0,0,0,0,0,0,0,270799383593676935134184000,0,0,0,0,0,0,0,0,0,0,0,0,0,0,0,0,0,270799383593676935134192192]),
 (83,[]),
 (84,[0,0,0,0,0,0,0,0,0,0,0,0,0,0,0,0,0,0,0,0,0,0,0,0,0,0,0,0,0,0,939524121,0,0,0,0,0,0,0,0,0,0,0,0,0,0,0,0,0,0,0,0,0,0,0,0,0,0,0,0,0,0,0,0,0,0,0,939524409,0,0,0,0,0,0,0,0,0,0,0,939524409,0,0,0,0,0,0,0,0,0,0,0,0,0,0,0,0,0,0,939524409]),
 (85,[0,0,0,0,0,0,0,0,0,387,0,0,0,0,0,0,387]),
 (86,[0,0,0,0,0,0,0,0,0,0,898,0,0,0,0,0,0,0,0,898]),
 (88,[0,0,0,0,0,0,0,0,0,0,0,0,71,0,0,0,0,0,0,0,0,0,0,0,0,0,0,0,0,0,199]),
 (89,[0,0,0,0,0,0,0,0,0,0,0,0,0,0,0,0,0,0,0,961,0,0,0,0,0,0,0,0,0,0,1217]),
 (90,[0,0,0,0,0,0,0,0,0,0,0,0,0,0,0,0,0,0,0,0,0,0,0,0,0,0,0,0,0,0,0,0,0,963,0,0,0,0,0,0,0,0,0,1987]),
 (91,[0,0,0,0,0,0,0,0,0,0,0,0,0,0,0,0,0,0,0,0,0,0,0,0,0,0,0,0,0,0,0,0,2560,0,7681,0,0,0,0,0,0,0,0,0,0,0,0,0,0,0,0,192,0,0,192]),
 (92,[0,0,0,0,0,0,0,0,0,0,0,0,0,193]),
 (93,[0,0,0,0,0,0,0,0,0,0,0,0,0,0,391,0,0,0,0,0,0,0,0,0,0,0,0,0,0,0,0,0,391,0,0,0,0,391,0,0,0,391,0,0,0,0,0,0,0,0,0,0,0,0,0,0,0,0,0,0,0,391,0,0,0,903,0,0,0,0,0,0,0,0,0,0,0,0,903,0,0,0,0,0,0,0,0,0,0,0,0,0,0,0,0,0,0,0,391,0,0,0,0,1415,0,0,0,0,0,0,0,0,0,0,0,0,1415]),
 (94,[]),
 (95,[0,0,0,0,0,0,0,0,0,0,0,0,0,0,0,0,0,0,0,0,0,0,0,0,0,0,0,0,0,0,0,0,0,0,0,0,0,0,0,0,0,0,0,1539,0,0,0,0,0,0,0,0,0,0,0,0,0,0,0,1539,0,0,0,0,1539]),
 (96,[0,0,0,0,0,0,0,0,0,0,0,0,0,0,0,0,0,0,0,0,0,0,0,0,0,0,0,0,0,0,0,0,0,0,0,0,0,0,0,0,0,0,0,3075,0,0,0,0,0,0,0,0,0,0,0,0,0,0,0,0,3075,0,0,0,0,3075,0,0,0,0,0,0,0,0,0,0,0,0,0,0,0,0,0,0,0,0,0,0,0,0,0,0,0,0,0,0,0,0,0,0,0,0,0,0,0,0,0,0,0,0,0,0,3075,0,0,0,0,0,0,0,0,0,0,0,0,0,0,0,0,3075,0,0,0,0,3075]),
 (98,[0,0,0,0,5,0,0,0,5,0,0,0,0,0,5]),
 (100,[0,0,0,0,0,0,0,0,0,0,0,0,0,0,0,0,14,0,0,0,0,0,0,0,0,0,58720262,0,0,0,0,0,0,0,58720262]),
 (101,[0,0,0,0,0,0,0,19,0,0,0,19,0,0,0,19,0,0,0,0,0,19,0,0,0,0,0,16,0,0,0,0,0,0,0,0,0,48,0,0,0,0,0,0,0,16,0,48,0,0,0,0,0,0,0,0,0,48]),
 (102,[0,0,0,0,0,0,0,6]),
 (103,[0,0,0,0,0,0,0,0,0,0,0,0,0,48,0,0,0,0,48,0,0,0,0,0,56,0,0,0,0,0,0,2147487804,0,0,0,0,0,0,48,0,0,0,0,0,0,0,0,0,0,0,0,0,0,0,0,0,0,48]),
 (104,[0,0,0,0,0,0,0,0,0,0,0,0,0,0,0,0,0,0,0,0,0,0,0,0,0,0,0,0,0,0,0,0,0,0,0,0,0,0,0,0,0,0,0,0,0,0,0,0,0]),
 (105,[]),
 (106,[]),
 (107,[0,0,0,0,0,0,0,0,0,0,0,0,0,0,0,0,0,0,0,0,0,0,0,0,0,14605,0,0,0,0,0,0,0,0,0,0,0,0,206158493965,0,0,0,0,0,0,0,0,0,0,0,0,0,63757]),
 (108,[]),
 (109,[]),
 (110,[]),
 (111,[0,0,0,0,0,0,0,0,0,0,0,0,67]),
 (112,[]),
 (113,[]),
 (114,[0,0,0,0,0,0,0,0,0,0,0,0,0]),
 (115,[]),
 (116,[0,0,0,0,0,0,0,0]),
 (117,[0,0,0,0,0,0,0,0,0,0,0,0,3087,0,0,0,3087]),
 (118,[0,0,0,0,0,0,0,0,0,0,0,0,0,111]),
 (119,[0,0,0,0,1]),
 (120,[0,0,0,0,0,0,0,0,0,0,0,0,1,0,0,0,57345,0,0,0,0,0,0,0,0,0,57345]),
 (121,[]),
 (122,[0,0,0,0,0,0,0,0,0,0,1,0,0,0,0,0,49160]),
 (123,[0,0,0,0,0,0,0,0,0,0,0,0,3592]),
 (124,[0,0,0,0,0,0,0,0,0,0,0,0,0,0,0,0,0,0,0,0,0,0,3,0,0,0,0,0,0,469762082]),
 (125,[0,0,0,0,0,0,0,0,7]),
 (126,[]),
 (127,[0,0,0,0,0,0,0,0,0,0,0,0,0,0,0,0,781,0,0,0,0,0,0,0,0,0,0,0,0,0,0,0,0,0,0,0,781,0,0,0,0,0,0,0,0,0,0,0,0,0,0,0,781]),
 (128,[]),
 (129,[]),
 (130,[]),
 (131,[]),
 (132,[]),
 (133,[0,0,0,0,0,5]),
 (134,[0,0,0,0,0,5]),
 (135,[0,0,0,0,0,5]),
 (136,[]),
 (137,[0,0,0,0,0,0,0,0,0,0,0,0,0,0,0,0,0,0,0,0,0,0,0,0,14680316,0,0,0,0,0,0,0,0,0,0,0,0,0,0,0,0,0,14680316,0,0,0,0,0,0,0,0,0,0,0,0,0,0,2064,0,0,0,0,2064,0,0,0,0,0,0,0,2064]),
 (138,[0,0,0,0,0,0,0,0,0,0,0,0,0,0,0,0,0,0,0,0,0,0,0,7340276,0,0,0,0,7340916,0,0,0,0,0,0,0,0,0,0,0,0,0,0,0,0,0,0,0,0,0,0,0,0,0,0,0,0,126100789566376144,0,0,0,0,0,126100789566388432]),
 (139,[]),
 (140,[0,0,0,0,0,0,0,0,0,0,0,0,0,7181,0,0,0,0,7693,0,0,0,0,0,0,0,7693]),
 (141,[0,0,0,0,0,0,0,0,0,387,0,0,0,0,0,0,387]),
 (142,[0,0,0,0,0,0,0,0,0,0,0,0,0,0,0,0,0,32,0,0,0,0,3]),
 (143,[]),
 (144,[0,0,0,0,0,0,0,0,0,0,0,0,0,0,0,0,0,0,6]),
 (145,[]),
 (146,[0,0,0,0,0,0,0,0,0,0,0,0,35,0,0,0,0,0,0,99,0,0,0,0,0,0,0,0,0,99]),
 (147,[0,0,0,0,0,0,0,0,0,0,0,1825,0,0,0,0,0,1825]),
 (148,[0,0,0,0,0,0,0,0,0,67,0,0,67]),
 (149,[]),
 (150,[]),
 (151,[]),
 (152,[0,0,0,0,0,0,24]),
 (154,[]),
 (155,[0,0,0,0,0,0,0,0,0,0,0,0,0]),
 (156,[]),
 (157,[0,0,0,0,0,0,0,0,0,12,0,0,0,0,0,0,0,0,0,12]),
 (158,[0,0,0,0,0,0,0,0,0,0,3,0,0,0,0,35,0,0,0,0,0,0,0,0,0,0,0,0,35,0,0,0,0,0,0,227,0,0,0,0,0,0,0,0,0,0,0,0,0,227]),
 (159,[]),
 (162,[0,0,0,0,0,0,0,0,0,0,0,67,0,3,0,0,3,0,0,0]),
 (163,[0,0,0,0,0,0,0,0,0,0,0,0,0,0,14343,0,0,0,0,0,0,14727,0,0,0,0,0,0,0,0,0,14343,0,0,0,0,0,0,0])]++[(8,[(13,[1,2]),(20,[2,5,2000011]),(29,[2,7,8])]),(12,[(49,[0,1,2,3]),(56,[0,1,2,3,10,54,55]),(66,[0,2,3,10,12,13,63,64,65,1000015]),(77,[0,2,3,10,12,13,63,64,65,1000015]),(88,[0,2,10,12,13,16,17,1000015]),(98,[0,2,10,12,13,16,17,18,95,96,97,1000015]),(123,[0,2,10,12,13,16,17,18,95,96,97,1000015]),(129,[10])]),(25,[(17,[0,3,5,2000006]),(22,[0,3,5,2000006]),(35,[0,3,5,33,34,2000006]),(39,[0,3,5,6,33,34,37,38,2000006])]),(36,[(11,[0,1,2,3000010])]),(65,[(19,[0,3,4,5,6,7,17,18,1000007]),(24,[0,3,4,5,6,7,8,17,18,1000007]),(35,[0,3,4,5,6,7,17,18,1000007]),(48,[0,3,4,5,6,7,9,17,18,45,46,47,1000007])]),(99,[(8,[3000010])])]
def akO:List (Nat×List (Nat×List Nat)):=SI [(3,[6,3848290697222,10752,554597137599850363154807663104,141312,37218383881977644441306597687849854976,37218383881977644441306597687849854976,4801171520775116132928551101732606388224]),
 (4,[]),
 (5,[]),
 (6,[0,35]),
 (7,[82,60129542230,1040,108086391056893010,108086391056897106,32389888520048614482]),
 (8,[]),
 (9,[]),
 (10,[32,114720]),
 (11,[131,51539607683,131,30786325577859,2048,2066035336255469783171,2066035336255469783171,16927027509941063915681923]),
 (13,[128,14680192,1024,15032386560]),
 (14,[0,1924145348618,1924145348618,3942573819297802]),
 (15,[144,144]),
 (16,[]),
 (17,[]),
 (18,[]),
 (19,[]),
 (20,[]),
 (21,[]),
 (22,[0,786435]),
 (23,[2,3221225486]),
 (24,[0,1924145348618,1924145348618,3942573819297802]),
 (26,[421,933,421,541598767187353870268367269,541598767187353870268367269,541598767187353870268372389,8452,40922045845265281709703175316055924550366111211940,40922045845265281709703175316055924550366111211940,335274321610258453047598115364446189841149549088924068]),
 (27,[10,1879048202]),
 (28,[32,24614]),
 (29,[]),
 (30,[]),
 (31,[0,51,51,516508834063867445299]),
 (32,[]),
 (33,[]),
 (34,[0,897]),
 (35,[0,898]),
 (36,[]),
 (37,[]),
 (38,[]),
 (39,[]),
 (40,[]),
 (41,[]),
 (42,[9,196617]),
 (43,[12,14680076]),
 (44,[228,1879048438,1879049718,985164297537014,40964,1083197534374707740536791108]),
 (45,[]),
 (46,[]),
 (47,[]),
 (48,[28]),
 (49,[]),
 (50,[80,80]),
 (52,[]),
 (53,[]),
 (54,[10,63050394783186954]),
 (55,[12,3670030,3670030,120262754366]),
 (56,[0,12291]),
 (57,[0,12291]),
 (58,[0,12291]),
 (59,[]),
 (60,[]),
 (61,[0,783]),
 (62,[]),
 (63,[0,57345,57345,117497857]),
 (64,[0,458785,458785,3758555297,3758555297,246294363178657]),
 (66,[0,58720262,58720262,7574913158]),
 (67,[]),
 (68,[6,0,63050394783186946]),
 (69,[]),
 (70,[14,7340046]),
 (71,[]),
 (72,[]),
 (73,[0,0,3670016]),
 (74,[180,6442451124,148,3848290697364]),
 (75,[26,117440538,4,26,402,492581209244058,492581209246618,2018105214271228826]),
 (76,[128,7340172]),
 (77,[408,920,2048,7432]),
 (78,[128,7340188]),
 (79,[]),
 (80,[0,450,450,498]),
 (81,[0]),
 (82,[66,3848290697282,64,270799383593676935134184000]),
 (83,[]),
 (84,[17,939524121,939524409]),
 (85,[0,387]),
 (86,[0,898]),
 (88,[0,71,71,199]),
 (89,[449,961,0,1217]),
 (90,[0,963]),
 (91,[192]),
 (92,[0,193]),
 (93,[0,391,391,391,391,903,391,1415]),
 (94,[]),
 (95,[512,1539,1539,1539,1539,1539]),
 (96,[3075,3075,3075,3075,2051,3075,3075,3075,3075,3075]),
 (98,[]),
 (99,[]),
 (100,[0,58720262]),
 (101,[19,16,48]),
 (102,[]),
 (103,[48]),
 (104,[0]),
 (105,[]),
 (106,[]),
 (107,[6400,14605,63757,206158493965]),
 (108,[]),
 (109,[]),
 (110,[]),
 (111,[0,67]),
 (112,[]),
 (113,[]),
 (114,[]),
 (115,[]),
 (116,[]),
 (117,[0,3087]),
 (118,[47,111]),
 (119,[]),
 (120,[0,57345]),
 (121,[]),
 (122,[8,49160]),
 (123,[8,3592]),
 (124,[32,469762082]),
 (125,[]),
 (126,[]),
 (127,[0,269]),
 (128,[]),
 (129,[]),
 (130,[]),
 (131,[]),
 (132,[]),
 (133,[]),
 (134,[]),
 (135,[]),
 (136,[]),
 (137,[248,14680316,2064]),
 (138,[240,7340276,2256,126100789566376144]),
 (139,[]),
 (140,[0,7181]),
 (141,[0,387]),
 (142,[]),
 (143,[]),
 (144,[]),
 (145,[]),
 (146,[33,99]),
 (147,[32,1825]),
 (148,[67]),
 (149,[]),
 (150,[]),
 (151,[]),
 (152,[]),
 (154,[]),
 (155,[0]),
 (156,[]),
 (157,[]),
 (158,[1,35,33,227]),
 (159,[]),
 (162,[]),
 (163,[3,14343])]++[(12,[(0,[0,1,2,3,10]),(1,[0,1,2,3,10,54,55]),(2,[0,2,10,12,13,1000015]),(3,[0,2,3,10,12,13,63,64,65,1000015]),(4,[0,10,12,1000015]),(5,[0,2,10,12,13,16,17,1000015]),(6,[0,2,10,12,13,16,17,1000015]),(7,[0,2,10,12,13,16,17,18,95,96,97,1000015])]),(25,[(0,[0,3,5,2000006]),(1,[0,3,5,33,34,2000006]),(2,[0,3,5,33,34,2000006]),(3,[0,3,5,6,33,34,37,38,2000006])]),(65,[(0,[3]),(1,[0,3,4,5,6,7,17,18,1000007]),(2,[0,3,4,5,6,7,17,18,1000007]),(3,[0,3,4,5,6,7,17,18,1000007]),(4,[0,3,4,5,6,7,17,18,1000007]),(5,[0,3,4,5,6,7,9,17,18,45,46,47,1000007])])]
def akP:List (Nat×List (Nat×List Nat)):=[(12,[(10,[12]),(18,[16,1000019])]),
 (25,[(3,[2000006])]),
 (65,[(2,[4]),(14,[45,1000048])])]
def akQ:List (Nat×List Nat):=[(8,[0]),
 (11,[0]),
 (26,[0,1]),
 (40,[0]),
 (70,[0]),
 (101,[0]),
 (102,[0]),
 (103,[0]),
 (133,[0]),
 (134,[0]),
 (135,[0])]
def akR:List (Nat×List (Nat×List (Nat×Nat))):=[(3,[(1,[(1,4)]),(2,[(0,5)]),(6,[(7,6)]),(7,[(0,5)]),(9,[(2,7)]),(10,[(1,8)]),(11,[(1,8)]),(18,[(3,9)]),(20,[(3,10)]),(21,[(3,11)]),(34,[(8,12)]),(35,[(6,13),(14,5)])]),
 (4,[(1,[(12,14)])]),
 (5,[(1,[(0,17),(1,17),(3,16),(5,16),(6,15)]),(2,[(4,18),(10,17),(11,19)])]),
 (6,[(1,[(1,20)])]),
 (7,[(1,[(1,21)]),(9,[(3,22)]),(20,[(5,23)]),(24,[(1,18)])]),
 (8,[(1,[(1,24)]),(5,[(1,18),(2,25)]),(8,[(0,26)])]),
 (9,[(1,[(1,27)]),(3,[(2,28)])]),
 (10,[(1,[(2,29)]),(3,[(1,30)]),(7,[(2,31)]),(9,[(4,32)])]),
 (11,[(1,[(1,33)]),(4,[(6,34)])]),
 (12,[(1,[(7,33),(12,33),(19,35),(26,35)]),(14,[(6,36)]),(25,[(21,36)])]),
 (13,[(1,[(3,37)])]),
 (14,[(2,[(2,20)])]),
 (15,[(1,[(2,38)]),(4,[(1,40),(3,39)]),(5,[(1,41)]),(6,[(1,42)]),(9,[(1,43)])]),
 (18,[(1,[(1,24)]),(3,[(1,44)])]),
 (19,[(1,[(1,45),(5,22)]),(4,[(1,46)]),(5,[(1,47)]),(6,[(3,48),(8,49)])]),
 (21,[(1,[(1,24)]),(4,[(1,18)])]),
 (23,[(1,[(1,24),(18,22)])]),
 (26,[(1,[(4,50)]),(16,[(8,52)]),(32,[(7,53)])]),
 (27,[(1,[(1,54)]),(3,[(1,55),(2,8)]),(9,[(6,56)]),(12,[(4,57),(11,56),(19,58),(27,58)])]),
 (28,[(1,[(3,22)])]),
 (29,[(1,[(2,34),(5,59)])]),
 (31,[(3,[(2,60)]),(8,[(17,60)]),(12,[(17,60)])]),
 (32,[(1,[(4,62),(5,61)])]),
 (33,[(1,[(1,63)]),(4,[(2,65),(3,64)])]),
 (37,[(1,[(7,33),(12,33),(19,66)])]),
 (38,[(3,[(1,67)]),(5,[(2,68)])]),
 (39,[(3,[(2,69)])]),
 (40,[(1,[(1,45)]),(3,[(1,70)])]),
 (42,[(5,[(13,71)]),(8,[(5,72)]),(12,[(2,69)])]),
 (43,[(5,[(3,73)])]),
 (44,[(1,[(1,74)]),(2,[(1,75)]),(17,[(1,74)])]),
 (45,[(1,[(1,38)])]),
 (48,[(3,[(4,76)]),(5,[(6,77)]),(8,[(3,78)]),(10,[(6,79)]),(12,[(2,80)])]),
 (50,[(1,[(2,82)]),(4,[(1,83)]),(5,[(1,84)])]),
 (52,[(1,[(2,85)])]),
 (54,[(9,[(7,86)]),(12,[(3,86)])]),
 (59,[(1,[(1,33)])]),
 (61,[(4,[(3,88)]),(6,[(3,89)]),(8,[(3,90)]),(10,[(3,91)]),(12,[(3,92)]),(16,[(3,93)]),(17,[(12,94)]),(18,[(4,95)]),(20,[(4,96)]),(26,[(4,61)]),(29,[(5,61)])]),
 (62,[(2,[(1,98)])]),
 (65,[(10,[(2,99)]),(17,[(8,99)]),(18,[(8,99)])]),
 (66,[(1,[(9,35)])]),
 (67,[(2,[(1,100)])]),
 (68,[(22,[(2,68)])]),
 (69,[(2,[(5,72)])]),
 (70,[(7,[(3,70)]),(9,[(3,101)])]),
 (71,[(1,[(3,103),(4,102)])]),
 (72,[(1,[(1,45)]),(4,[(1,104)]),(5,[(0,105)])]),
 (73,[(6,[(2,211)]),(12,[(1,73)]),(17,[(9,73)])]),
 (74,[(1,[(1,24)]),(3,[(6,107)])]),
 (75,[(1,[(1,24)])]),
 (76,[(1,[(5,48)]),(5,[(1,46)]),(6,[(2,208)]),(7,[(3,48)]),(8,[(5,112)]),(9,[(2,209)])]),
 (77,[(1,[(1,46)]),(2,[(2,200)]),(6,[(2,47)]),(7,[(3,48)]),(12,[(1,46)]),(13,[(2,47)]),(14,[(5,207)])]),
 (78,[(1,[(6,48)]),(5,[(3,48)]),(6,[(2,206)])]),
 (79,[(1,[(3,48)]),(3,[(2,205)])]),
 (80,[(5,[(4,119),(6,81)])]),
 (81,[(0,[(3,46)]),(2,[(5,204)]),(4,[(6,204)])]),
 (82,[(8,[(10,120)]),(14,[(6,122),(7,121)]),(19,[(5,123)]),(22,[(7,121)])]),
 (84,[(6,[(9,124)]),(7,[(5,123)]),(12,[(14,125),(15,121)]),(13,[(18,126)])]),
 (88,[(4,[(13,94)])]),
 (89,[(6,[(4,127)]),(11,[(4,127)])]),
 (90,[(3,[(1,128)]),(7,[(0,129)])]),
 (91,[(8,[(2,130)]),(9,[(2,130)]),(10,[(2,130)]),(11,[(4,131)])]),
 (93,[(5,[(13,94)]),(16,[(9,94)]),(22,[(9,94)])]),
 (94,[(1,[(1,132),(4,132)])]),
 (95,[(3,[(12,94)]),(5,[(12,94)])]),
 (96,[(3,[(12,94)]),(5,[(12,94)]),(13,[(12,94)]),(15,[(12,94)])]),
 (100,[(7,[(4,100)])]),
 (101,[(3,[(1,133)]),(5,[(1,134)]),(7,[(1,135)]),(18,[(0,136)]),(19,[(5,112)])]),
 (102,[(1,[(2,38)])]),
 (103,[(12,[(2,137)]),(14,[(5,103)]),(15,[(3,101)]),(16,[(4,101)]),(18,[(2,138)])]),
 (104,[(3,[(1,139)]),(5,[(1,139)]),(7,[(5,139)]),(9,[(3,140)]),(11,[(3,140)]),(13,[(3,140)]),(15,[(1,139)]),(16,[(3,140)]),(18,[(3,140)]),(19,[(1,139)])]),
 (106,[(1,[(2,141)])]),
 (107,[(2,[(1,142)]),(12,[(5,108),(6,197)]),(17,[(4,109)])]),
 (110,[(0,[(6,111)])]),
 (112,[(1,[(14,143)])]),
 (113,[(0,[(1,46)]),(1,[(5,210)])]),
 (114,[(0,[(5,49)]),(1,[(6,111)])]),
 (116,[(0,[(2,49)]),(1,[(6,111)])]),
 (118,[(0,[(1,46)])]),
 (121,[(2,[(5,123)])]),
 (124,[(1,[(7,120),(12,120)])]),
 (126,[(1,[(3,125)])]),
 (127,[(3,[(18,94)]),(5,[(12,94)])]),
 (128,[(1,[(2,62)])]),
 (130,[(1,[(7,131)])]),
 (131,[(1,[(4,144)]),(2,[(4,144)]),(3,[(4,144)])]),
 (133,[(1,[(1,198)]),(2,[(0,145)]),(3,[(1,147),(2,203)]),(4,[(1,149),(2,150),(3,148)])]),
 (134,[(1,[(1,106)]),(2,[(0,150)]),(3,[(1,147),(2,201)]),(4,[(1,136),(2,148)])]),
 (135,[(1,[(1,106)]),(2,[(0,150)]),(3,[(1,147),(2,146)]),(4,[(1,149),(2,145),(3,148)])]),
 (137,[(6,[(2,103)]),(11,[(3,101),(7,101)])]),
 (138,[(8,[(4,152)]),(9,[(2,103)]),(19,[(3,101)]),(21,[(1,101),(3,101)])]),
 (140,[(4,[(2,154)]),(5,[(2,155)]),(6,[(2,104)]),(7,[(1,139)]),(8,[(2,104)]),(9,[(1,139)])]),
 (141,[(4,[(5,143)])]),
 (144,[(1,[(8,94)])]),
 (145,[(1,[(0,150)])]),
 (146,[(1,[(2,199)]),(8,[(2,112)])]),
 (149,[(1,[(1,156)]),(2,[(1,158)])]),
 (152,[(3,[(1,70)])]),
 (156,[(1,[(4,62),(6,161)])]),
 (157,[(2,[(4,162)]),(4,[(4,162)]),(5,[(4,163)])]),
 (158,[(6,[(10,159)]),(11,[(10,159)])]),
 (159,[(1,[(2,157)])]),
 (162,[(1,[(1,132)]),(2,[(1,132)])]),
 (163,[(7,[(3,157)])]),
 (198,[(1,[(2,199)])]),
 (199,[(4,[(5,112)])]),
 (200,[(5,[(4,119),(6,115)])]),
 (201,[(1,[(2,202)]),(8,[(2,151)])]),
 (202,[(4,[(5,151)])]),
 (203,[(1,[(2,141)]),(8,[(2,143)])]),
 (205,[(5,[(4,119),(6,118)])]),
 (206,[(5,[(4,119),(6,117)])]),
 (207,[(5,[(4,119),(6,116)])]),
 (208,[(5,[(4,119),(6,110)])]),
 (209,[(5,[(4,119),(6,113)])]),
 (210,[(5,[(4,119),(6,114)])]),
 (211,[(1,[(2,212)])]),
 (212,[(4,[(5,73)])])]
def akS:List (Nat×List (Nat×(Shape×List (Out×Shape)))):=[(3,[(65,QO),(257,QP),(449,QQ),(401,QR)]),
 (6,[(65,QS)]),
 (7,[(113,QT),(289,QU),(225,QV)]),
 (10,[(81,QW)]),
 (11,[(129,QX),(209,QY),(401,QZ),(337,Q0)]),
 (12,[(81,Q1),(193,Q2),(369,Q3),(305,Q4)]),
 (13,[(81,Q5),(177,Q6)]),
 (14,[(225,Q7),(145,Q8)]),
 (15,[(81,Q9)]),
 (22,[(65,Ra)]),
 (23,[(65,Rb)]),
 (24,[(225,Rc),(145,Re)]),
 (25,[(161,Rf),(113,Rg)]),
 (26,[(145,Rh),(321,Ri),(225,Rj),(481,Rk),(417,Rl)]),
 (27,[(113,Rm)]),
 (28,[(81,Rn)]),
 (31,[(161,Ro),(81,Rp)]),
 (34,[(33,Rq)]),
 (35,[(33,Rr)]),
 (42,[(49,Rs)]),
 (43,[(49,ajS)]),
 (44,[(161,Rt),(81,Ru),(321,Rv)]),
 (50,[(65,Rw)]),
 (54,[(113,Rx)]),
 (55,[(113,Ry),(49,Rz)]),
 (56,[(65,RA)]),
 (57,[(65,RB)]),
 (58,[(65,RC)]),
 (61,[(575,RD),(815,RE),(1103,RF),(33,RG)]),
 (63,[(177,RH),(97,RI)]),
 (64,[(193,RJ),(129,RK),(49,RL)]),
 (65,[(241,RM),(177,RN),(97,RO)]),
 (66,[(113,RP),(65,RQ)]),
 (68,[(321,ajT)]),
 (70,[(81,ajU)]),
 (73,[(161,ajV)]),
 (74,[(97,RR),(177,RS)]),
 (75,[(81,RT),(273,RU),(209,RV),(161,RW)]),
 (76,[(49,ajW)]),
 (77,[(65,ajX),(161,ajY)]),
 (78,[(49,ajZ)]),
 (80,[(49,aj0),(17,aj1)]),
 (81,[(175,aj2)]),
 (82,[(97,RX),(1167,RY),(1711,RZ),(257,R0)]),
 (84,[(1263,R3),(65,R4)]),
 (85,[(33,R5)]),
 (86,[(33,R6)]),
 (88,[(65,R7),(17,R8)]),
 (89,[(65,R9),(129,Sa)]),
 (90,[(703,Sb),(81,Sd)]),
 (91,[(559,Se),(527,Sf)]),
 (92,[(33,Sg)]),
 (93,[(81,Sh),(225,Si),(991,Sj),(321,Sk),(49,Sl)]),
 (95,[(49,Sm),(81,Sn),(50,So)]),
 (96,[(49,Sp),(81,Sq),(209,Sr),(241,Ss),(210,Su)]),
 (98,[(79,Sv),(143,Sw)]),
 (100,[(81,aj3)]),
 (103,[(399,aj4)]),
 (104,[(463,aj5),(367,aj6),(239,aj7),(175,aj8),(111,aj9)]),
 (107,[(161,Sy),(81,Sz)]),
 (111,[(17,aka)]),
 (117,[(17,akb)]),
 (118,[(33,akc)]),
 (120,[(65,SA)]),
 (122,[(81,SB)]),
 (123,[(49,SC)]),
 (124,[(81,SD)]),
 (127,[(591,SF),(17,SH)]),
 (137,[(65,akd)]),
 (138,[(81,ake),(225,akf)]),
 (140,[(303,akg),(17,akh)]),
 (141,[(33,aki)]),
 (146,[(81,akj)]),
 (147,[(49,akk)]),
 (158,[(145,akl),(65,akm)]),
 (163,[(33,akn)]),
 (199,[(33,ako)]),
 (200,[(49,akp),(17,akq)]),
 (201,[(81,akr)]),
 (202,[(33,aks)]),
 (203,[(81,akt)]),
 (205,[(49,aku),(17,akv)]),
 (206,[(49,akw),(17,akx)]),
 (207,[(49,aky),(17,akz)]),
 (208,[(49,akA),(17,akB)]),
 (209,[(49,akC),(17,akD)]),
 (210,[(49,akE),(17,akF)]),
 (212,[(33,akG)])]
def akT:List (Nat×List (Nat×List Nat)):=[(11,[(19,[67])]),
 (25,[(5,[26])]),
 (26,[(7,[42]),(24,[158])]),
 (48,[(11,[46])]),
 (55,[(1,[16])]),
 (77,[(8,[42])]),
 (146,[(12,[41])]),
 (158,[(15,[64])]),
 (201,[(12,[41])]),
 (203,[(12,[41])])]
def La (k:Nat):FuncId:=(eF akH k).getD 0
def kI:dc where
 iA:=La
 sin:=fun k=>(eF akI k).getD ⟨[],[]⟩
 gu:=fun k=>(eF akJ k).getD ⟨[],[]⟩
 live:=fun k r=>(eF ((eF akM (La k)).getD []) r).getD []
 join:=fun k r=>(eF ((eF akN (La k)).getD []) r).getD []
 blk:=fun k r=>(eF ((eF akO (La k)).getD []) r).getD []
 pur:=fun k r=>(eF ((eF akP k).getD []) r).getD []
 wP:=fun k=>(eF akQ k).getD []
 alt:=fun k=>eF akK k
 Vr:=fun k r=>(eF ((eF akT k).getD []) r).getD []
 ck:=fun k r i=>(eF ((eF ((eF akR k).getD []) r).getD []) i).getD 0
 iQ:=fun k x=>eF ((eF akS k).getD []) x
 qy:=[]
 H5:=fun _=>0
 ext:=fun f=>bif Nat.beq f 153 then some 156 else none
 qz:=fun f=>bif Nat.beq f 51 then some 3 else bif Nat.beq f 87 then some 4 else none
 idle:=fun f=>false
 mv:=fun k=>(eF ([(26,[2]),(31,[1,2,3]),(36,[2,3]),(41,[1,2]),(42,[1,2]),(43,[1,2]),(60,[2,3]),(69,[1,2]),(83,[1,2,3,4,5,6,8,9,10]),(84,[1,2,3,4,5,6,8,9,10]),(99,[2,3]),(104,[1]),(105,[1]),(110,[2]),(114,[3]),(116,[2]),(121,[2,3,4,5,6,8,9,10]),(125,[2,3,4,5,6,8,9,10]),(126,[2,3,4,5,6,8,9,10]),(139,[1]),(140,[1]),(142,[1]),(154,[1]),(197,[1]),(207,[2]),(208,[2]),(210,[3])]:List (Nat×List Nat)) k).getD []
 aF:=fun g=>bif Nat.beq g 0 then .pref [5,5,5,5,5,5,5,5,5,5,5,5,5,5,5,5,5,5,5,5,5,5,5,5,5,5,5,5,5,5,5,5,5,5,5,5,5,5,5,5,5,5,5,5,5,5,5,5,5,5,5,5,5,5,5,5,5,5,5,5,5,5,5,5] KD else .undef
noncomputable abbrev PG:Program:=Tryz.prog
noncomputable abbrev CC:af:=Call Tryz.prog kI
noncomputable abbrev Lp (p:List Nat) (k:Nat):oq:= .loop (uk p (rS PG (kI.iA k)))
noncomputable abbrev Cd (t:Nat) (p q:List Nat) (k:Nat):oq:= .cond t (uk p (rS PG (kI.iA k))) (uk q (rS PG (kI.iA k)))
abbrev aZ (C:af) (L:cx) (k:Nat) (b:oq):Prop:=sy PG kI C L k (Cy PG (kI.iA k)) (kI.sin k).cL.length b
end Go.AM
set_option maxRecDepth 100000
namespace Go.AM
open Go.IntKind (wrap)
open Go.Proofs Go.RowKit
set_option maxHeartbeats 1000000 in
theorem akU (hP:xA Tryz.prog):Jr Tryz.prog 51 3:=by
 refine ⟨fun args w=>MuLone.run_callFunc_enter Tryz.func51 (hP _ _ Tryz.func51) (by kernel_rfl:Tryz.f51.body=some (rS Tryz.prog 51)) _ _,33,by kernel_rfl,?_⟩;intro s w Q h1 h2 h3;have hu:Tryz.prog.underlying 33=some (.slice 3):=by kernel_rfl
 go_enter Tryz.func51,Tryz.ntmps51
 rcases h3 with rfl|⟨a,n,c,rfl⟩
 ·go_wp2
  rw[run_eql_slice_nil w 33 3 none 0 0 hu];simp only[Result.andThen];rw[Oper.upon_value]
  go_wp2
  exact trivial
 ·go_wp2
  rw[run_eql_slice_nil w 33 3 (some a) n c hu];simp only[Result.andThen];rw[Oper.upon_value]
  iterate 17 go_step
  obtain ⟨v,w',hv,hQ⟩:=h2 _ _ _ rfl;unfold Oper.wp;simp[execOp,resolve,invoke,Act.eval,hv,builtin];rw[Oper.upon_value]
  go_wp2
  exact hQ
set_option maxHeartbeats 1000000 in
theorem akV (hP:xA Tryz.prog):Jr Tryz.prog 87 4:=by
 refine ⟨fun args w=>MuLone.run_callFunc_enter Tryz.func87 (hP _ _ Tryz.func87) (by kernel_rfl:Tryz.f87.body=some (rS Tryz.prog 87)) _ _,22,by kernel_rfl,?_⟩;intro s w Q h1 h2 h3;have hu:Tryz.prog.underlying 22=some (.slice 4):=by kernel_rfl
 go_enter Tryz.func87,Tryz.ntmps87
 rcases h3 with rfl|⟨a,n,c,rfl⟩
 ·go_wp2
  rw[run_eql_slice_nil w 22 4 none 0 0 hu];simp only[Result.andThen];rw[Oper.upon_value]
  go_wp2
  exact trivial
 ·go_wp2
  rw[run_eql_slice_nil w 22 4 (some a) n c hu];simp only[Result.andThen];rw[Oper.upon_value]
  iterate 17 go_step
  obtain ⟨v,w',hv,hQ⟩:=h2 _ _ _ rfl;unfold Oper.wp;simp[execOp,resolve,invoke,Act.eval,hv,builtin];rw[Oper.upon_value]
  go_wp2
  exact hQ
theorem akW (hP:xA PG) (f:FuncId) (e:TypeId) (h:kI.qz f=some e):Jr PG f e:=by
 have h1:kI.qz f=bif Nat.beq f 51 then some 3 else bif Nat.beq f 87 then some 4 else none:=by kernel_rfl
 rw[h1] at h;cases Lb:Nat.beq f 51 with
 | true=>
  rw[Lb] at h;rw[aO] at Lb;cases h;subst Lb;exact akU hP
 | false=>
 rw[Lb] at h;simp only[cond_false] at h;cases Lc:Nat.beq f 87 with
 | true=>
  rw[Lc] at h;rw[aO] at Lc;cases h;subst Lc;exact akV hP
 | false=>
 rw[Lc] at h;simp only[cond_false] at h;cases h
theorem akX {w:World} {b:Nat} {C:Array Value} {T:TypeId} (h:w.heap[b]? =some (.cells C T (0,0))):w.shape? b=some (T,C.size)∧w.frozen? ⟨b,0,none⟩=false∧w.cell? ⟨b,0,none⟩=C[0]? :=by
 refine ⟨by simp[World.shape?,h],by simp[World.frozen?,h],cell?_cells h⟩
set_option maxHeartbeats 1000000 in
theorem akY (b:Nat) (w:World) (h0:w.cell? ⟨b,0,none⟩=some (.pointer (some ⟨b,0,none⟩))):
  Calls Tryz.prog 153 #[.pointer (some ⟨b,0,none⟩)] w fun e w'=>e= .returned (.tuple #[])∧w'=w:=by
 obtain ⟨j,hj⟩:=y9.1 (show (Tryz.prog.info? 156).isSome=true by kernel_rfl);have hu:Tryz.prog.underlying 154=some (.pointer 156):=by kernel_rfl
 go_enter Tryz.func153,Tryz.ntmps153
 go_wp2
 rw[Lib.run_neq_ptr_same w _ hu hj]
 go_wp2
 go_end0
 exact ⟨rfl,rfl⟩
set_option maxHeartbeats 1000000 in
theorem akZ (b n:Nat) (w:World) (hn:0<n) (h0:w.cell? ⟨b,0,none⟩=some (.pointer none)) (Jf:w.shape? b=some (156,n)) (z0:w.frozen? ⟨b,0,none⟩=false) (hl:liesAt Tryz.prog Tryz.prog.depth 156 (n/Tryz.prog.cellsOf 156) 0 156 1=true):
  Calls Tryz.prog 153 #[.pointer (some ⟨b,0,none⟩)] w fun e w'=>e= .returned (.tuple #[])∧w'=w.setCell ⟨b,0,none⟩ (.pointer (some ⟨b,0,none⟩)):=by
 obtain ⟨j,hj⟩:=y9.1 (show (Tryz.prog.info? 156).isSome=true by kernel_rfl);have hjs:j.size≠0:=by
  have h2:(Tryz.prog.info? 156).map (·.size)=some 2:=by kernel_rfl
  rw[hj] at h2;simp at h2;omega
 have hu:Tryz.prog.underlying 154=some (.pointer 156):=by kernel_rfl
 have o4:Tryz.prog.underlying 205=some .unsafePointer:=by kernel_rfl
 go_enter Tryz.func153,Tryz.ntmps153
 go_wp2
 rw[Lib.run_to_unsafe w ⟨b,0,none⟩ hu o4 hj hjs Jf hn];simp only[Result.andThen];rw[Oper.upon_value]
 go_wp2
 rw[run_callFunc_extern Tryz.func160 (by kernel_rfl) (by kernel_rfl) (by kernel_rfl) (e:=Extern.AbiNoEscape.same) (by kernel_rfl)];rw[Lib.run_noEscape];simp only[Result.andThen];rw[Oper.upon_value]
 go_wp2
 rw[Lib.run_from_unsafe w ⟨b,0,none⟩ o4 hu hj Jf hl];simp only[Result.andThen];rw[Oper.upon_value]
 go_wp2
 go_end0
 exact ⟨rfl,rfl⟩
theorem ak0 (hP:xA Tryz.prog):jW Tryz.prog kI where
 count:=hP
 qz:=akW hP
 ext:=by
  intro f T h b C w hh hs hc;have hf:f=153∧T=156:=by
   have h1:kI.ext f=bif Nat.beq f 153 then some 156 else none:=by kernel_rfl
   rw[h1] at h;cases hb:Nat.beq f 153 with
   | true=>rw[hb] at h;rw[aO] at hb;exact ⟨hb,(dA h).symm⟩
   | false=>rw[hb] at h;cases h
  obtain ⟨rfl,rfl⟩:=hf;obtain ⟨h1,h2,h3⟩:=akX hh;refine ⟨MuLone.run_callFunc_enter Tryz.func153 (hP _ _ Tryz.func153) (by kernel_rfl:Tryz.f153.body=some (rS Tryz.prog 153)) _ _,?_⟩;have fo:Tryz.prog.cellsOf 156=2:=by kernel_rfl
  rcases hc with hc|hc
  ·refine (akZ b C.size w (by omega) (h3.trans hc) h1 h2 (by rw[hs,fo];kernel_rfl)).mono ?_;rintro e w' ⟨rfl,rfl⟩;exact ⟨rfl,.inr rfl⟩
  ·refine (akY b w (h3.trans hc)).mono ?_;rintro e w' ⟨rfl,rfl⟩;exact ⟨rfl,.inl rfl⟩
 idle:=by
  intro f h;have h1:kI.idle f=false:=by kernel_rfl
  rw[h1] at h;cases h
end Go.AM
set_option maxRecDepth 100000
namespace Go.AM
open Go.IntKind (wrap)
open Go.Proofs Go.Proofs.YtpigoedhkpjgeaaGreatDoor Go.Lib Go.MakeChecks
def uD:List Int:=[0,1,56,2,57,49,28,3,61,58,42,50,38,29,17,4,62,47,59,36,45,43,51,22,53,39,33,30,24,18,12,5,63,55,48,27,60,41,37,16,46,35,44,21,52,32,23,11,54,26,40,15,34,20,31,10,25,14,19,9,13,8,7,6]
theorem ak1:KD=uD.map fun z=> .int .u8 z:=by kernel_rfl
theorem ak2:Rows.laid_math_bits_deBruijn64tab (H:=Unit)=tabData .u8 uD:=by kernel_rfl
def EL : List (String×DataW Unit) := [("math/bits.deBruijn64tab", Rows.laid_math_bits_deBruijn64tab)]
theorem afh {W:World} (h:laidMetH Tryz.prog EL W):iC Tryz.prog kI.aF W (oo W):=by
 have h1 : laidMetH Tryz.prog [("math/bits.deBruijn64tab", tabData .u8 uD)] W := by
  have : EL = [("math/bits.deBruijn64tab", tabData .u8 uD)] := by unfold EL; rw [ak2]
  rwa [this] at h
 rw[laidMetH_plain _ _ _ (by kernel_rfl)] at h1;have hn : Tryz.prog.globalNamed "math/bits.deBruijn64tab" = some 0 := by kernel_rfl
 have ht:=tabIs_of_head (g:=0) (t:=190) (e:=5) (n:=64) hn (by kernel_rfl) (by kernel_rfl) (by kernel_rfl) (by kernel_rfl) (by kernel_rfl) h1;have hlen:uD.length=64:=by kernel_rfl
 have hc: ∀i,i<64→W.cell? ⟨0,i,none⟩=some (.int .u8 (uD.getD i 0)):=fun i hi=>ht.cell hn i (by rw[hlen];exact hi);intro g;have hg:kI.aF g=bif Nat.beq g 0 then .pref (List.replicate 64 5) KD else .undef:=by kernel_rfl
 rw[hg];cases hb:Nat.beq g 0 with
 | false=>exact .inl rfl
 | true=>
  rw[aO] at hb;subst hb;refine .inr ⟨List.replicate 64 5,KD,rfl,by kernel_rfl,fun _ _=> ?_,fun j t x hj hx=> ?_⟩
  ·have h0:=hc 0 (by omega);unfold oo;unfold World.cell? at h0;by_cases hz:0<W.heap.size
   ·exact hz
   ·have:W.heap[0]? =none:=Array.getElem?_eq_none (by omega);simp[this] at h0
  ·have Ld:j<64:=by
    have:=(cq.1 hj).1;simpa using this
   rw[HM,ak Ld] at hj;cases hj;rw[ak1,jh] at hx;have js:uD[j]? =some (uD.getD j 0):=by
    rw[bR (by rw[hlen];exact Ld)];simp[List.getD,bR (show j<uD.length by rw[hlen];exact Ld)]
   rw[js] at hx;cases hx;exact ⟨_,by simpa using hc j Ld,.int (by kernel_rfl)⟩
theorem own:ownKnob Tryz.prog.godebug=none:=by kernel_rfl
theorem ak3:xA Tryz.prog:=ail (by kernel_rfl)
theorem mixed:Tryz.prog.follows .mixedOrders=true:=by kernel_rfl
theorem afg:jW Tryz.prog kI:=ak0 ak3
noncomputable def Vp (os:Os):World:=World.laidAll Tryz.prog os EL
theorem afe (os:Os) (args:Array Value):laidMetH Tryz.prog EL ((Vp os).forCall (fun _ _=>0) ⟨#[],args,[]⟩).memory:=by
 rw[laidMetH_plain _ _ _ (by kernel_rfl)];exact laidMet_laidAll args (by kernel_rfl) (by kernel_rfl)
end Go.AM
namespace Go.AM
open Go.IntKind (wrap)
theorem wrap_u64 (n:Int):IntKind.u64.wrap n=n %18446744073709551616:=by simp[IntKind.wrap,IntKind.bits,IntKind.signed]
theorem EM {A:Nat} (h:A<2^64):wrap .u64 (A:Int)=A:=by
 rw[wrap_u64];omega
theorem abo {n A:Nat} (h:A<2^n):(BitVec.ofInt n (A:Int)).toNat=A:=by
 rw[BitVec.ofInt_natCast,BitVec.toNat_ofNat];exact B0 h
theorem bv_and {n A B:Nat} (hA:A<2^n) (hB:B<2^n):(BitVec.ofInt n (A:Int)&&&BitVec.ofInt n (B:Int)).toNat=A&&&B:=by
 rw[BitVec.toNat_and,abo hA,abo hB]
theorem u64_and {A B:Nat} (hA:A<2^64) (hB:B<2^64):wrap .u64 ((BitVec.ofInt (IntKind.bits .u64) (A:Int)&&&BitVec.ofInt (IntKind.bits .u64) (B:Int)).toNat)=((A&&&B:Nat):Int):=by
 rw[bv_and (n:=IntKind.bits .u64) hA hB];exact EM (Nat.lt_of_le_of_lt Nat.and_le_left hA)
theorem ak4 {m:Nat} (h:m<64):wrap .u64 (1*2^(min m (IntKind.bits .u64)))=((2^m:Nat):Int):=by
 have e:min m (IntKind.bits .u64)=m:=Nat.min_eq_left (by show m≤64;omega);rw[e];have:(1*2^m:Int)=((2^m:Nat):Int):=by simp
 rw[this];exact EM (Nat.pow_lt_pow_right (by omega) h)
theorem SJ {A m:Nat} (h:m<64):Int.fdiv (A:Int) (2^(min m (IntKind.bits .u64)))=((A/2^m:Nat):Int):=by
 have e:min m (IntKind.bits .u64)=m:=Nat.min_eq_left (by show m≤64;omega);rw[e];have:(2^m:Int)=((2^m:Nat):Int):=by simp
 rw[this,Int.fdiv_eq_ediv_of_nonneg _ (Int.natCast_nonneg _)];exact Int.natCast_ediv ..
end Go.AM
set_option maxRecDepth 100000
namespace Go.AM
open Go.IntKind (wrap)
open Go.Proofs
theorem Lf:maxLen≤9223372036854775807:=by unfold maxLen;omega
theorem abp:bm=35184372088832:=by unfold bm;rfl
section
variable {α β:Type} {o:Option α} {a:α} {f:α→Option β} {r:Option β} {x y z:β} {b:Bool}
theorem bs (h:o=some a) (h2:f a=r):o.bind f=r:=by rw[h];exact h2
theorem bT (hb:b=true) (h:x=z):(bif b then x else y)=z:=by rw[hb];exact h
theorem bF (hb:b=false) (h:y=z):(bif b then x else y)=z:=by rw[hb];exact h
end
section
variable {X R A α:Type} {step:X→Option (X ⊕ R)}
theorem AT (good:Nat→Prop) [DecidablePred good] (n:Nat) (s:Nat→X) (bad ok:R) (h: ∀i,i<n→step (s i)=some (if good i then .inl (s (i+1)) else .inr bad)) (he:step (s n)=some (.inr ok)):
  Loop step (s 0)=some (if∀i,i<n→good i then ok else bad):=by
 have go: ∀(d k:Nat),k+d=n→((∀i,k≤i→i<n→good i)→Loop step (s k)=some ok)∧((¬∀i,k≤i→i<n→good i)→Loop step (s k)=some bad):=by
  intro d
  induction d with
  | zero=>
   intro k hk;have:k=n:=by omega
   subst this;exact ⟨fun _=>cQ he,fun hx=>absurd (fun i h1 h2=>by omega) hx⟩
  | succ d ih=>
   intro k hk;have h1:=h k (by omega);by_cases hg:good k
   ·rw[ak hg] at h1;rw[eD h1];obtain ⟨i1,i2⟩:=ih (k+1) (by omega);refine ⟨fun ha=>i1 fun i h1 h2=>ha i (by omega) h2,fun ha=>i2 fun hx=>ha fun i h1 h2=> ?_⟩;by_cases hi:i=k
    ·rw[hi];exact hg
    ·exact hx i (by omega) h2
   ·rw[aj hg] at h1;rw[cQ h1];exact ⟨fun ha=>absurd (ha k (az _) (by omega)) hg,fun _=>rfl⟩
 obtain ⟨g1,g2⟩:=go n 0 (by omega);by_cases ha: ∀i,i<n→good i
 ·rw[ak ha];exact g1 fun i _ h=>ha i h
 ·rw[aj ha];exact g2 fun hx=>ha fun i h=>hx i (by omega) h
end
end Go.AM
set_option maxRecDepth 100000
namespace Go.AM
open Go.IntKind (wrap)
theorem bC {α:Type} {l:List α} {i:Nat} {d:α} (h:i<l.length):l.getD i d=l[i]:=by simp[h]
structure Da where
 L:Nat
 st:Nat
 F:List Bool
 N:List (List Nat)
deriving DecidableEq
namespace Da
def n (d:Da):Nat:=d.F.length
def nx (d:Da) (q x:Nat):Nat:=(d.N.getD q []).getD x 0
def fin (d:Da) (q:Nat):Bool:=d.F.getD q false
def run (d:Da) (q:Nat) (w:List Nat):Nat:=w.foldl d.nx q
def acc (d:Da) (q:Nat) (w:List Nat):Bool:=d.fin (d.run q w)
structure Ok (d:Da):Prop where
 l1:1≤d.L
 l6:d.L≤6
 nN:d.N.length=d.n
 row: ∀r∈d.N,r.length=d.L∧∀q∈r,q<d.n
 s:d.st<d.n
 jc:d.n≤512
end Da
def WL (L:Nat) (w:List Nat):Prop:= ∀x∈w,x<L
theorem WL.nil {L:Nat}:WL L []:=fun _ h=>by cases h
theorem WL.cons {L x:Nat} {w:List Nat} (h:x<L) (hw:WL L w):WL L (x::w):=fun y hy=>by
 rcases lu.1 hy with rfl|hy
 ·exact h
 ·exact hw y hy
theorem WL.head {L x:Nat} {w:List Nat} (h:WL L (x::w)):x<L:=h x (by simp)
theorem WL.tail {L x:Nat} {w:List Nat} (h:WL L (x::w)):WL L w:=fun y hy=>h y (by simp[hy])
theorem WL.app {L:Nat} {v w:List Nat}:WL L (v++w)↔WL L v∧WL L w:=by
 unfold WL;simp only[eO];exact ⟨fun h=>⟨fun x hx=>h x (.inl hx),fun x hx=>h x (.inr hx)⟩,fun h x hx=>hx.elim (h.1 x) (h.2 x)⟩
namespace Da
def qf (d:Da) (q:Nat) (d':Da) (q':Nat):Prop:= ∀w,WL d.L w→d.acc q w=d'.acc q' w
theorem Ok.ki {d:Da} (h:d.Ok) {q x:Nat} (hq:q<d.n) (hx:x<d.L):d.nx q x<d.n:=by
 have dE:q<d.N.length:=by rw[h.nN];exact hq
 have hr:=h.row d.N[q] (cJ dE);unfold nx;rw[bC dE,bC (by omega)];exact hr.2 _ (cJ _)
theorem Ok.wh {d:Da} (h:d.Ok): ∀(w:List Nat) {q:Nat},q<d.n→WL d.L w→d.run q w<d.n
 | [],q,hq,_=>hq
 | x::w,q,hq,hw=>h.wh w (h.ki hq hw.head) hw.tail
theorem SK {d:Da} {q x:Nat} {w:List Nat}:d.run q (x::w)=d.run (d.nx q x) w:=rfl
theorem Lg {d:Da} {q x:Nat} {w:List Nat}:d.acc q (x::w)=d.acc (d.nx q x) w:=rfl
theorem Lh {d:Da} {q:Nat} {v w:List Nat}:d.run q (v++w)=d.run (d.run q v) w:=zc
theorem wi {d:Da} {q:Nat} {v w:List Nat}:d.acc q (v++w)=d.acc (d.run q v) w:=by unfold acc;rw[Lh]
theorem sH {d:Da} {q:Nat}:d.acc q []=d.fin q:=rfl
theorem qf.nx {d d':Da} {q q' x:Nat} (h:d.qf q d' q') (hx:x<d.L):d.qf (d.nx q x) d' (d'.nx q' x):=fun w hw=>h (x::w) (hw.cons hx)
def pos (d:Da) (t:Nat):Nat:=d.nx (t/d.L) (t %d.L)
def mt (d:Da):Nat→Nat
 | 0=>1
 | t+1=>if d.pos t=d.mt t then d.mt t+1 else d.mt t
structure Li (d:Da):Prop where
 le: ∀t,t<d.n*d.L→d.pos t≤d.mt t
 row: ∀q,q<d.n→q<d.mt (q*d.L)
 all:d.mt (d.n*d.L)=d.n
structure Canon (d:Da) (L:Nat) (K:List Nat→Bool):Prop where
 ok:d.Ok
 hL:d.L=L
 st:d.st=0
 num:d.Li
 red: ∀p q,p<d.n→q<d.n→d.qf p d q→p=q
 AU: ∀w,WL L w→d.acc 0 w=K w
theorem Lj (d:Da): ∀{s t:Nat},s≤t→d.mt s≤d.mt t:=by
 intro s t h
 induction t with
 | zero=>rw[vb.1 h];exact az _
 | succ t ih=>
  rcases gr s (t+1) with h1|h1
  ·have:=ih (by omega);have e:d.mt (t+1)=if d.pos t=d.mt t then d.mt t+1 else d.mt t:=rfl
   rw[e];split<;>omega
  ·rw[show s=t+1 by omega];exact az _
theorem SL {d d':Da} {K:List Nat→Bool} {L:Nat} (h:d.Canon L K) (h':d'.Canon L K): ∀t,t≤d.n*L→t≤d'.n*L→d.mt t=d'.mt t∧(∀s,s<t→d.pos s=d'.pos s)∧∀q,q<d.mt t→d.qf q d' q:=by
 intro t;have e:=h.hL;have e':=h'.hL;have hl:=h.ok.l1
 induction t with
 | zero=>
  intro _ _;refine ⟨rfl,fun s hs=>by omega,fun q hq=> ?_⟩;obtain rfl:q=0:=by have:q<1:=hq;omega
  intro w hw;rw[h.AU w (e▸hw),h'.AU w (e▸hw)]
 | succ t ih=>
  intro h1 h2;obtain ⟨i1,i2,i3⟩:=ih (by omega) (by omega);have hm:d.mt t≤d.n:=by rw[←h.num.all];exact d.Lj (by rw[e];omega)
  have xb:d'.mt t≤d'.n:=by rw[←h'.num.all];exact d'.Lj (by rw[e'];omega)
  have hq:t/L<d.n:=by rw[HU (by omega)];omega
  have dE:t/L<d'.n:=by rw[HU (by omega)];omega
  have hx:t %L<L:=wJ _ (by omega);have hqm:t/L<d.mt t:=by
   have a:=h.num.row _ hq;rw[e] at a;have b:d.mt (t/L*L)≤d.mt t:=d.Lj (Nat.div_mul_le_self t L);omega
  have hE:=(i3 _ hqm).nx (by rw[e];exact hx);have p1:d.pos t=d.nx (t/L) (t %L):=by unfold pos;rw[e]
  have p2:d'.pos t=d'.nx (t/L) (t %L):=by unfold pos;rw[e']
  rw[←p1,←p2] at hE;have l1:=h.num.le t (by rw[e];omega);have l2:=h'.num.le t (by rw[e'];omega);have b1:d.pos t<d.n:=by rw[p1];exact h.ok.ki hq (by rw[e];exact hx)
  have b2:d'.pos t<d'.n:=by rw[p2];exact h'.ok.ki dE (by rw[e'];exact hx)
  have key:d.pos t=d'.pos t:=by
   rcases gr (d.pos t) (d.mt t) with c|c
   ·have hA:=i3 _ c;refine h'.red _ _ (by omega) b2 fun w hw=> ?_;have hw2:WL d.L w:=by rw[e,←e'];exact hw
    rw[←hA w hw2,hE w hw2]
   ·rcases gr (d'.pos t) (d.mt t) with c'|c'
    ·have hA:=i3 _ c';refine h.red _ _ b1 (by omega) fun w hw=> ?_;rw[hE w hw,hA w hw]
    ·omega
  refine ⟨?_,?_,?_⟩
  ·unfold mt;rw[key,i1]
  ·intro s hs;rcases gr s t with c|c
   ·exact i2 s c
   ·rw[show s=t by omega];exact key
  ·intro q qT;rcases gr q (d.mt t) with c|c
   ·exact i3 q c
   ·have:d.pos t=d.mt t∧q=d.mt t:=by
     unfold mt at qT;split at qT
     ·rename_i h3;exact ⟨h3,by omega⟩
     ·omega
    rw[←key,this.1,←this.2] at hE;exact hE
theorem ak5 {a b:List Nat} (hl:a.length=b.length) (h: ∀x,x<a.length→a.getD x 0=b.getD x 0):a=b:=by
 refine tj hl fun x h1 h2=> ?_;have:=h x h1;rwa [bC h1,bC h2] at this
theorem SM {d:Da} (h:d.Ok) {q:Nat} (hq:q<d.n):(d.N.getD q []).length=d.L:=by
 have dE:q<d.N.length:=by rw[h.nN];exact hq
 rw[bC dE];exact (h.row _ (cJ dE)).1
theorem Canon.eq {d d':Da} {K:List Nat→Bool} {L:Nat} (h:d.Canon L K) (h':d'.Canon L K):d=d':=by
 have e:=h.hL;have e':=h'.hL;have hl:=h.ok.l1;rw[e] at hl;have hn:d.n=d'.n:=by
  rcases Nat.lt_trichotomy d.n d'.n with c|c|c
  ·obtain ⟨s1,_,_⟩:=SL h h' (d.n*L) (az _) (dZ _ (by omega));have a:=h.num.all;have b:=h'.num.row d.n c;rw[e] at a;rw[e'] at b;omega
  ·exact c
  ·obtain ⟨s1,_,_⟩:=SL h h' (d'.n*L) (dZ _ (by omega)) (az _);have a:=h'.num.all;have b:=h.num.row d'.n c;rw[e'] at a;rw[e] at b;omega
 obtain ⟨s1,s2,s3⟩:=SL h h' (d.n*L) (az _) (by rw[hn];exact az _);have a:=h.num.all;rw[e] at a;have hE: ∀q,q<d.n→d.qf q d' q:=fun q hq=>s3 q (by omega);have hP: ∀q x,q<d.n→x<L→d.nx q x=d'.nx q x:=fun q x hq hx=>by
  have:=s2 (q*L+x) (by
   have:(q+1)*L≤d.n*L:=dZ _ (by omega);rw[jJ] at this;omega)
  unfold pos at this;rw[e,e'] at this;rwa [show (q*L+x)/L=q by rw[pF,Nat.mul_add_div (by omega),Nat.div_eq_of_lt hx];rfl,show (q*L+x) %L=x by rw[pF,Nat.mul_add_mod,B0 hx]] at this
 have hF:d.F=d'.F:=by
  refine tj hn fun q h1 h2=> ?_;have:=hE q h1 [] WL.nil;rw[sH,sH] at this;unfold fin at this;rwa [bC h1,bC h2] at this
 have hN:d.N=d'.N:=by
  refine tj (by rw[h.ok.nN,h'.ok.nN,hn]) fun q h1 h2=> ?_;have hq:q<d.n:=by rw[←h.ok.nN];exact h1
  have r1:=SM h.ok hq;have r2:=SM h'.ok (show q<d'.n by omega);have hx:=fun x hx=>hP q x hq hx;unfold nx at hx;rw[bC h1] at r1 hx;rw[bC h2] at r2 hx;exact ak5 (by omega) fun x h3=>hx x (by omega)
 obtain ⟨L1,s1,F1,N1⟩:=d;obtain ⟨L2,s2,F2,N2⟩:=d';have q1:=h.st;have q2:=h'.st;simp only at*
 subst hF hN e e' q1 q2;rfl
end Da
section
variable {α:Type} [DecidableEq α]
def bQ (S:List α) (a:α):List α:=if a∈S then S else S++[a]
def cu (next:α→Nat→α) (S:List α) (a:α):Nat→List α
 | 0=>S
 | x+1=>bQ (cu next S a x) (next a x)
def aJ (L:Nat) (next:α→Nat→α) (a0:α):Nat→List α
 | 0=>[a0]
 | i+1=>match (aJ L next a0 i)[i]? with
  | some a=>cu next (aJ L next a0 i) a L
  | none=>aJ L next a0 i
theorem nw (S:List α) (a:α):S <+: bQ S a:=by
 unfold bQ;split
 ·exact nT _
 ·exact List.prefix_append _ _
theorem wj {S:List α} {a:α}:a∈bQ S a:=by
 unfold bQ;split
 ·assumption
 ·simp
theorem SN {S:List α} {a:α} (h:S.Nodup):(bQ S a).Nodup:=by
 unfold bQ;split
 ·exact h
 ·rename_i h2;refine B6.2 ⟨h,by simp,fun x hx y hy e=> ?_⟩;rw[ff.1 hy] at e;exact h2 (e▸hx)
theorem AV {S:List α} {a:α}:(bQ S a).length=if a∈S then S.length else S.length+1:=by
 unfold bQ;split<;>simp
variable {L:Nat} {next:α→Nat→α} {a0:α}
theorem Lk (S:List α) (a:α): ∀x,S <+: cu next S a x
 | 0=>nT _
 | x+1=>(Lk S a x).trans (nw _ _)
theorem AW (S:List α) (a:α) {x y:Nat} (h:x≤y):cu next S a x <+: cu next S a y:=by
 induction y with
 | zero=>rw[vb.1 h];exact nT _
 | succ y ih=>
  rcases gr x (y+1) with c|c
  ·exact (ih (by omega)).trans (nw _ _)
  ·rw[show x=y+1 by omega];exact nT _
theorem abq {S:List α} {a:α} (h:S.Nodup): ∀x,(cu next S a x).Nodup
 | 0=>h
 | x+1=>SN (abq h x)
theorem abr {S:List α} {a:α} {x y:Nat} (h:x<y):next a x∈cu next S a y:=
 (AW S a (show x+1≤y by omega)).subset wj
theorem ak6 {i:Nat} {a:α} (h:(aJ L next a0 i)[i]? =some a):aJ L next a0 (i+1)=cu next (aJ L next a0 i) a L:=by
 rw[aJ,h]
theorem ak7 {i:Nat} (h:(aJ L next a0 i).length≤i):aJ L next a0 (i+1)=aJ L next a0 i:=by
 rw[aJ,List.getElem?_eq_none h]
theorem ak8 (i:Nat):aJ L next a0 i <+: aJ L next a0 (i+1):=by
 rw[aJ];split
 ·exact Lk _ _ _
 ·exact nT _
theorem uE {i j:Nat} (h:i≤j):aJ L next a0 i <+: aJ L next a0 j:=by
 induction j with
 | zero=>rw[vb.1 h];exact nT _
 | succ j ih=>
  rcases gr i (j+1) with c|c
  ·exact (ih (by omega)).trans (ak8 j)
  ·rw[show i=j+1 by omega];exact nT _
theorem AX: ∀i,(aJ L next a0 i).Nodup
 | 0=>by simp[aJ]
 | i+1=>by
  rw[aJ];split
  ·exact abq (AX i) _
  ·exact AX i
theorem abt {i j:Nat} (h:(aJ L next a0 i).length≤i) (hj:i≤j):aJ L next a0 j=aJ L next a0 i:=by
 induction j with
 | zero=>rw[vb.1 hj]
 | succ j ih=>
  rcases gr i (j+1) with c|c
  ·rw[ak7 (by rw[ih (by omega)];omega),ih (by omega)]
  ·rw[show i=j+1 by omega]
theorem ak9 (i:Nat):(aJ L next a0 i)[0]? =some a0:=by
 have h:=uE (L:=L) (next:=next) (a0:=a0) (kK i);have h0:0<(aJ L next a0 0).length:=by simp[aJ]
 rw[bR (ll h0 h.length_le),←h.getElem h0];rfl
theorem SP (i:Nat):0<(aJ L next a0 i).length:=ll (by simp[aJ]) (uE (L:=L) (next:=next) (a0:=a0) (kK i)).length_le
theorem Ll: ∀i,∀a∈aJ L next a0 i,∃w,WL L w∧a=w.foldl next a0
 | 0,a,h=>⟨[],WL.nil,by simpa[aJ] using h⟩
 | i+1,a,h=>by
  rw[aJ] at h;split at h
  ·rename_i b hb;have ay:b∈aJ L next a0 i:=lp hb
   obtain ⟨w,hw,rfl⟩:=Ll i b ay;have: ∀x,x≤L→∀a∈cu next (aJ L next a0 i) (w.foldl next a0) x,∃w,WL L w∧a=w.foldl next a0:=by
    intro x
    induction x with
    | zero=>intro _ a h;exact Ll i a h
    | succ x ih=>
     intro hx a h;rw[cu] at h;unfold bQ at h;split at h
     ·exact ih (by omega) a h
     ·rcases eO.1 h with h|h
      ·exact ih (by omega) a h
      ·refine ⟨w++[x],WL.app.2 ⟨hw,WL.nil.cons (by omega)⟩,?_⟩;rw[ff.1 h,zc];rfl
   exact this L (az _) a h
  ·exact Ll i a h
section
variable {k:Nat} (hd:(aJ L next a0 k).length≤k)
include hd
theorem SQ {i:Nat} (h:i<(aJ L next a0 k).length):i<(aJ L next a0 i).length:=by
 rcases gr i (aJ L next a0 i).length with c|c
 ·exact c
 ·have:=abt c (show i≤k by omega);rw[this] at h;omega
theorem ala {i:Nat} (h:i<(aJ L next a0 k).length):(aJ L next a0 i)[i]? =some (aJ L next a0 k)[i]:=by
 have h1:=SQ hd h;rw[bR h1,(uE (show i≤k by omega)).getElem h1]
theorem EN {i:Nat} (h:i<(aJ L next a0 k).length):aJ L next a0 (i+1)=cu next (aJ L next a0 i) (aJ L next a0 k)[i] L:=ak6 (ala hd h)
theorem abu {a:α} (h:a∈aJ L next a0 k) {x:Nat} (hx:x<L):next a x∈aJ L next a0 k:=by
 obtain ⟨i,hi,rfl⟩:=qx h;have h1:next (aJ L next a0 k)[i] x∈aJ L next a0 (i+1):=by rw[EN hd hi];exact abr hx
 rcases gr i k with c|c
 ·exact (uE (show i+1≤k by omega)).subset h1
 ·omega
end
def gj (L:Nat) (next:α→Nat→α) (fin:α→Bool) (S:List α):Da where
 L:=L
 st:=0
 F:=S.map fin
 N:=S.map fun a=>(List.range L).map fun x=>S.idxOf (next a x)
theorem sI {fin:α→Bool} {S:List α}:(gj L next fin S).n=S.length:=by simp[gj,Da.n]
theorem Lm {fin:α→Bool} {S:List α} {i x:Nat} (hi:i<S.length) (hx:x<L):(gj L next fin S).nx i x=S.idxOf (next S[i] x):=by
 unfold Da.nx gj;simp[vf,hi,hx]
theorem abv {fin:α→Bool} {S:List α} {i:Nat} (hi:i<S.length):(gj L next fin S).fin i=fin S[i]:=by
 unfold Da.fin gj;simp[vf,hi]
theorem AY {S T:List α} (hp:T <+: S) {a:α} (h:a∈T):S.idxOf a=T.idxOf a:=by
 obtain ⟨U,rfl⟩:=hp;rw[zd,ak h]
section
variable {k:Nat} (hd:(aJ L next a0 k).length≤k) {fin:α→Bool}
include hd
theorem alb {i x:Nat} (hi:i<(aJ L next a0 k).length) (hx:x<L): ∃h:(gj L next fin (aJ L next a0 k)).nx i x<(aJ L next a0 k).length,(aJ L next a0 k)[(gj L next fin (aJ L next a0 k)).nx i x]=next (aJ L next a0 k)[i] x:=by
 have hm:=abu hd (cJ hi) hx;rw[Lm hi hx];exact ⟨vg hm,HV _⟩
theorem abw: ∀(w:List Nat) {i:Nat} (hi:i<(aJ L next a0 k).length),WL L w→∃h:(gj L next fin (aJ L next a0 k)).run i w<(aJ L next a0 k).length,(aJ L next a0 k)[(gj L next fin (aJ L next a0 k)).run i w]=w.foldl next (aJ L next a0 k)[i]
 | [],i,hi,_=>⟨hi,rfl⟩
 | x::w,i,hi,hw=>by
  obtain ⟨h1,h2⟩:=alb (fin:=fin) hd hi hw.head;obtain ⟨h3,h4⟩:=abw w h1 hw.tail;refine ⟨h3,?_⟩;rw[List.foldl_cons,←h2];exact h4
theorem alc {w:List Nat} {i:Nat} (hi:i<(aJ L next a0 k).length) (hw:WL L w):(gj L next fin (aJ L next a0 k)).acc i w=fin (w.foldl next (aJ L next a0 k)[i]):=by
 obtain ⟨h1,h2⟩:=abw (fin:=fin) hd w hi hw;unfold Da.acc;rw[abv h1,h2]
theorem ald (h1:1≤L) (h6:L≤6) (hm:(aJ L next a0 k).length≤512):(gj L next fin (aJ L next a0 k)).Ok where
 l1:=h1
 l6:=h6
 nN:=by rw[sI];simp[gj]
 row r hr:=by
  rw[sI];obtain ⟨a,ha,rfl⟩:=eu.1 (show r∈(aJ L next a0 k).map _ from hr);refine ⟨by simp[gj],fun q hq=> ?_⟩;obtain ⟨x,hx,rfl⟩:=eu.1 hq;exact vg (abu hd ha (fg.1 hx))
 s:=by rw[sI];exact SP k
 jc:=by rw[sI];exact hm
theorem SR (h1:1≤L): ∀i,i≤(aJ L next a0 k).length→(gj L next fin (aJ L next a0 k)).mt (i*L)=(aJ L next a0 i).length∧∀(hi:i<(aJ L next a0 k).length) x,x≤L→(gj L next fin (aJ L next a0 k)).mt (i*L+x)=(cu next (aJ L next a0 i) (aJ L next a0 k)[i] x).length:=by
 have key: ∀i,(gj L next fin (aJ L next a0 k)).mt (i*L)=(aJ L next a0 i).length→∀(hi:i<(aJ L next a0 k).length) x,x≤L→(gj L next fin (aJ L next a0 k)).mt (i*L+x)=(cu next (aJ L next a0 i) (aJ L next a0 k)[i] x).length:=by
  intro i h hi x
  induction x with
  | zero=>intro _;exact h
  | succ x ih=>
   intro hx;have ih:=ih (by omega);have hp:cu next (aJ L next a0 i) (aJ L next a0 k)[i] (x+1) <+: aJ L next a0 k:=by
    refine (AW _ _ hx).trans ?_;rw[←EN hd hi];exact uE (by omega)
   have hp0:cu next (aJ L next a0 i) (aJ L next a0 k)[i] x <+: aJ L next a0 k:=(AW _ _ (by omega)).trans hp
   have gL:(gj L next fin (aJ L next a0 k)).pos (i*L+x)=(aJ L next a0 k).idxOf (next (aJ L next a0 k)[i] x):=by
    unfold Da.pos;rw[show (gj L next fin (aJ L next a0 k)).L=L from rfl,show (i*L+x)/L=i by rw[pF,Nat.mul_add_div (by omega),Nat.div_eq_of_lt (by omega)];rfl,show (i*L+x) %L=x by rw[pF,Nat.mul_add_mod,B0 (by omega)],Lm hi (by omega)]
   show (gj L next fin (aJ L next a0 k)).mt ((i*L+x)+1)=_;rw[Da.mt,gL,ih,cu];rw[cu] at hp;generalize cu next (aJ L next a0 i) (aJ L next a0 k)[i] x=T at*
   generalize next (aJ L next a0 k)[i] x=b at*
   rw[AV];by_cases hb:b∈T
   ·rw[ak hb,AY hp0 hb,aj (by have:=vg hb;omega)]
   ·rw[aj hb];unfold bQ at hp;rw[aj hb] at hp;rw[AY hp (by simp),zd,aj hb];simp
 intro i
 induction i with
 | zero=>
  intro _;have:(gj L next fin (aJ L next a0 k)).mt (0*L)=(aJ L next a0 0).length:=by rw[Nat.zero_mul];rfl
  exact ⟨this,key 0 this⟩
 | succ i ih=>
  intro hi;obtain ⟨_,h3⟩:=ih (by omega);have h4:=h3 (by omega) L (az _);rw[←EN hd (by omega),←Nat.succ_mul] at h4;exact ⟨h4,key (i+1) h4⟩
theorem abx:(aJ L next a0 (aJ L next a0 k).length)=aJ L next a0 k:=by
 have hp:=uE (L:=L) (next:=next) (a0:=a0) hd;exact (abt hp.length_le hd).symm
theorem ale (h1:1≤L):(gj L next fin (aJ L next a0 k)).Li where
 le t ht:=by
  rw[sI] at ht;have hq:t/L<(aJ L next a0 k).length:=by rw[HU (by omega)];exact ht
  have hx:t %L<L:=wJ _ (by omega);have IX:t/L*L+t %L=t:=Nat.div_add_mod' t L;have h2:=(SR (fin:=fin) hd h1 (t/L) (by omega)).2 hq (t %L) (by omega);rw[IX] at h2;rw[h2];unfold Da.pos;rw[show (gj L next fin (aJ L next a0 k)).L=L from rfl,Lm hq hx];have hp:cu next (aJ L next a0 (t/L)) (aJ L next a0 k)[t/L] (t %L+1) <+: aJ L next a0 k:=by
   refine (AW _ _ (show t %L+1≤L by omega)).trans ?_;rw[←EN hd hq];exact uE (by omega)
  rw[cu] at hp;generalize cu next (aJ L next a0 (t/L)) (aJ L next a0 k)[t/L] (t %L)=T at*
  generalize next (aJ L next a0 k)[t/L] (t %L)=b at*
  rw[AY hp wj];have:=vg (wj (S:=T) (a:=b));rw[AV] at this;split at this<;>omega
 row q hq:=by
  rw[sI] at hq;rw[show (gj L next fin (aJ L next a0 k)).L=L from rfl,(SR hd h1 q (by omega)).1];exact SQ hd hq
 all:=by
  rw[sI,show (gj L next fin (aJ L next a0 k)).L=L from rfl,(SR hd h1 _ (az _)).1,abx hd]
end
theorem aby {U:List α} (h0:a0∈U) (hU: ∀a∈U,∀x,x<L→next a x∈U) (k:Nat):aJ L next a0 k ⊆ U:=by
 intro a ha;obtain ⟨w,hw,rfl⟩:=Ll k a ha;have: ∀(w:List Nat) (b:α),b∈U→WL L w→w.foldl next b∈U:=by
  intro w
  induction w with
  | nil=>intro b hb _;exact hb
  | cons x w ih=>intro b hb hw;exact ih _ (hU b hb x hw.head) hw.tail
 exact this w a0 h0 hw
theorem alf {U:List α} (h0:a0∈U) (hU: ∀a∈U,∀x,x<L→next a x∈U) (k:Nat):(aJ L next a0 k).length≤U.length:=
 wM (AX k) (aby h0 hU k)
end
namespace Da
def trim (d:Da):Da:=gj d.L d.nx d.fin (aJ d.L d.nx d.st d.n)
theorem Ok.uF {d:Da} (h:d.Ok) (k:Nat):(aJ d.L d.nx d.st k).length≤d.n:=by
 have:=alf (L:=d.L) (next:=d.nx) (a0:=d.st) (U:=List.range d.n) (fg.2 h.s) (fun a ha x hx=>fg.2 (h.ki (fg.1 ha) hx)) k;simpa using this
theorem Ok.EO {d:Da} (h:d.Ok) (k:Nat): ∀q∈aJ d.L d.nx d.st k,q<d.n:=fun q hq=>by
 have:=aby (L:=d.L) (next:=d.nx) (a0:=d.st) (U:=List.range d.n) (fg.2 h.s) (fun a ha x hx=>fg.2 (h.ki (fg.1 ha) hx)) k hq;exact fg.1 this
theorem Ok.abz {d:Da} (h:d.Ok):d.trim.Ok:=ald (h.uF _) h.l1 h.l6 (ln (h.uF _) h.jc)
theorem Ok.SS {d:Da} (h:d.Ok) {i:Nat} (hi:i<(aJ d.L d.nx d.st d.n).length) {w:List Nat} (hw:WL d.L w):d.trim.acc i w=d.acc (aJ d.L d.nx d.st d.n)[i] w:=alc (h.uF _) hi hw
theorem Ok.abA {d:Da} (h:d.Ok) {w:List Nat} (hw:WL d.L w):d.trim.acc 0 w=d.acc d.st w:=by
 rw[h.SS (SP _) hw];have:=ak9 (L:=d.L) (next:=d.nx) (a0:=d.st) d.n;rw[bR (SP _)] at this;rw[dA this]
theorem Ok.alg {d:Da} (h:d.Ok) (hr: ∀p q,p<d.n→q<d.n→d.qf p d q→p=q):d.trim.Canon d.L (d.acc d.st) where
 ok:=h.abz
 hL:=rfl
 st:=rfl
 num:=ale (h.uF _) h.l1
 red p q hp hq he:=by
  unfold trim at hp hq;rw[sI] at hp hq;have h1:d.qf (aJ d.L d.nx d.st d.n)[p] d (aJ d.L d.nx d.st d.n)[q]:=fun w hw=>by
   rw[←h.SS hp hw,←h.SS hq hw];exact he w hw
  have h2:=hr _ _ (h.EO _ _ (cJ hp)) (h.EO _ _ (cJ hq)) h1;rw[←List.Nodup.idxOf_getElem (AX _) p hp,←List.Nodup.idxOf_getElem (AX _) q hq,h2]
 AU w hw:=h.abA hw
end Da
end Go.AM
set_option maxRecDepth 100000
namespace Go.AM
open Go.IntKind (wrap)
open Go.Proofs
noncomputable def EP (C:af) (yk:Int) (t38:LV) (t39 t40:Int) (t49:LV) (t50 cC cT:Int) (dG dw:LV) (t51:Int) {β:Type} (kn:Int→Option β) (kr:((Int) ⊕ (Int×Bool))→Option β):Option β:=
 bif decide (t51<t50) then
  (idx t49 t51).bind fun x2=>
  bif decide ((x2.toInt:Int)<0) then
  kr (.inl 4)
  else
  bif decide ((x2.toInt:Int)≥yk) then
   kr (.inl 4)
  else
   kn (wrap .i64 (t51+1))
 else
  kr (.inr (t51,decide (t51<t50)))
noncomputable def Ln (C:af) (yk:Int) (t38:LV) (t39 t40:Int) (t49:LV) (t50 cC cT:Int) (dG dw:LV):=fun t51=>EP C yk t38 t39 t40 t49 t50 cC cT dG dw t51 (fun y=>some (Sum.inl y)) (fun r=>some (Sum.inr r))
noncomputable def ER (C:af) (yk:Int) (t38:LV) (t39 cC cT:Int) (dG dw:LV) (t40:Int) {β:Type} (kn:Int→Option β) (kr:((Int) ⊕ (Int×Bool))→Option β):Option β:=
 bif decide (t40<t39) then
  (idx t38 t40).bind fun x1=>
  bif (x1.toList.length:Int) != cC then
  kr (.inl 4)
  else
  (Loop (Ln C yk t38 t39 t40 x1.toList (x1.toList.length:Int) cC cT dG dw) 0).bind (cM (fun jB=>
   kr (.inl jB)) (un fun (gP:Int) (oy:Bool)=>
   kn (wrap .i64 (t40+1))))
 else
  kr (.inr (t40,decide (t40<t39)))
noncomputable def Lo (C:af) (yk:Int) (t38:LV) (t39 cC cT:Int) (dG dw:LV):=fun t40=>ER C yk t38 t39 cC cT dG dw t40 (fun y=>some (Sum.inl y)) (fun r=>some (Sum.inr r))
noncomputable def abB (C:af):cx:=br 225 Rc [EQ,EQ,EQ,EQ,EQ,EQ,H1,EQ,EQ,EQ,EQ] [[0],[1,2,3,4,5,6,0,0,8,9,10,11]] (@EP C) (br 145 Re [EQ,EQ,EQ,H1,EQ,EQ,EQ,EQ] [[0],[1,2,3,0,0,5,6,7,8]] (@ER C) bA)
theorem alh (C:af):aZ C (abB C) 24 (Lp [1,1,1,1,1,0,1,0,0,1,1,0,0,1,1,1,0,0] 24):=bq Rc [EQ,EQ,EQ,EQ,EQ,EQ,H1,EQ,EQ,EQ,EQ] [[0],[1,2,3,4,5,6,0,0,8,9,10,11]] (@EP C) (aR au)
theorem ali (C:af):aZ C (abB C) 24 (Lp [1,1,1,1,1,0,1,0,0] 24):=bq Re [EQ,EQ,EQ,H1,EQ,EQ,EQ,EQ] [[0],[1,2,3,0,0,5,6,7,8]] (@ER C) (aR (aY (alh C) au))
noncomputable def abC (C:af) (bV cb:Int) (bG bZ:LV):Option LV:=
 bif decide (bV<1) then
  some [V.int .i64 1]
 else
  bif decide (bV>6) then
  some [V.int .i64 1]
  else
  bif decide ((bG.length:Int)>512) then
   some [V.int .i64 3]
  else
   bif (bZ.length:Int) != (bG.length:Int) then
   some [V.int .i64 4]
   else
   bif decide (cb<0) then
    some [V.int .i64 4]
   else
    bif decide (cb≥(bG.length:Int)) then
    some [V.int .i64 4]
    else
    (Loop (Lo C (bG.length:Int) bZ (bZ.length:Int) bV cb bG bZ) 0).bind (cM (fun oz=>
     some [V.int .i64 oz]) (un fun (oA:Int) (wk:Bool)=>
     some [V.int .i64 0]))
theorem alj {bV cb:Int} {bG bZ:LV} {r:Option LV} (h:abC CC bV cb bG bZ=r):CC sC [V.int .i64 bV,V.int .i64 cb,.list ax bG,.list ah bZ]=r:=bz (aY (ali CC) au) h
noncomputable def ES (C:af) (n:Int) (t38:LV) (t39 t40:Int) (t49:LV) (t50 cC cT:Int) (dG dw:LV) (t51:Int) {β:Type} (kn:Int→Option β) (kr:((Int) ⊕ (Int×Bool))→Option β):Option β:=
 bif decide (t51<t50) then
  (idx t49 t51).bind fun x3=>
  bif decide ((x3.toInt:Int)<0) then
  kr (.inl 4)
  else
  bif decide ((x3.toInt:Int)≥n) then
   kr (.inl 4)
  else
   kn (wrap .i64 (t51+1))
 else
  kr (.inr (t51,decide (t51<t50)))
noncomputable def Lq (C:af) (n:Int) (t38:LV) (t39 t40:Int) (t49:LV) (t50 cC cT:Int) (dG dw:LV):=fun t51=>ES C n t38 t39 t40 t49 t50 cC cT dG dw t51 (fun y=>some (Sum.inl y)) (fun r=>some (Sum.inr r))
noncomputable def ET (C:af) (n:Int) (t38:LV) (t39 cC cT:Int) (dG dw:LV) (t40:Int) {β:Type} (kn:Int→Option β) (kr:((Int) ⊕ (Int×Bool))→Option β):Option β:=
 bif decide (t40<t39) then
  (idx t38 t40).bind fun x2=>
  bif (x2.toList.length:Int) != cC then
  kr (.inl 4)
  else
  (Loop (Lq C n t38 t39 t40 x2.toList (x2.toList.length:Int) cC cT dG dw) 0).bind (cM (fun gP=>
   kr (.inl gP)) (un fun (oy:Int) (oz:Bool)=>
   kn (wrap .i64 (t40+1))))
 else
  kr (.inr (t40,decide (t40<t39)))
noncomputable def Lr (C:af) (n:Int) (t38:LV) (t39 cC cT:Int) (dG dw:LV):=fun t40=>ET C n t38 t39 cC cT dG dw t40 (fun y=>some (Sum.inl y)) (fun r=>some (Sum.inr r))
noncomputable def abD (C:af):cx:=br 225 Q7 [EQ,EQ,EQ,EQ,EQ,EQ,H1,EQ,EQ,EQ,EQ] [[0],[1,2,3,4,5,6,0,0,8,9,10,11]] (@ES C) (br 145 Q8 [EQ,EQ,EQ,H1,EQ,EQ,EQ,EQ] [[0],[1,2,3,0,0,5,6,7,8]] (@ET C) bA)
theorem alk (C:af):aZ C (abD C) 14 (Lp [1,1,1,1,1,0,1,0,0,1,1,0,0,1,1,1,0,0] 14):=bq Q7 [EQ,EQ,EQ,EQ,EQ,EQ,H1,EQ,EQ,EQ,EQ] [[0],[1,2,3,4,5,6,0,0,8,9,10,11]] (@ES C) (aR au)
theorem alm (C:af):aZ C (abD C) 14 (Lp [1,1,1,1,1,0,1,0,0] 14):=bq Q8 [EQ,EQ,EQ,H1,EQ,EQ,EQ,EQ] [[0],[1,2,3,0,0,5,6,7,8]] (@ET C) (aR (aY (alk C) au))
noncomputable def abE (C:af) (bV cb:Int) (bG bZ:LV):Option LV:=
 (C DW [V.int .i64 bV]).bind fun r1=>
 bif !((V.nth r1 0).toBool) then
  some [V.int .i64 1]
 else
  bif decide ((bG.length:Int)>512) then
  some [V.int .i64 3]
  else
  bif (bG.length:Int)==0 then
   some [V.int .i64 4]
  else
   bif (bZ.length:Int) != (bG.length:Int) then
   some [V.int .i64 4]
   else
   bif decide (cb<0) then
    some [V.int .i64 4]
   else
    bif decide (cb≥(bG.length:Int)) then
    some [V.int .i64 4]
    else
    (Loop (Lr C (bG.length:Int) bZ (bZ.length:Int) bV cb bG bZ) 0).bind (cM (fun oA=>
     some [V.int .i64 oA]) (un fun (wk:Int) (mL:Bool)=>
     some [V.int .i64 0]))
theorem aln {bV cb:Int} {bG bZ:LV} {r:Option LV} (h:abE CC bV cb bG bZ=r):CC J3 [V.int .i64 bV,V.int .i64 cb,.list ax bG,.list ah bZ]=r:=bz (aY (alm CC) au) h
noncomputable def abF (C:af) (dh:Int):Option LV:=
 bif decide (dh≥1) then
  some [.bool (decide (dh≤6))]
 else
  some [.bool false]
theorem alo {dh:Int} {r:Option LV} (h:abF CC dh=r):CC DW [V.int .i64 dh]=r:=bz (L:=bA) au h
theorem abG (n:Int):CC DW [.int .i64 n]=some [.bool (decide (1≤n∧n≤6))]:=by
 refine alo ?_;unfold abF;rw[bu];split
 ·refine congrArg (fun b=>some [V.bool b]) ?_;rw[decide_eq_decide];omega
 ·have: ¬(1≤n∧n≤6):=by omega
  simp[this]
abbrev iV (n:Int):V:= .int .i64 n
def lT (r:List Int):V:= .list ae (r.map iV)
@[simp] theorem abH (r:List Int):(lT r).toList=r.map iV:=by simp[lT]
structure Df where
 L:Int
 st:Int
 F:List Bool
 N:List (List Int)
def rI (d:Df) (l:List V):List V:= .int .i64 d.L:: .int .i64 d.st:: .list ax (d.F.map V.bool):: .list ah (d.N.map lT)::l
namespace Df
structure Ok (d:Df):Prop where
 L1: -9223372036854775808≤d.L
 L2:d.L≤9223372036854775807
 s1: -9223372036854775808≤d.st
 s2:d.st≤9223372036854775807
 F:d.F.length≤maxLen
 N:d.N.length≤maxLen
 row: ∀r∈d.N,r.length≤maxLen∧∀q∈r,-9223372036854775808≤q∧q≤9223372036854775807
def jC (d:Df) (r:List Int) (i:Nat):Prop:=0≤r.getD i 0∧r.getD i 0<d.F.length
instance (d:Df) (r:List Int):DecidablePred (d.jC r):=fun i=>by unfold jC;infer_instance
def ny (d:Df) (q:Nat):Prop:=((d.N.getD q []).length:Int)=d.L∧∀i,i<(d.N.getD q []).length→d.jC (d.N.getD q []) i
instance (d:Df):DecidablePred d.ny:=fun i=>by unfold ny;infer_instance
def val (d:Df):Int:=
 if d.L<1∨6<d.L then 1
 else if 512<d.F.length then 3
 else if d.N.length≠d.F.length∨d.st<0∨(d.F.length:Int)≤d.st then 4
 else if∀q,q<d.N.length→d.ny q then 0 else 4
end Df
theorem EU {α:Type} {f:α→V} {l:List α} {i:Nat} {z:α} (h:i<l.length):idx (l.map f) (i:Int)=some (f (l.getD i z)):=by
 rw[aij rfl h];simp[h]
section
variable {d:Df} (hd:d.Ok)
include hd
theorem abI {q:Nat} (h:q<d.N.length):(d.N.getD q []).length≤maxLen:=by
 rw[show d.N.getD q []=d.N[q] by simp[h]];exact (hd.row _ (cJ h)).1
theorem alp {q:Nat} (hq:q<d.N.length) {t38:List V} {t39:Int} {a b:Int} {l1 l2:List V}:
  Loop (Ln CC (d.F.length:Int) t38 t39 (q:Int) ((d.N.getD q []).map iV) (((d.N.getD q []).map iV).length:Int) a b l1 l2) 0=
   some (if∀i,i<(d.N.getD q []).length→d.jC (d.N.getD q []) i then .inr (((d.N.getD q []).length:Int),false) else .inl 4):=by
 have hl:=abI hd hq;have hm:=Lf;generalize d.N.getD q []=r at*
 refine AT (d.jC r) r.length (fun i=>(i:Int)) (.inl 4:Int ⊕ (Int×Bool)) (.inr ((r.length:Int),false)) (fun i hi=> ?_) ?_
 ·simp only[Ln,EP,cU,bu];rw[bt,EU (z:=0) hi];simp only[Option.bind_some,V.toInt_int];by_cases h1:r.getD i 0<0
  ·rw[ak h1,aj (show¬d.jC r i from fun h=>by unfold Df.jC at h;omega)]
  ·rw[aj h1];by_cases h2:r.getD i 0≥(d.F.length:Int)
   ·rw[ak h2,aj (show¬d.jC r i from fun h=>by unfold Df.jC at h;omega)]
   ·rw[aj h2,ak (show d.jC r i from ⟨by omega,by omega⟩),gB];rfl
 ·simp only[Ln,EP,cU,bu];rw[bN,H0]
theorem alq {a b:Int} {l1 l2:List V}:
  Loop (Lo CC (d.F.length:Int) (d.N.map lT) ((d.N.map lT).length:Int) d.L b l1 l2) 0=
   some (if∀q,q<d.N.length→d.ny q then .inr ((d.N.length:Int),false) else .inl 4):=by
 have hm:=Lf;have hN:=hd.N;refine AT d.ny d.N.length (fun i=>(i:Int)) (.inl 4:Int ⊕ (Int×Bool)) (.inr ((d.N.length:Int),false)) (fun q hq=> ?_) ?_
 ·simp only[Lo,ER,cU,bu];rw[bt,EU (z:=[]) hq];simp only[Option.bind_some,abH,cU,JP];have:=alp hd hq (t38:=d.N.map lT) (t39:=(d.N.length:Int)) (a:=d.L) (b:=b) (l1:=l1) (l2:=l2);rw[cU] at this;by_cases h1:((d.N.getD q []).length:Int)=d.L
  ·rw[ak h1];refine bs this ?_;by_cases h2: ∀i,i<(d.N.getD q []).length→d.jC (d.N.getD q []) i
   ·rw[ak h2,ak (show d.ny q from ⟨h1,h2⟩)];simp only[cM,un];rw[gB];rfl
   ·rw[aj h2,aj (show¬d.ny q from fun h=>h2 h.2)];rfl
  ·rw[aj h1,aj (show¬d.ny q from fun h=>h1 h.1)]
 ·simp only[Lo,ER,cU,bu];rw[bN,H0]
theorem alr:CC sC (rI d [])=some [.int .i64 d.val]:=by
 refine alj ?_;unfold abC Df.val;simp only[cU,bu,JP];have h:=alq hd (a:=0) (b:=d.st) (l1:=d.F.map V.bool) (l2:=d.N.map lT);rw[cU] at h;by_cases h1:d.L<1
 ·rw[ak h1,ak (.inl h1)]
 rw[aj h1];by_cases h2:d.L>6
 ·rw[ak h2,ak (.inr h2)]
 rw[aj h2,aj (show¬(d.L<1∨6<d.L) by omega)];by_cases h3:512<d.F.length
 ·rw[ak (show (d.F.length:Int)>512 by omega),ak h3]
 rw[aj (show¬(d.F.length:Int)>512 by omega),aj h3];by_cases h4:d.N.length=d.F.length
 ·rw[ak (show (d.N.length:Int)=(d.F.length:Int) by omega)];by_cases h5:d.st<0
  ·rw[ak h5,ak (.inr (.inl h5))]
  rw[aj h5];by_cases h6:d.st≥(d.F.length:Int)
  ·rw[ak h6,ak (.inr (.inr h6))]
  rw[aj h6,aj (show¬(d.N.length≠d.F.length∨d.st<0∨(d.F.length:Int)≤d.st) by omega)];refine bs h ?_;split<;>rfl
 ·rw[aj (show¬(d.N.length:Int)=(d.F.length:Int) by omega),ak (.inl h4)]
theorem als {q:Nat} (hq:q<d.N.length) {t38:List V} {t39:Int} {a b:Int} {l1 l2:List V}:
  Loop (Lq CC (d.F.length:Int) t38 t39 (q:Int) ((d.N.getD q []).map iV) (((d.N.getD q []).map iV).length:Int) a b l1 l2) 0=
   some (if∀i,i<(d.N.getD q []).length→d.jC (d.N.getD q []) i then .inr (((d.N.getD q []).length:Int),false) else .inl 4):=by
 have hl:=abI hd hq;have hm:=Lf;generalize d.N.getD q []=r at*
 refine AT (d.jC r) r.length (fun i=>(i:Int)) (.inl 4:Int ⊕ (Int×Bool)) (.inr ((r.length:Int),false)) (fun i hi=> ?_) ?_
 ·simp only[Lq,ES,cU,bu];rw[bt,EU (z:=0) hi];simp only[Option.bind_some,V.toInt_int];by_cases h1:r.getD i 0<0
  ·rw[ak h1,aj (show¬d.jC r i from fun h=>by unfold Df.jC at h;omega)]
  ·rw[aj h1];by_cases h2:r.getD i 0≥(d.F.length:Int)
   ·rw[ak h2,aj (show¬d.jC r i from fun h=>by unfold Df.jC at h;omega)]
   ·rw[aj h2,ak (show d.jC r i from ⟨by omega,by omega⟩),gB];rfl
 ·simp only[Lq,ES,cU,bu];rw[bN,H0]
theorem alu {b:Int} {l1 l2:List V}:
  Loop (Lr CC (d.F.length:Int) (d.N.map lT) ((d.N.map lT).length:Int) d.L b l1 l2) 0=
   some (if∀q,q<d.N.length→d.ny q then .inr ((d.N.length:Int),false) else .inl 4):=by
 have hm:=Lf;have hN:=hd.N;refine AT d.ny d.N.length (fun i=>(i:Int)) (.inl 4:Int ⊕ (Int×Bool)) (.inr ((d.N.length:Int),false)) (fun q hq=> ?_) ?_
 ·simp only[Lr,ET,cU,bu];rw[bt,EU (z:=[]) hq];simp only[Option.bind_some,abH,cU,JP];have:=als hd hq (t38:=d.N.map lT) (t39:=(d.N.length:Int)) (a:=d.L) (b:=b) (l1:=l1) (l2:=l2);rw[cU] at this;by_cases h1:((d.N.getD q []).length:Int)=d.L
  ·rw[ak h1];refine bs this ?_;by_cases h2: ∀i,i<(d.N.getD q []).length→d.jC (d.N.getD q []) i
   ·rw[ak h2,ak (show d.ny q from ⟨h1,h2⟩)];simp only[cM,un];rw[gB];rfl
   ·rw[aj h2,aj (show¬d.ny q from fun h=>h2 h.2)];rfl
  ·rw[aj h1,aj (show¬d.ny q from fun h=>h1 h.1)]
 ·simp only[Lr,ET,cU,bu];rw[bN,H0]
theorem alv:CC J3 (rI d [])=some [.int .i64 d.val]:=by
 refine aln ?_;unfold abE Df.val;refine bs (abG d.L) ?_;simp only[cU,bu,JP,vT,V.dF,V.dP,iY];have h:=alu hd (b:=d.st) (l1:=d.F.map V.bool) (l2:=d.N.map lT);rw[cU] at h;by_cases h1:d.L<1∨6<d.L
 ·rw[ak h1,aj (show¬(1≤d.L∧d.L≤6) by omega)]
 rw[aj h1,ak (show 1≤d.L∧d.L≤6 by omega)];by_cases h3:512<d.F.length
 ·rw[ak (show (d.F.length:Int)>512 by omega),ak h3]
 rw[aj (show¬(d.F.length:Int)>512 by omega),aj h3];by_cases h0:d.F.length=0
 ·rw[ak (show (d.F.length:Int)=0 by omega),bt]
 rw[aj (show¬(d.F.length:Int)=0 by omega)];by_cases h4:d.N.length=d.F.length
 ·rw[ak (show (d.N.length:Int)=(d.F.length:Int) by omega)];by_cases h5:d.st<0
  ·rw[ak h5,ak (.inr (.inl h5))]
  rw[aj h5];by_cases h6:d.st≥(d.F.length:Int)
  ·rw[ak h6,ak (.inr (.inr h6))]
  rw[aj h6,aj (show¬(d.N.length≠d.F.length∨d.st<0∨(d.F.length:Int)≤d.st) by omega)];refine bs h ?_;split<;>rfl
 ·rw[aj (show¬(d.N.length:Int)=(d.F.length:Int) by omega),ak (.inl h4)]
end
def rj (r:List Nat):List Int:=r.map fun q:Nat=>(q:Int)
theorem abJ (r:List Nat) (i:Nat):(rj r).getD i 0=((r.getD i 0:Nat):Int):=by
 unfold rj;by_cases h:i<r.length
 ·rw[bC h,bC (by simpa using h)];simp
 ·simp[List.getElem?_eq_none (Nat.le_of_not_lt h)]
def Da.df (a:Da):Df:=⟨a.L,a.st,a.F,a.N.map rj⟩
theorem alw {d:Df} (h:d.val=0): ∃a:Da,a.Ok∧d=a.df:=by
 unfold Df.val at h;split at h
 ·omega
 rename_i h1;split at h
 ·omega
 rename_i h2;split at h
 ·omega
 rename_i h3;split at h
 case isFalse=>omega
 rename_i h4;have hr: ∀r∈d.N,(r.length:Int)=d.L∧∀q∈r,0≤q∧q<d.F.length:=fun r hr=>by
  obtain ⟨i,hi,rfl⟩:=qx hr;have:=h4 i hi;unfold Df.ny at this;rw[show d.N.getD i []=d.N[i] by simp[hi]] at this;refine ⟨this.1,fun q hq=> ?_⟩;obtain ⟨j,hj,rfl⟩:=qx hq;have h5:=this.2 j hj;unfold Df.jC at h5;rwa [show d.N[i].getD j 0=d.N[i][j] by simp[hj]] at h5
 refine ⟨⟨d.L.toNat,d.st.toNat,d.F,d.N.map fun r=>r.map Int.toNat⟩,⟨by simp only;omega,by simp only;omega,by simp only[Da.n,cU];omega,?_,by simp only[Da.n];omega,by simp only[Da.n];omega⟩,?_⟩
 ·intro r nk;obtain ⟨r,hr3,rfl⟩:=eu.1 nk;have:=hr r hr3;refine ⟨by simp only[cU];omega,fun q hq=> ?_⟩;obtain ⟨q,qT,rfl⟩:=eu.1 hq;have:=this.2 q qT;simp only[Da.n];omega
 ·obtain ⟨L,st,F,N⟩:=d;simp only[Da.df] at*
  have e1:L=(L.toNat:Int):=by omega
  have e2:st=(st.toNat:Int):=by omega
  rw[←e1,←e2];congr 1;rw[pH]
  calc N=N.map id:=(List.map_id N).symm
   _=_:=mo fun r h=>by
    have:=(hr r h).2;simp only[Function.comp,rj,pH,id]
    calc r=r.map id:=(List.map_id r).symm
     _=_:=mo fun q hq=>by
      have:=this q hq;simp only[Function.comp,id];omega
theorem Da.Ok.alx {a:Da} (h:a.Ok):a.df.Ok:=by
 have h1:=h.l6;have h2:=h.s;have h3:=h.jc;have h4:=h.nN;unfold Da.n at*
 refine ⟨by simp only[Da.df];omega,by simp only[Da.df];omega,by simp only[Da.df];omega,by simp only[Da.df];omega,by simp only[Da.df];unfold maxLen;omega,by simp only[Da.df,cU];unfold maxLen;omega,fun r hr=> ?_⟩;obtain ⟨r,nk,rfl⟩:=eu.1 hr;have:=h.row r nk;refine ⟨by simp only[rj,cU];unfold maxLen;omega,fun q hq=> ?_⟩;obtain ⟨q,qT,rfl⟩:=eu.1 hq;have:=this.2 q qT;unfold Da.n at this;omega
theorem Da.Ok.val {a:Da} (h:a.Ok):a.df.val=0:=by
 have h0:=h.l1;have h1:=h.l6;have h2:=h.s;have h3:=h.jc;have h4:=h.nN;unfold Da.n at*
 unfold Df.val;rw[aj (by simp only[Da.df];omega),aj (by simp only[Da.df];omega),aj (by simp only[Da.df,cU];omega),ak];intro q hq;simp only[Da.df,cU] at hq;have e:a.df.N.getD q []=rj (a.N.getD q []):=by simp[Da.df,hq]
 have hr:=h.row (a.N.getD q []) (by rw[show a.N.getD q []=a.N[q] by simp[hq]];exact cJ hq);unfold Df.ny;rw[e];refine ⟨by simp only[rj,cU,Da.df];omega,fun i hi=> ?_⟩;rw[rj,cU] at hi;have:=hr.2 ((a.N.getD q [])[i]) (cJ hi);unfold Df.jC;rw[abJ,bC hi];simp only[Da.df];unfold Da.n at this;omega
def tab {α:Type} (n:Nat) (g:Nat→α):List α:=(List.range n).map g
section
variable {α β:Type} {n i:Nat} {g h:Nat→α}
@[simp] theorem eC:(tab n g).length=n:=by simp[tab]
theorem lf (hi:i<n):(tab n g)[i]? =some (g i):=by simp[tab,hi]
theorem uG (hi:i<n) {z:α}:(tab n g).getD i z=g i:=by simp[tab,hi]
theorem SU (hi:i<(tab n g).length):(tab n g)[i]=g i:=by simp[tab]
theorem cG (e: ∀j,j<n→g j=h j):tab n g=tab n h:=mo fun j hj=>e j (fg.1 hj)
theorem iG {v:α}:(tab n g).set i v=tab n fun j=>if j=i then v else g j:=by
 refine tj (by simp) fun j h1 h2=> ?_;rw[List.getElem_set,SU,SU];simp only[eq_comm]
theorem aly:tab n g++[g n]=tab (n+1) g:=by simp[tab,B8]
theorem EV:tab (n+1) g=tab n g++[g n]:=aly.symm
theorem mM {v:α}:List.replicate n v=tab n fun _=>v:=by simp[tab,List.map_const']
theorem alz {f:α→β}:(tab n g).map f=tab n fun i=>f (g i):=by simp[tab,Function.comp]
theorem abK (l:List α) (z:α):l=tab l.length fun i=>l.getD i z:=by
 refine tj (by simp) fun j h1 h2=> ?_;rw[SU];simp[h1]
theorem yl (l:List α) (z:α) {f:α→β}:l.map f=tab l.length fun i=>f (l.getD i z):=by
 rw[←alz,←abK]
theorem Ls {a:α}:a∈tab n g↔∃i,i<n∧g i=a:=by simp[tab]
end
section
variable {γ:Type} {n i:Nat} {g:Nat→V}
theorem qg (hi:i<n):idx (tab n g) (i:Int)=some (g i):=by rw[PS rfl,lf hi]
theorem lg (hi:i<n) {K:V→Option γ}:(bif (decide (0≤(i:Int)))&&(decide ((i:Int)<((tab n g).length:Int))) then ((tab n g)[((i:Int)).toNat]?).bind K else none)=K (g i):=by
 rw[Int.toNat_natCast,lf hi,pI.2 ⟨cW (by omega),cW (by rw[eC];omega)⟩];rfl
theorem cw {es:List V} {v:V} (hi:es[i]? =some v) {K:V→Option γ}:(bif (decide (0≤(i:Int)))&&(decide ((i:Int)<(es.length:Int))) then (es[((i:Int)).toNat]?).bind K else none)=K v:=by
 have hl:i<es.length:=by
  rcases gr i es.length with h|h
  ·exact h
  ·rw[List.getElem?_eq_none h] at hi;cases hi
 rw[Int.toNat_natCast,hi,pI.2 ⟨cW (by omega),cW (by omega)⟩];rfl
theorem nz {m:Nat} (hi:i<m):((decide (0≤(i:Int)))&&(decide ((i:Int)<(m:Int))))=true:=pI.2 ⟨cW (by omega),cW (by omega)⟩
end
theorem cap {a b m:Nat} (h:a+b≤10000000) (hm:m≤1000):Nat.ble ((a+b)*m) bm=true:=by
 rw[fe,abp];have:=Nat.mul_le_mul h hm;omega
theorem ga {n m:Nat} (h:n≤10000000) (hm:m≤1000):((decide (0≤(n:Int)))&&((decide ((n:Int)≤(n:Int)))&&(Nat.ble (((n:Int).toNat)*m) bm)))=true:=by
 have h2:=Nat.mul_le_mul h hm;rw[Int.toNat_natCast];refine pI.2 ⟨cW (by omega),pI.2 ⟨cW (by omega),?_⟩⟩;rw[fe,abp];omega
theorem cm {i:Nat} (h:i≤1000000000):wrap .i64 ((i:Int)+1)=((i+1:Nat):Int):=by rw[gB];omega
theorem cd {i n:Nat} (h:i<n):decide ((i:Int)<(n:Int))=true:=cW (by omega)
theorem aV {i n:Nat} (h:n≤i):decide ((i:Int)<(n:Int))=false:=cO (by omega)
section
variable {X R:Type} {step:X→Option (X ⊕ R)}
theorem dR (n:Nat) (s:Nat→X) (r:R) (h: ∀i,i<n→step (s i)=some (.inl (s (i+1)))) (he:step (s n)=some (.inr r)):Loop step (s 0)=some r:=aik s n h he
theorem sJ (P:Nat→X→Prop) (Q:R→Prop): ∀(n k:Nat) (x:X),(∀i,k≤i→i<k+n→∀x,P i x→∃y,step x=some (.inl y)∧P (i+1) y)→(∀x,P (k+n) x→∃r,step x=some (.inr r)∧Q r)→P k x→∃r,Loop step x=some r∧Q r
 | 0,k,x,_,he,hx=>by
  obtain ⟨r,h1,h2⟩:=he x hx;exact ⟨r,cQ h1,h2⟩
 | n+1,k,x,h,he,hx=>by
  obtain ⟨y,h1,h2⟩:=h k (az _) (by omega) x hx;obtain ⟨r,h3,h4⟩:=sJ P Q n (k+1) y (fun i hi hn=>h i (by omega) (by omega)) (by rw[show k+1+n=k+(n+1) by omega];exact he) h2;exact ⟨r,(eD h1).trans h3,h4⟩
theorem alA (bad:Nat→Bool) (n:Nat) (s:Nat→X) (r1:Nat→R) (r2:R) (h: ∀i,i<n→step (s i)=some (if bad i=true then .inr (r1 i) else .inl (s (i+1)))) (he:step (s n)=some (.inr r2)):
  (∃i,i<n∧bad i=true∧(∀j,j<i→bad j=false)∧Loop step (s 0)=some (r1 i))∨((∀i,i<n→bad i=false)∧Loop step (s 0)=some r2):=by
 have go: ∀(d k:Nat),k+d=n→(∀j,j<k→bad j=false)→Loop step (s 0)=Loop step (s k)→(∃i,i<n∧bad i=true∧(∀j,j<i→bad j=false)∧Loop step (s 0)=some (r1 i))∨((∀i,i<n→bad i=false)∧Loop step (s 0)=some r2):=by
  intro d
  induction d with
  | zero=>
   intro k hk hb e;obtain rfl:k=n:=by omega
   exact .inr ⟨hb,e.trans (cQ he)⟩
  | succ d ih=>
   intro k hk hb e;have h1:=h k (by omega);cases ue:bad k with
   | true=>
    rw[ak ue] at h1;exact .inl ⟨k,by omega,ue,hb,e.trans (cQ h1)⟩
   | false=>
    rw[aj (by rw[ue];simp)] at h1;refine ih (k+1) (by omega) (fun j hj=> ?_) (e.trans (eD h1));rcases gr j k with c|c
    ·exact hb j c
    ·rw[show j=k by omega];exact ue
 exact go n 0 (by omega) (fun j hj=>by omega) rfl
end
noncomputable def EW (C:af) (w:List UInt8) (dh t18 t19:Int) {β:Type} (kn:Int→Option β) (kr:((Bool) ⊕ (Int×Bool))→Option β):Option β:=
 bif decide (t19<t18) then
  (bif decide (0≤t19) then (w[t19.toNat]?).map fun b=>V.int .u8 b.toNat else none).bind fun x1=>
  bif decide ((x1.toInt:Int)<97) then
  kr (.inl false)
  else
  (bif decide (0≤t19) then (w[t19.toNat]?).map fun b=>V.int .u8 b.toNat else none).bind fun x2=>
  bif decide (((wrap .i64 (wrap .u8 (x2.toInt-97))):Int)≥dh) then
   kr (.inl false)
  else
   kn (wrap .i64 (t19+1))
 else
  kr (.inr (t19,decide (t19<t18)))
noncomputable def Lt (C:af) (w:List UInt8) (dh t18:Int):=fun t19=>EW C w dh t18 t19 (fun y=>some (Sum.inl y)) (fun r=>some (Sum.inr r))
noncomputable def alB (C:af):cx:=br 65 Ra [EQ,EQ,EQ,H1] [[0],[1,2,3,0,0]] (@EW C) bA
theorem alC (C:af):aZ C (alB C) 22 (Lp [1,1,0,1,0,0] 22):=bq Ra [EQ,EQ,EQ,H1] [[0],[1,2,3,0,0]] (@EW C) (aR au)
noncomputable def abL (C:af) (w:List UInt8) (dh:Int):Option LV:=
 bif decide (dh<1) then
  some [.bool false]
 else
  bif decide (dh>6) then
  some [.bool false]
  else
  bif decide ((w.length:Int)>2048) then
   some [.bool false]
  else
   (Loop (Lt C w dh (w.length:Int)) 0).bind (cM (fun (jB:Bool)=>
    some [.bool jB]) (un fun (gP:Int) (oy:Bool)=>
    some [.bool true]))
theorem alD {w:List UInt8} {dh:Int} {r:Option LV} (h:abL CC w dh=r):CC Al [.str w,V.int .i64 dh]=r:=bz (aY (alC CC) au) h
def fF (w:List UInt8) (i:Nat):Int:=((w.getD i 0).toNat:Int)-97
def kj (w:List UInt8) (L:Int):Prop:=1≤L∧L≤6∧w.length≤2048∧∀i,i<w.length→0≤fF w i∧fF w i<L
instance (w:List UInt8) (L:Int):Decidable (kj w L):=by unfold kj;infer_instance
theorem Lu {w:List UInt8} {i:Nat} (h:i<w.length):(bif decide (0≤(i:Int)) then (w[((i:Nat):Int).toNat]?).map (fun b=>V.int .u8 b.toNat) else none)=some (.int .u8 ((w.getD i 0).toNat:Int)):=by
 rw[bu,bt,Int.toNat_natCast];simp[h]
theorem abM (b:UInt8):b.toNat<256:=b.toNat_lt
theorem Lv {w:List UInt8} {i:Nat} (h:0≤fF w i):wrap .u8 (((w.getD i 0).toNat:Int)-97)=fF w i:=by
 have:=abM (w.getD i 0);unfold fF at*
 exact JN h (by omega)
theorem abN {w:List UInt8} {i:Nat}:fF w i<256:=by
 have:=abM (w.getD i 0);unfold fF;omega
theorem alE {w:List UInt8} {L:Int} (hl:w.length≤2048):Loop (Lt CC w L (w.length:Int)) 0=some (if∀i,i<w.length→0≤fF w i∧fF w i<L then .inr ((w.length:Int),false) else .inl false):=by
 refine AT (good:=fun i=>0≤fF w i∧fF w i<L) w.length (fun i=>(i:Int)) (Sum.inl false:Bool ⊕ (Int×Bool)) (Sum.inr ((w.length:Int),false)) (fun i hi=> ?_) ?_
 ·simp only[Lt,EW,un];rw[bu,bt,Lu hi];simp only[Option.bind_some,V.toInt_int,bu];by_cases h1:0≤fF w i
  ·have kV:=h1;unfold fF at kV;rw[bN,Lv h1,wrap64 (by omega) (by have:= @abN w i;omega)];by_cases h2:fF w i<L
   ·rw[bN,ak ⟨h1,h2⟩,gB];simp
   ·rw[bt,aj (fun h=>h2 h.2)]
  ·have kV:=h1;unfold fF at kV;rw[bt,aj (fun h=>h1 h.1)]
 ·simp only[Lt,EW,un];rw[bu,bN];simp
theorem SV (w:List UInt8) (L:Int):CC Al [.str w,.int .i64 L]=some [.bool (decide (kj w L))]:=by
 refine alD ?_;unfold abL;simp only[bu];by_cases h1:L<1
 ·rw[ak h1,cO (fun h=>by have:=h.1;omega)]
 rw[aj h1];by_cases h2:L>6
 ·rw[ak h2,cO (fun h=>by have:=h.2.1;omega)]
 rw[aj h2];by_cases h3:(w.length:Int)>2048
 ·rw[ak h3,cO (fun h=>by have:=h.2.2.1;omega)]
 rw[aj h3,alE (by omega)];by_cases h4: ∀i,i<w.length→0≤fF w i∧fF w i<L
 ·rw[ak h4,cW (show kj w L from ⟨by omega,by omega,by omega,h4⟩)];simp[cM,un]
 ·rw[aj h4,cO (fun h=>h4 h.2.2.2)];simp[cM,un]
noncomputable def EX (C:af) (w:List UInt8) (t30 cC cT:Int) (dG dw:LV) (state t31:Int) {β:Type} (kn:(Int×Int)→Option β) (kr:(Int×Int×Bool)→Option β):Option β:=
 bif decide (t31<t30) then
  (idx dw state).bind fun x3=>
  (bif decide (0≤t31) then (w[t31.toNat]?).map fun b=>V.int .u8 b.toNat else none).bind fun x4=>
  (idx x3.toList (wrap .u8 (x4.toInt-97))).bind fun x5=>
  kn (x5.toInt,wrap .i64 (t31+1))
 else
  kr (state,t31,decide (t31<t30))
noncomputable def Lw (C:af) (w:List UInt8) (t30 cC cT:Int) (dG dw:LV):=un fun state t31=>EX C w t30 cC cT dG dw state t31 (fun y=>some (Sum.inl y)) (fun r=>some (Sum.inr r))
noncomputable def alF (C:af):cx:=br 65 Rb [H1,EQ,EQ,H1,EQ,EQ,EQ,EQ] [[0,2,3,0,0,5,6,7,8]] (@EX C) bA
theorem alG (C:af):aZ C (alF C) 23 (Lp [1,1,0,1,0,0] 23):=bq Rb [H1,EQ,EQ,H1,EQ,EQ,EQ,EQ] [[0,2,3,0,0,5,6,7,8]] (@EX C) (aR au)
noncomputable def abO (C:af) (bV cb:Int) (bG bZ:LV) (state:Int) (w:List UInt8):Option LV:=
 (C sC [V.int .i64 bV,V.int .i64 cb,.list ax bG,.list ah bZ]).bind fun r1=>
 bif (((V.nth r1 0).toInt):Int) != 0 then
  some [V.int .i64 (-1)]
 else
  bif decide (state<0) then
  some [V.int .i64 (-1)]
  else
  bif decide (state≥(bG.length:Int)) then
   some [V.int .i64 (-1)]
  else
   (C Al [.str w,V.int .i64 bV]).bind fun r2=>
   bif !((V.nth r2 0).toBool) then
   some [V.int .i64 (-1)]
   else
   (Loop (Lw C w (w.length:Int) bV cb bG bZ) (state,0)).bind (un fun alH=>un fun (oA:Int) (wk:Bool)=>
    some [V.int .i64 alH])
theorem alI {bV cb:Int} {bG bZ:LV} {state:Int} {w:List UInt8} {r:Option LV} (h:abO CC bV cb bG bZ state w=r):CC J7 [V.int .i64 bV,V.int .i64 cb,.list ax bG,.list ah bZ,V.int .i64 state,.str w]=r:=bz (aY (alG CC) au) h
def lU (L:Nat) (f:Nat→Nat):V:= .list ae (tab L fun x=>iV (f x))
def Da.dH (a:Da):List V:=tab a.n fun q=>V.bool (a.fin q)
def Da.dX (a:Da):List V:=tab a.n fun q=>lU a.L (a.nx q)
@[simp] theorem Da.EY {a:Da}:a.dH.length=a.n:=by simp[Da.dH]
@[simp] theorem Da.alJ {a:Da}:a.dX.length=a.n:=by simp[Da.dX]
@[simp] theorem EZ {L:Nat} {f:Nat→Nat}:(lU L f).toList=tab L fun x=>iV (f x):=by simp[lU]
def uH (a:Da) (l:List V):List V:= .int .i64 a.L:: .int .i64 a.st:: .list ax a.dH:: .list ah a.dX::l
def fA (a:Da):List V:=uH a []
theorem Da.Ok.leaves {a:Da} (h:a.Ok) (l:List V):rI a.df l=uH a l:=by
 unfold rI uH;have e1:a.df.F.map V.bool=a.dH:=yl _ false;have e2:a.df.N.map lT=a.dX:=by
  unfold Da.dX;rw[yl _ [],show a.df.N.length=a.n by simp[Da.df,h.nN]];refine cG fun q hq=> ?_;have dE:q<a.N.length:=by rw[h.nN];exact hq
  unfold lT lU;rw[show a.df.N.getD q []=rj (a.N.getD q []) by simp[Da.df,dE],yl _ 0];have hl:(rj (a.N.getD q [])).length=a.L:=by simp only[rj,cU];exact Da.SM h hq
  rw[hl];exact congrArg _ (cG fun x _=>by rw[abJ];rfl)
 rw[e1,e2];rfl
theorem Da.SW {a:Da} {q:Nat} (hq:q<a.n):idx a.dH (q:Int)=some (.bool (a.fin q)):=qg hq
theorem Da.Lx {a:Da} {q:Nat} (hq:q<a.n):idx a.dX (q:Int)=some (lU a.L (a.nx q)):=qg hq
theorem E0 {L x:Nat} {f:Nat→Nat} (hx:x<L):idx (tab L fun x=>iV (f x)) (x:Int)=some (iV (f x)):=qg hx
theorem uI {a:Da} (h:a.Ok):CC sC (fA a)=some [.int .i64 0]:=by
 have:=alr h.alx;rwa [h.val,h.leaves] at this
def lets (w:List UInt8):List Nat:=w.map fun b=>b.toNat-97
theorem wm {w:List UInt8}:(lets w).length=w.length:=by simp[lets]
theorem SX {w:List UInt8} {i:Nat} (hi:i<w.length) (h:0≤fF w i):(((lets w).getD i 0:Nat):Int)=fF w i:=by
 unfold lets fF at*
 rw[bC (by simpa using hi),bC hi] at*
 simp only[ze];omega
theorem kj.WL {w:List UInt8} {L:Nat} (h:kj w (L:Int)):WL L (lets w):=fun x hx=>by
 obtain ⟨i,hi,rfl⟩:=qx hx;rw[wm] at hi;obtain ⟨h1,h2⟩:=h.2.2.2 i hi;have:=SX hi h1;rw[bC (by rw[wm];exact hi)] at this;omega
theorem alK {a:Da} {w:List UInt8} {q i:Nat} (hi:i<w.length):a.run q ((lets w).take (i+1))=a.nx (a.run q ((lets w).take i)) ((lets w).getD i 0):=by
 rw[HW (by rw[wm];exact hi),Da.Lh,bC (by rw[wm];exact hi)];rfl
theorem abP {w:List UInt8} {L i:Nat} (hw:kj w (L:Int)) (hi:i<w.length):(lets w).getD i 0<L:=hw.WL _ (by rw[bC (by rw[wm];exact hi)];exact cJ _)
section
variable {a:Da} (h:a.Ok) {w:List UInt8} (hw:kj w (a.L:Int)) {q:Nat} (hq:q<a.n)
include h hw hq
theorem alL {i:Nat}:a.run q ((lets w).take i)<a.n:=h.wh _ hq fun x hx=>hw.WL x (HO hx)
theorem alM {x1 x2:Int} {l2:List V}:Loop (Lw CC w (w.length:Int) x1 x2 l2 a.dX) ((q:Int),0)=some ((a.run q (lets w):Int),(w.length:Int),false):=by
 have hl:w.length≤2048:=hw.2.2.1;have e:lets w=(lets w).take w.length:=by rw[List.take_of_length_le (by rw[wm];omega)]
 refine (dR w.length (fun i=>((a.run q ((lets w).take i):Int),(i:Int))) ((a.run q ((lets w).take w.length):Int),(w.length:Int),false) (fun i hi=> ?_) ?_).trans (by rw[←e])
 ·simp only[Lw,EX,un];refine bT (cd hi) ?_;refine bs (Da.Lx (alL h hw hq)) ?_;refine bs (Lu hi) ?_;have h1:=(hw.2.2.2 i hi).1;simp only[V.toInt_int,Lv h1,EZ];rw[←SX hi h1];refine bs (E0 (abP hw hi)) ?_;rw[cm (by omega),alK hi];rfl
 ·simp only[Lw,EX,un];exact bF (aV (az _)) (by rw[aV (az _)])
end
theorem alN {a:Da} (h:a.Ok) {q:Nat} (hq:q<a.n) (w:List UInt8):CC J7 (uH a [.int .i64 (q:Int),.str w])=some [.int .i64 (if kj w (a.L:Int) then (a.run q (lets w):Int) else-1)]:=by
 refine alI ?_;unfold abO;refine bs (uI h) ?_;refine bF rfl ?_;refine bF (cO (by omega)) ?_;refine bF (cO (by rw[Da.EY];omega)) ?_;refine bs (SV w a.L) ?_;by_cases hw:kj w (a.L:Int)
 ·rw[ak hw];refine bF (by simp[hw]) ?_;exact bs (alM h hw hq) rfl
 ·rw[aj hw];exact bT (by simp[hw]) rfl
section
variable {α:Type} (ke:α→V)
def eX (i:Nat):List α→List V
 | []=>[]
 | a::S=> .aW [ke a,iV (i:Int)]::eX (i+1) S
where iV (n:Int):V:= .int .i64 n
end
theorem E1 {α:Type} {ke:α→V}: ∀(S:List α) (i:Nat),(eX ke i S).length=S.length
 | [],_=>rfl
 | a::S,i=>by simp[eX,E1 S (i+1)]
section
variable {α:Type} [DecidableEq α] {ke:α→V}
variable (hk: ∀a b,gU (ke a) (ke b)=decide (a=b))
include hk
theorem SY (x:α): ∀(S:List α) (i:Nat),fB (ke x) (eX ke i S)=decide (x∈S)
 | [],_=>by simp[eX,fB]
 | a::S,i=>by
  have c: ∀(p q:V),(V.aW [p,q]).comp 0=p:=fun p q=>rfl;rw[eX,fB,c,hk,SY x S (i+1)];rw[wO];simp
theorem SZ (x:α) (z:V): ∀(S:List α) (i:Nat),x∈S→jl (ke x) (eX ke i S) z= .int .i64 ((i+S.idxOf x:Nat):Int)
 | [],_,h=>by cases h
 | a::S,i,h=>by
  have c: ∀(p q:V),(V.aW [p,q]).comp 0=p:=fun p q=>rfl;have c1: ∀(p q:V),(V.aW [p,q]).comp 1=q:=fun p q=>rfl;rw[eX,jl,c,c1,hk];by_cases e:x=a
  ·subst e;rw[cW rfl];simp[eX.iV]
  ·rw[cO e,cond_false,SZ x z S (i+1) ((lu.1 h).resolve_left e),show (a::S).idxOf x=S.idxOf x+1 from by rw[List.idxOf_cons,show (a==x)=false from u7.2 fun h=>e h.symm];rfl];congr 2;omega
theorem S0 (x:α): ∀(S:List α) (i:Nat),x∉S→gW (ke x) (.int .i64 ((i+S.length:Nat):Int)) (eX ke i S)=eX ke i (S++[x])
 | [],i,_=>by simp[eX,gW,eX.iV]
 | a::S,i,h=>by
  have c: ∀(p q:V),(V.aW [p,q]).comp 0=p:=fun p q=>rfl;have e:x≠a:=fun e=>h (by simp[e]);rw[eX,gW,c,hk,cO e,cond_false,List.cons_append,eX];congr 1;have:=S0 x S (i+1) fun hx=>h (by simp[hx]);rw[←this];simp only[List.length_cons];congr 3;omega
end
theorem alO (a b:Nat):gU (.int .i64 (a:Int)) (.int .i64 (b:Int))=decide (a=b):=by
 simp only[gU,V.cells,oQ,vn,Bool.and_true];rw[wO];simp;omega
theorem S3 {n:Nat} (h:n≤1000000000000):fx .i64 (n:Int)=true:=by
 have e1:IntKind.min .i64= -9223372036854775808:=by decide
 have e2:IntKind.max .i64=9223372036854775807:=by decide
 unfold fx;rw[e1,e2];exact pI.2 ⟨cW (by omega),cW (by omega)⟩
theorem alP {α:Type} [DecidableEq α] {S:List α} {a:α}:(bQ S a).idxOf a=if a∈S then S.idxOf a else S.length:=by
 unfold bQ;split
 ·rfl
 ·rename_i h;rw[zd,aj h];simp
noncomputable def abQ (C:af) (q x gk gm:Int) (Ly E2:LV):Option LV:=
 (idx E2 q).bind fun x1=>
 (idx x1.toList x).bind fun x2=>
 some [V.int .i64 x2.toInt,V.int .i64 gk,V.int .i64 gm,.list ax Ly,.list ah E2]
theorem alQ {q x gk gm:Int} {Ly E2:LV} {r:Option LV} (h:abQ CC q x gk gm Ly E2=r):CC uw [V.int .i64 q,V.int .i64 x,V.int .i64 gk,V.int .i64 gm,.list ax Ly,.list ah E2]=r:=bz (L:=bA) au h
noncomputable def abR (C:af) (q LA LB:Int) (E3 LC:LV):Option LV:=
 (idx E3 q).bind fun x1=>
 some [.bool x1.toBool,V.int .i64 LA,V.int .i64 LB,.list ax E3,.list ah LC]
theorem alR {q LA LB:Int} {E3 LC:LV} {r:Option LV} (h:abR CC q LA LB E3 LC=r):CC ux [V.int .i64 q,V.int .i64 LA,V.int .i64 LB,.list ax E3,.list ah LC]=r:=bz (L:=bA) au h
noncomputable def abS (C:af) (x:Int) (aP:LV):Option LV:=
 bif fx .i64 x&&true then
  bif fx .i64 x&&true then
  bif Nat.ble ((aP.length+([V.int .i64 x]:LV).length)*8) bm then
   some [V.int .i64 (aP.length:Int),.list ae (aP++([V.int .i64 x]:LV)),.list jA (gW (V.int .i64 x) (V.int .i64 (aP.length:Int)) ([]:LV))]
  else none
  else none
 else none
theorem alS {x:Int} {aP:LV} {r:Option LV} (h:abS CC x aP=r):CC Ei [V.int .i64 x,.list ae aP]=r:=bz (L:=bA) au h
noncomputable def abT (C:af) (x:Int) (aP aH:LV):Option LV:=
 bif fx .i64 x&&true then
  bif !(fB (V.int .i64 x) aH) then
  bif fx .i64 x&&true then
   bif Nat.ble ((aP.length+([V.int .i64 x]:LV).length)*8) bm then
   some [V.int .i64 (aP.length:Int),.list jA (gW (V.int .i64 x) (V.int .i64 (aP.length:Int)) aH),.list ae (aP++([V.int .i64 x]:LV))]
   else none
  else none
  else
  some [V.int .i64 ((jl (V.int .i64 x) aH (V.int .i64 0)).toInt),.list jA aH,.list ae aP]
 else none
theorem alT {x:Int} {aP aH:LV} {r:Option LV} (h:abT CC x aP aH=r):CC Qh [V.int .i64 x,.list ae aP,.list jA aH]=r:=bz (L:=bA) au h
noncomputable def E4 (C:af) (dh i state t36 AZ A0 cC cT:Int) (bp aS bS b7:LV) (t37 oB oC:Int) (oD oE rows bd bJ:LV) {β:Type} (kn:(Int×Int×Int×LV×LV×LV×LV×LV)→Option β) (kr:(Int×Bool×Int×Int×LV×LV×LV×LV×LV)→Option β):Option β:=
 bif decide (t37<t36) then
  (C uw [V.int .i64 state,V.int .i64 t37,V.int .i64 oB,V.int .i64 oC,.list ax oD,.list ah oE]).bind fun r3=>
  (C Qh [V.int .i64 ((V.nth r3 0).toInt),.list ae bd,.list jA bJ]).bind fun r4=>
  aq rows t37 fun x5=>
  kn (wrap .i64 (t37+1),(V.nth (r3.drop 1) 0).toInt,(V.nth ((r3.drop 1).drop 1) 0).toInt,(V.nth (((r3.drop 1).drop 1).drop 1) 0).toList,(V.nth ((((r3.drop 1).drop 1).drop 1).drop 1) 0).toList,aD rows t37 (V.int .i64 ((V.nth r4 0).toInt)),(V.nth ((r4.drop 1).drop 1) 0).toList,(V.nth (r4.drop 1) 0).toList)
 else
  kr (t37,decide (t37<t36),oB,oC,oD,oE,rows,bd,bJ)
noncomputable def LD (C:af) (dh i state t36 AZ A0 cC cT:Int) (bp aS bS b7:LV):=un fun t37=>un fun oB=>un fun oC=>un fun oD=>un fun oE=>un fun rows=>un fun bd bJ=>E4 C dh i state t36 AZ A0 cC cT bp aS bS b7 t37 oB oC oD oE rows bd bJ (fun y=>some (Sum.inl y)) (fun r=>some (Sum.inr r))
noncomputable def E5 (C:af) (dh AZ A0 cC cT:Int) (bh bp:LV) (i oB oC:Int) (oD oE aS bd bJ bS:LV) {β:Type} (kn:(Int×Int×Int×LV×LV×LV×LV×LV×LV)→Option β) (kr:((Int×Int×Int×LV×LV×Int×Int×LV×LV×LV) ⊕ (Int×Bool×Int×Int×LV×LV×LV×LV×LV×LV))→Option β):Option β:=
 bif decide (i<(aS.length:Int)) then
  aq aS i fun x2=>
  bif (decide (0≤dh))&&((decide (dh≤dh))&&(Nat.ble ((dh.toNat)*8) bm)) then
  (Loop (LD C dh i x2.toInt ((List.replicate (dh.toNat) (V.int .i64 0)).length:Int) AZ A0 cC cT bh bp bJ bS) (0,oB,oC,oD,oE,List.replicate (dh.toNat) (V.int .i64 0),aS,bd)).bind (un fun oz=>un fun (oA:Bool)=>un fun abU=>un fun abV=>un fun (abW:LV)=>un fun (abX:LV)=>un fun (abY:LV)=>un fun (A1:LV) (qh:LV)=>
   bif decide ((A1.length:Int)>512) then
    kr (.inl (3,abU,abV,abW,abX,0,0,([]:LV),([]:LV),([]:LV)))
   else
    bif Nat.ble ((bS.length+([.list ae abY]:LV).length)*24) bm then
    (C ux [V.int .i64 x2.toInt,V.int .i64 abU,V.int .i64 abV,.list ax abW,.list ah abX]).bind fun rl=>
    bif Nat.ble ((bJ.length+([.bool ((V.nth rl 0).toBool)]:LV).length)*1) bm then
     kn (wrap .i64 (i+1),(V.nth (rl.drop 1) 0).toInt,(V.nth ((rl.drop 1).drop 1) 0).toInt,(V.nth (((rl.drop 1).drop 1).drop 1) 0).toList,(V.nth ((((rl.drop 1).drop 1).drop 1).drop 1) 0).toList,A1,qh,bJ++([.bool ((V.nth rl 0).toBool)]:LV),bS++([.list ae abY]:LV))
    else none
    else none)
  else none
 else
  kr (.inr (i,decide (i<(aS.length:Int)),oB,oC,oD,oE,aS,bd,bJ,bS))
noncomputable def LF (C:af) (dh AZ A0 cC cT:Int) (bh bp:LV):=un fun i=>un fun oB=>un fun oC=>un fun oD=>un fun oE=>un fun aS=>un fun bd=>un fun bJ bS=>E5 C dh AZ A0 cC cT bh bp i oB oC oD oE aS bd bJ bS (fun y=>some (Sum.inl y)) (fun r=>some (Sum.inr r))
noncomputable def abZ (C:af):cx:=br 161 Sy [EQ,EQ,EQ,EQ,H1,H1,H1,H1,H1,EQ,EQ,EQ,EQ,H1,EQ,EQ,H1,H1,EQ,EQ] [[1,2,3,4,0,0,0,0,0,0,10,11,12,13,0,15,16,0,0,19,20]] (@E4 C) (br 81 Sz [EQ,H1,H1,H1,H1,H1,EQ,EQ,EQ,EQ,EQ,EQ,H1,H1,H1,H1] [[0,0,0,0,0,0,0,0,0,0],[1,0,0,0,0,0,0,7,8,9,10,11,12,0,0,0,0]] (@E5 C) bA)
theorem alU (C:af):aZ C (abZ C) 107 (Lp [1,1,1,1,0,1,0,0,1,0,0,1,1,0,1,0,0] 107):=bq Sy [EQ,EQ,EQ,EQ,H1,H1,H1,H1,H1,EQ,EQ,EQ,EQ,H1,EQ,EQ,H1,H1,EQ,EQ] [[1,2,3,4,0,0,0,0,0,0,10,11,12,13,0,15,16,0,0,19,20]] (@E4 C) (aR au)
theorem alV (C:af):aZ C (abZ C) 107 (Lp [1,1,1,1,0,1,0,0] 107):=bq Sz [EQ,H1,H1,H1,H1,H1,EQ,EQ,EQ,EQ,EQ,EQ,H1,H1,H1,H1] [[0,0,0,0,0,0,0,0,0,0],[1,0,0,0,0,0,0,7,8,9,10,11,12,0,0,0,0]] (@E5 C) (aR (aY (alU C) au))
noncomputable def ab0 (C:af) (dh start oB oC:Int) (oD oE:LV):Option LV:=
 (C Ei [V.int .i64 start,.list ae ([]:LV)]).bind fun r1=>
 (Loop (LF C dh 0 0 dh 0 ([]:LV) ([]:LV)) (0,oB,oC,oD,oE,(V.nth (r1.drop 1) 0).toList,(V.nth ((r1.drop 1).drop 1) 0).toList,([]:LV),([]:LV))).bind (cM (un fun S4=>un fun j4=>un fun ym=>un fun (rm:LV)=>un fun (sK:LV)=>un fun alW=>un fun alX=>un fun (sL:LV)=>un fun (E6:LV) (alY:LV)=>
  some [V.int .i64 alW,V.int .i64 alX,V.int .i64 S4,V.int .i64 j4,V.int .i64 ym,.list ax rm,.list ah sK,.list ax sL,.list ah E6,.list ae alY]) (un fun sM=>un fun (LG:Bool)=>un fun alZ=>un fun al0=>un fun (al1:LV)=>un fun (al2:LV)=>un fun (E7:LV)=>un fun (ab1:LV)=>un fun (yn:LV) (E8:LV)=>
  some [V.int .i64 dh,V.int .i64 0,V.int .i64 0,V.int .i64 alZ,V.int .i64 al0,.list ax al1,.list ah al2,.list ax yn,.list ah E8,.list ae E7]))
theorem al3 {dh start oB oC:Int} {oD oE:LV} {r:Option LV} (h:ab0 CC dh start oB oC oD oE=r):CC Kx [V.int .i64 dh,V.int .i64 start,V.int .i64 oB,V.int .i64 oC,.list ax oD,.list ah oE]=r:=bz (aY (alV CC) au) h
noncomputable def E9 (C:af) (t31 gk gm Fa Fb:Int) (sN bh bp aS bd:LV) (t32:Int) (numbers:LV) {β:Type} (kn:(Int×LV)→Option β) (kr:(Int×Bool×LV)→Option β):Option β:=
 bif decide (t32<t31) then
  aq numbers t32 fun x3=>
  kn (wrap .i64 (t32+1),aD numbers t32 (V.int .i64 (-1)))
 else
  kr (t32,decide (t32<t31),numbers)
noncomputable def LH (C:af) (t31 gk gm Fa Fb:Int) (sN bh bp aS bd:LV):=un fun t32 numbers=>E9 C t31 gk gm Fa Fb sN bh bp aS bd t32 numbers (fun y=>some (Sum.inl y)) (fun r=>some (Sum.inr r))
noncomputable def Fc (C:af) (t40 gk gm Fa Fb:Int) (S5 bh bp aS bd:LV) (t41:Int) (numbers:LV) {β:Type} (kn:(Int×LV)→Option β) (kr:(Int×Bool×LV)→Option β):Option β:=
 bif decide (t41<t40) then
  aq S5 t41 fun x7=>
  bif (decide (0≤x7.toInt))&&(decide (x7.toInt<(numbers.length:Int))) then
  (numbers[(x7.toInt:Int).toNat]?).bind fun x8=>
  kn (wrap .i64 (t41+1),aD numbers (x7.toInt) (V.int .i64 t41))
  else none
 else
  kr (t41,decide (t41<t40),numbers)
noncomputable def LI (C:af) (t40 gk gm Fa Fb:Int) (S5 bh bp aS bd:LV):=un fun t41 numbers=>Fc C t40 gk gm Fa Fb S5 bh bp aS bd t41 numbers (fun y=>some (Sum.inl y)) (fun r=>some (Sum.inr r))
noncomputable def ab2 (C:af):cx:=br 97 RR [EQ,H1,EQ,EQ,EQ,EQ,EQ,H1,EQ,EQ,EQ,EQ] [[1,0,0,3,4,5,6,7,0,9,10,11,12]] (@E9 C) (br 177 RS [EQ,H1,EQ,EQ,EQ,EQ,H1,EQ,EQ,EQ,EQ,EQ] [[1,0,0,3,4,5,6,0,8,9,10,11,12]] (@Fc C) bA)
theorem al4 (C:af):aZ C (ab2 C) 74 (Lp [1,1,1,1,0,1,0,0] 74):=bq RR [EQ,H1,EQ,EQ,EQ,EQ,EQ,H1,EQ,EQ,EQ,EQ] [[1,0,0,3,4,5,6,7,0,9,10,11,12]] (@E9 C) (aR au)
theorem al5 (C:af):aZ C (ab2 C) 74 (Lp [1,1,1,1,1,0,1,0,0] 74):=bq RS [EQ,H1,EQ,EQ,EQ,EQ,H1,EQ,EQ,EQ,EQ,EQ] [[1,0,0,3,4,5,6,0,8,9,10,11,12]] (@Fc C) (aR au)
noncomputable def ab3 (C:af) (bV cb:Int) (bG bZ:LV):Option LV:=
 (C sC [V.int .i64 bV,V.int .i64 cb,.list ax bG,.list ah bZ]).bind fun r1=>
 bif (((V.nth r1 0).toInt):Int) != 0 then
  some [V.int .i64 0,V.int .i64 0,.list ax ([]:LV),.list ah ([]:LV),.list ae ([]:LV)]
 else
  (C Kx [V.int .i64 bV,V.int .i64 cb,V.int .i64 bV,V.int .i64 cb,.list ax bG,.list ah bZ]).bind fun r2=>
  bif (decide (0≤(((V.nth (((r2.drop 3).drop 1).drop 1) 0).toList).length:Int)))&&((decide ((((V.nth (((r2.drop 3).drop 1).drop 1) 0).toList).length:Int)≤(((V.nth (((r2.drop 3).drop 1).drop 1) 0).toList).length:Int)))&&(Nat.ble ((((((V.nth (((r2.drop 3).drop 1).drop 1) 0).toList).length:Int):Int).toNat)*8) bm)) then
  (Loop (LH C ((List.replicate (((((V.nth (((r2.drop 3).drop 1).drop 1) 0).toList).length:Int):Int).toNat) (V.int .i64 0)).length:Int) 0 0 ((V.nth r2 0).toInt) ((V.nth (r2.drop 1) 0).toInt) ((V.nth ((((r2.drop 3).drop 4).drop 1).drop 1) 0).toList) ([]:LV) ([]:LV) ((V.nth ((r2.drop 3).drop 4) 0).toList) ((V.nth (((r2.drop 3).drop 4).drop 1) 0).toList)) (0,List.replicate (((((V.nth (((r2.drop 3).drop 1).drop 1) 0).toList).length:Int):Int).toNat) (V.int .i64 0))).bind (un fun gP=>un fun (oy:Bool) (al6:LV)=>
   (Loop (LI C (((V.nth ((((r2.drop 3).drop 4).drop 1).drop 1) 0).toList).length:Int) 0 0 ((V.nth r2 0).toInt) ((V.nth (r2.drop 1) 0).toInt) ((V.nth ((((r2.drop 3).drop 4).drop 1).drop 1) 0).toList) ([]:LV) ([]:LV) ((V.nth ((r2.drop 3).drop 4) 0).toList) ((V.nth (((r2.drop 3).drop 4).drop 1) 0).toList)) (0,al6)).bind (un fun mL=>un fun (LJ:Bool) (al7:LV)=>
    some [V.int .i64 ((V.nth r2 0).toInt),V.int .i64 ((V.nth (r2.drop 1) 0).toInt),.list ax ((V.nth ((r2.drop 3).drop 4) 0).toList),.list ah ((V.nth (((r2.drop 3).drop 4).drop 1) 0).toList),.list ae al7]))
  else none
theorem al8 {bV cb:Int} {bG bZ:LV} {r:Option LV} (h:ab3 CC bV cb bG bZ=r):CC Ap [V.int .i64 bV,V.int .i64 cb,.list ax bG,.list ah bZ]=r:=bz (aY (al4 CC) (aY (al5 CC) au)) h
def nV (q:Nat):V:= .int .i64 (q:Int)
def nS (S:List Nat):List V:=S.map nV
def mS (S:List Nat):List V:=eX nV 0 S
theorem S6 (a b:Nat):gU (nV a) (nV b)=decide (a=b):=alO a b
theorem cI {S:List Nat}:(nS S).length=S.length:=by simp[nS]
theorem uJ {S:List Nat} {i:Nat} (h:i<S.length):(nS S)[i]? =some (nV S[i]):=by simp[nS,h]
theorem al9 {x:Nat} (hx:x≤1000000):CC Ei [nV x,.list ae []]=some [nV 0,.list ae (nS [x]),.list jA (mS [x])]:=by
 refine alS ?_;unfold abS;rw[S3 (by omega)];exact bT rfl (bT rfl (bT (cap (by simp) (by omega)) rfl))
theorem ama {S:List Nat} {x:Nat} (hx:x≤1000000) (hl:S.length≤1000000):CC Qh [nV x,.list ae (nS S),.list jA (mS S)]=some [nV ((bQ S x).idxOf x),.list jA (mS (bQ S x)),.list ae (nS (bQ S x))]:=by
 refine alT ?_;unfold abT;have e1:=SY S6 x S 0;rw[S3 (by omega)];refine bT rfl ?_;rw[alP];by_cases h:x∈S
 ·refine bF (by rw[show fB (.int .i64 (x:Int)) (mS S)=true from e1.trans (cW h)];rfl) ?_;have e2:=SZ S6 x (.int .i64 0) S 0 h;rw[show jl (.int .i64 (x:Int)) (mS S) (.int .i64 0)=_ from e2,ak h,eQ,show bQ S x=S by unfold bQ;rw[ak h]];rfl
 ·refine bT (by rw[show fB (.int .i64 (x:Int)) (mS S)=false from e1.trans (cO h)];rfl) ?_;refine bT rfl ?_;refine bT (cap (by rw[cI];simp;omega) (by omega)) ?_;have e2:=S0 S6 x S 0 h;rw[eQ] at e2;rw[cI,show gW (.int .i64 (x:Int)) (.int .i64 (S.length:Int)) (mS S)=_ from e2,aj h,show bQ S x=S++[x] by unfold bQ;rw[aj h]];simp[nS,nV,mS]
theorem amb {a:Da} {q x:Nat} (hq:q<a.n) (hx:x<a.L):CC uw (nV q::nV x::fA a)=some (nV (a.nx q x)::fA a):=by
 refine alQ ?_;unfold abQ;refine bs (Da.Lx hq) ?_;rw[EZ];exact bs (E0 hx) rfl
theorem amc {a:Da} {q:Nat} (hq:q<a.n):CC ux (nV q::fA a)=some (.bool (a.fin q)::fA a):=by
 refine alR ?_;unfold abR;exact bs (Da.SW hq) rfl
section
variable {a:Da} (h:a.Ok)
include h
theorem amd {S U:List Nat} {q:Nat} (hq:q<a.n) (hS: ∀s∈S,s<a.n) (hSn:S.length≤1000) (hp:cu a.nx S q a.L <+: U) {i c1 c2:Int} {l1 l2 l3 l4:List V}:
  Loop (LD CC (a.L:Int) i (q:Int) ((List.replicate (((a.L:Nat):Int).toNat) (V.int .i64 0)).length:Int) c1 c2 (a.L:Int) 0 l1 l2 l3 l4) (0,(a.L:Int),(a.st:Int),a.dH,a.dX,List.replicate (((a.L:Nat):Int).toNat) (V.int .i64 0),nS S,mS S)=
   some ((a.L:Int),false,(a.L:Int),(a.st:Int),a.dH,a.dX,(tab a.L fun x=>nV (U.idxOf (a.nx q x))),nS (cu a.nx S q a.L),mS (cu a.nx S q a.L)):=by
 have h6:=h.l6;rw[Int.toNat_natCast,mM,eC];refine (dR a.L (fun x=>((x:Int),(a.L:Int),(a.st:Int),a.dH,a.dX,(tab a.L fun j=>if j<x then nV (U.idxOf (a.nx q j)) else nV 0),nS (cu a.nx S q x),mS (cu a.nx S q x))) _ (fun x hx=> ?_) ?_)
 ·simp only[LD,E4,un,aq,aD];refine bT (cd hx) ?_;refine bs (amb hq hx) ?_;have hT:(cu a.nx S q x).length≤1000000:=by
   have: ∀x,(cu a.nx S q x).length≤S.length+x:=by
    intro x
    induction x with
    | zero=>exact az _
    | succ x ih=>rw[cu,AV];split<;>omega
   have:=this x;omega
  refine bs (ama (S:=cu a.nx S q x) (by have:=h.ki hq hx;have:=h.jc;omega) hT) ?_;refine (lg hx).trans ?_;rw[cm (by omega),Int.toNat_natCast,iG];have e:(bQ (cu a.nx S q x) (a.nx q x)).idxOf (a.nx q x)=U.idxOf (a.nx q x):=(AY ((AW S q (show x+1≤a.L by omega)).trans hp) wj).symm;show some (Sum.inl _)=some (Sum.inl _);refine congrArg (fun x=>some (Sum.inl x)) ?_;refine ji rfl (ji rfl (ji rfl (ji rfl (ji rfl (ji ?_ (ji rfl rfl))))));refine cG fun j _=> ?_;by_cases hj:j=x
  ·rw[ak hj,bt,hj,←e];rfl
  ·rw[aj hj];by_cases dg:j<x
   ·rw[ak dg,bt]
   ·rw[aj dg,bN]
 ·simp only[LD,E4,un,aq,aD];refine bF (aV (az _)) ?_;rw[aV (az _)];have:(tab a.L fun j=>if j<a.L then nV (U.idxOf (a.nx q j)) else nV 0)=tab a.L fun j=>nV (U.idxOf (a.nx q j)):=cG fun j hj=>ak hj;rw[this]
theorem ame:CC Kx ([nV a.L,nV a.st]++fA a)=some ([nV a.L,nV 0,.int .i64 0]++(fA a++[.list ax a.trim.dH,.list ah a.trim.dX,.list ae (nS (aJ a.L a.nx a.st a.n))])):=by
 have h6:=h.l6;have hm:=h.jc;have hd:=h.uF a.n;refine al3 ?_;unfold ab0;refine bs (al9 (by have:=h.s;omega)) ?_;have key:Loop (LF CC (a.L:Int) 0 0 (a.L:Int) 0 ([]:List V) ([]:List V)) (0,(a.L:Int),(a.st:Int),a.dH,a.dX,nS [a.st],mS [a.st],([]:List V),([]:List V))=
   some (.inr (((aJ a.L a.nx a.st a.n).length:Int),false,(a.L:Int),(a.st:Int),a.dH,a.dX,nS (aJ a.L a.nx a.st a.n),mS (aJ a.L a.nx a.st a.n),a.trim.dH,a.trim.dX)):=by
  refine (dR (aJ a.L a.nx a.st a.n).length (fun i=>((i:Int),(a.L:Int),(a.st:Int),a.dH,a.dX,nS (aJ a.L a.nx a.st i),mS (aJ a.L a.nx a.st i),(tab i fun j=>V.bool (a.trim.fin j)),(tab i fun j=>lU a.L (a.trim.nx j)))) _ (fun i hi=> ?_) ?_)
  ·have zS:=SQ hd hi;have hUi:(aJ a.L a.nx a.st i)[i]=(aJ a.L a.nx a.st a.n)[i]:=(uE (show i≤a.n by omega)).getElem zS;have hq:(aJ a.L a.nx a.st a.n)[i]<a.n:=h.EO _ _ (cJ hi);have hlen:(aJ a.L a.nx a.st i).length≤512:=ln (h.uF i) hm;have atN:(aJ a.L a.nx a.st (i+1)).length≤512:=ln (h.uF (i+1)) hm;have tJ:=EN hd hi;simp only[LF,E5,un,aq];refine bT (cW (by rw[cI];omega)) ?_;refine (cw (uJ zS)).trans ?_;refine bT (ga (by omega) (by omega)) ?_;rw[hUi];refine bs (amd h hq (h.EO i) (by omega) (U:=aJ a.L a.nx a.st a.n) (by rw[←tJ];exact uE (by omega))) ?_;rw[←tJ];refine bF (cO (by rw[cI];omega)) ?_;refine bT (cap (by rw[eC];simp;omega) (by omega)) ?_;refine bs (amc hq) ?_;refine bT (cap (by rw[eC];simp;omega) (by omega)) ?_;rw[cm (by omega),EV,EV];have e1:a.trim.fin i=a.fin (aJ a.L a.nx a.st a.n)[i]:=abv hi;have e2:lU a.L (a.trim.nx i)= .list ae (tab a.L fun x=>nV ((aJ a.L a.nx a.st a.n).idxOf (a.nx (aJ a.L a.nx a.st a.n)[i] x))):=by
    unfold lU;refine congrArg _ (cG fun x hx=> ?_);rw[show a.trim.nx i x=_ from Lm hi hx];rfl
   rw[e1,e2];rfl
  ·simp only[LF,E5,un,aq];rw[abx hd,cI];refine bF (aV (az _)) ?_;rw[aV (az _)];have e3:a.trim.n=(aJ a.L a.nx a.st a.n).length:=sI;unfold Da.dH Da.dX;rw[e3];rfl
 refine bs key ?_;rfl
end
def nA (U:List Nat) (n:Nat):List V:=tab n fun q=>if q∈U then nV (U.idxOf q) else .int .i64 (-1)
theorem amf {U:List Nat} {n i:Nat} (hU:U.Nodup) (hi:i<U.length):(tab n fun q=>if q∈U.take i then nV (U.idxOf q) else V.int .i64 (-1)).set U[i] (.int .i64 (i:Int))=tab n fun q=>if q∈U.take (i+1) then nV (U.idxOf q) else V.int .i64 (-1):=by
 rw[iG];refine cG fun q _=> ?_;have e:q∈U.take (i+1)↔q∈U.take i∨q=U[i]:=by rw[HW hi,eO,ff]
 by_cases hq:q=U[i]
 ·rw[ak hq,ak (e.2 (.inr hq)),hq,hU.idxOf_getElem i hi];rfl
 ·rw[aj hq];by_cases h2:q∈U.take i
  ·rw[ak h2,ak (e.2 (.inl h2))]
  ·rw[aj h2,aj fun h3=>(e.1 h3).elim h2 hq]
theorem ab4 {a:Da} (h:a.Ok):CC Ap (fA a)=some (fA a.trim++[.list ae (nA (aJ a.L a.nx a.st a.n) a.n)]):=by
 have hm:=h.jc;have hU:=h.EO a.n;have hle:=h.uF a.n;refine al8 ?_;unfold ab3;refine bs (uI h) ?_;refine bF rfl ?_;refine bs (ame h) ?_;have e0:((V.nth (((([nV a.L,nV 0,V.int .i64 0]++(fA a++[V.list ax a.trim.dH,V.list ah a.trim.dX,V.list ae (nS (aJ a.L a.nx a.st a.n))])).drop 3).drop 1).drop 1) 0).toList)=a.dH:=rfl;rw[e0,Da.EY];refine bT (ga (by omega) (by omega)) ?_;rw[Int.toNat_natCast,mM,eC];generalize hUd:aJ a.L a.nx a.st a.n=U at*
 have l1: ∀{c1 c2 c3 c4:Int} {s1 s2 s3 s4 s5:List V},Loop (LH CC (a.n:Int) c1 c2 c3 c4 s1 s2 s3 s4 s5) (0,tab a.n fun _=>V.int .i64 0)=some ((a.n:Int),false,tab a.n fun q=>if q∈U.take 0 then nV (U.idxOf q) else V.int .i64 (-1)):=by
  intro c1 c2 c3 c4 s1 s2 s3 s4 s5;refine (dR a.n (fun i=>((i:Int),(tab a.n fun j=>if j<i then V.int .i64 (-1) else V.int .i64 0))) _ (fun i hi=> ?_) ?_)
  ·simp only[LH,E9,un,aq,aD];refine bT (cd hi) ?_;refine (lg hi).trans ?_;rw[cm (by omega),Int.toNat_natCast,iG];refine congrArg (fun x=>some (Sum.inl (((i+1:Nat):Int),x))) (cG fun j _=> ?_);by_cases hj:j=i
   ·rw[ak hj,bt]
   ·rw[aj hj];by_cases dg:j<i
    ·rw[ak dg,bt]
    ·rw[aj dg,bN]
  ·simp only[LH,E9,un,aq,aD];refine bF (aV (az _)) ?_;rw[aV (az _)];refine congrArg (fun x=>some (Sum.inr ((a.n:Int),false,x))) (cG fun j hj=> ?_);rw[ak hj,List.take_zero,aj (by simp)]
 refine bs l1 ?_;simp only[un];have hUn:U.Nodup:=by rw[←hUd];exact AX _
 have l2: ∀{c1 c2 c3 c4:Int} {s2 s3 s4 s5:List V},Loop (LI CC ((nS U).length:Int) c1 c2 c3 c4 (nS U) s2 s3 s4 s5) (0,tab a.n fun q=>if q∈U.take 0 then nV (U.idxOf q) else V.int .i64 (-1))=some ((U.length:Int),false,nA U a.n):=by
  intro c1 c2 c3 c4 s2 s3 s4 s5;rw[cI];refine (dR U.length (fun i=>((i:Int),(tab a.n fun q=>if q∈U.take i then nV (U.idxOf q) else V.int .i64 (-1)))) _ (fun i hi=> ?_) ?_)
  ·have hq:=hU U[i] (cJ hi);simp only[LI,Fc,un,aq,aD];refine bT (cd hi) ?_;refine (cw (uJ hi)).trans ?_;refine (lg (i:=U[i]) hq).trans ?_;rw[cm (by omega)];refine congrArg (fun x=>some (Sum.inl (((i+1:Nat):Int),x))) ?_;exact amf hUn hi
  ·simp only[LI,Fc,un,aq,aD];refine bF (aV (az _)) ?_;rw[aV (az _),u6];rfl
 refine bs l2 ?_;rfl
noncomputable def Fe (C:af) (f t13:LV) (t14 t15:Int) {β:Type} (kn:Int→Option β) (kr:((Bool) ⊕ (Int×Bool))→Option β):Option β:=
 bif decide (t15<t14) then
  (idx t13 t15).bind fun x1=>
  bif decide ((x1.toInt:Int)<0) then
  kr (.inl false)
  else
  bif decide ((x1.toInt:Int)≥(f.length:Int)) then
   kr (.inl false)
  else
   kn (wrap .i64 (t15+1))
 else
  kr (.inr (t15,decide (t15<t14)))
noncomputable def S7 (C:af) (f t13:LV) (t14:Int):=fun t15=>Fe C f t13 t14 t15 (fun y=>some (Sum.inl y)) (fun r=>some (Sum.inr r))
noncomputable def amg (C:af):cx:=br 65 SA [EQ,EQ,EQ,H1] [[0],[1,2,3,0,0]] (@Fe C) bA
theorem amh (C:af):aZ C (amg C) 120 (Lp [1,1,0,1,0,0] 120):=bq SA [EQ,EQ,EQ,H1] [[0],[1,2,3,0,0]] (@Fe C) (aR au)
noncomputable def ab5 (C:af) (f:LV):Option LV:=
 bif decide ((f.length:Int)<1) then
  some [.bool false]
 else
  bif decide ((f.length:Int)>32) then
  some [.bool false]
  else
  (Loop (S7 C f f (f.length:Int)) 0).bind (cM (fun (sO:Bool)=>
   some [.bool sO]) (un fun (jB:Int) (gP:Bool)=>
   some [.bool true]))
theorem ami {f:LV} {r:Option LV} (h:ab5 CC f=r):CC Az [.list ae f]=r:=bz (aY (amh CC) au) h
noncomputable def Ff (C:af) (t14 t15:Int) (fs:LV) {β:Type} (kn:(Int×LV)→Option β) (kr:(Int×Bool×LV)→Option β):Option β:=
 bif decide (t15<t14) then
  aq fs t15 fun x1=>
  kn (wrap .i64 (t15+1),aD fs t15 (V.int .i64 t15))
 else
  kr (t15,decide (t15<t14),fs)
noncomputable def S8 (C:af) (t14:Int):=un fun t15 fs=>Ff C t14 t15 fs (fun y=>some (Sum.inl y)) (fun r=>some (Sum.inr r))
noncomputable def amj (C:af):cx:=br 81 SB [EQ,H1,H1] [[1,0,0,0]] (@Ff C) bA
theorem amk (C:af):aZ C (amj C) 122 (Lp [1,1,1,0,1,0,0] 122):=bq SB [EQ,H1,H1] [[1,0,0,0]] (@Ff C) (aR au)
noncomputable def ab6 (C:af) (n:Int):Option LV:=
 bif decide (n<1) then
  some [.list ae ([]:LV)]
 else
  bif decide (n>32) then
  some [.list ae ([]:LV)]
  else
  bif (decide (0≤n))&&((decide (n≤n))&&(Nat.ble ((n.toNat)*8) bm)) then
   (Loop (S8 C ((List.replicate (n.toNat) (V.int .i64 0)).length:Int)) (0,List.replicate (n.toNat) (V.int .i64 0))).bind (un fun sO=>un fun (jB:Bool) (aml:LV)=>
    some [.list ae aml])
  else none
theorem amm {n:Int} {r:Option LV} (h:ab6 CC n=r):CC Ky [V.int .i64 n]=r:=bz (aY (amk CC) au) h
noncomputable def Fg (C:af) (g t26:LV) (t27 t28:Int) (Fh:LV) {β:Type} (kn:(Int×LV)→Option β) (kr:(Int×Bool×LV)→Option β):Option β:=
 bif decide (t28<t27) then
  (idx t26 t28).bind fun x3=>
  (idx g x3.toInt).bind fun x4=>
  aq Fh t28 fun x5=>
  kn (wrap .i64 (t28+1),aD Fh t28 (V.int .i64 x4.toInt))
 else
  kr (t28,decide (t28<t27),Fh)
noncomputable def S9 (C:af) (g t26:LV) (t27:Int):=un fun t28 Fh=>Fg C g t26 t27 t28 Fh (fun y=>some (Sum.inl y)) (fun r=>some (Sum.inr r))
noncomputable def amn (C:af):cx:=br 81 SD [EQ,EQ,EQ,H1,H1] [[1,2,3,0,0,0]] (@Fg C) bA
theorem amo (C:af):aZ C (amn C) 124 (Lp [1,1,1,0,1,0,0] 124):=bq SD [EQ,EQ,EQ,H1,H1] [[1,2,3,0,0,0]] (@Fg C) (aR au)
noncomputable def ab7 (C:af) (f g:LV):Option LV:=
 bif (f.length:Int) != (g.length:Int) then
  some [.list ae ([]:LV)]
 else
  (C Az [.list ae f]).bind fun r1=>
  bif !((V.nth r1 0).toBool) then
  some [.list ae ([]:LV)]
  else
  (C Az [.list ae g]).bind fun r2=>
  bif !((V.nth r2 0).toBool) then
   some [.list ae ([]:LV)]
  else
   bif (decide (0≤(f.length:Int)))&&((decide ((f.length:Int)≤(f.length:Int)))&&(Nat.ble (((f.length:Int).toNat)*8) bm)) then
   (Loop (S9 C g f (f.length:Int)) (0,List.replicate ((f.length:Int).toNat) (V.int .i64 0))).bind (un fun oz=>un fun (oA:Bool) (amp:LV)=>
    some [.list ae amp])
   else none
theorem amq {f g:LV} {r:Option LV} (h:ab7 CC f g=r):CC Ec [.list ae f,.list ae g]=r:=bz (aY (amo CC) au) h
noncomputable def Fi (C:af) (t9:LV) (t10 t11:Int) (Fj:LV) {β:Type} (kn:(Int×LV)→Option β) (kr:(Int×Bool×LV)→Option β):Option β:=
 bif decide (t11<t10) then
  (idx t9 t11).bind fun x1=>
  aq Fj t11 fun x2=>
  kn (wrap .i64 (t11+1),aD Fj t11 (.int .u8 (wrap .u8 x1.toInt)))
 else
  kr (t11,decide (t11<t10),Fj)
noncomputable def Ta (C:af) (t9:LV) (t10:Int):=un fun t11 Fj=>Fi C t9 t10 t11 Fj (fun y=>some (Sum.inl y)) (fun r=>some (Sum.inr r))
noncomputable def amr (C:af):cx:=br 49 SC [EQ,EQ,H1,H1] [[1,2,0,0,0]] (@Fi C) bA
theorem ams (C:af):aZ C (amr C) 123 (Lp [1,1,0,1,0,0] 123):=bq SC [EQ,EQ,H1,H1] [[1,2,0,0,0]] (@Fi C) (aR au)
noncomputable def ab8 (C:af) (f:LV):Option LV:=
 bif (decide (0≤(f.length:Int)))&&((decide ((f.length:Int)≤(f.length:Int)))&&(Nat.ble (((f.length:Int).toNat)*1) bm)) then
  (Loop (Ta C f (f.length:Int)) (0,List.replicate ((f.length:Int).toNat) (V.int .u8 0))).bind (un fun jB=>un fun (gP:Bool) (amt:LV)=>
   some [.str (lz amt)])
 else none
theorem amu {f:LV} {r:Option LV} (h:ab8 CC f=r):CC vZ [.list ae f]=r:=bz (aY (ams CC) au) h
section
variable {X R γ:Type} {step:X→Option (X ⊕ R)}
theorem sP (s:Nat→LV→X) (n:Nat) (g:Nat→V) (a0:LV) (h0:a0.length=n) (r:LV→R)
  (h: ∀i,i<n→∀a:LV,a.length=n→step (s i a)=some (.inl (s (i+1) (a.set i (g i))))) (he:step (s n (tab n g))=some (.inr (r (tab n g)))):Loop step (s 0 a0)=some (r (tab n g)):=by
 have key: ∀i,i≤n→step (s i (tab n fun j=>if j<i then g j else a0.getD j (.bool false)))=if i<n then some (.inl (s (i+1) (tab n fun j=>if j<i+1 then g j else a0.getD j (.bool false)))) else some (.inr (r (tab n g))):=by
  intro i hi;by_cases c:i<n
  ·rw[ak c,h i c _ (by simp),iG];refine congrArg (fun t=>some (Sum.inl (s (i+1) t))) (cG fun j _=> ?_);by_cases c2:j=i
   ·rw[ak c2,bt,c2]
   ·rw[aj c2];by_cases c3:j<i
    ·rw[ak c3,bt]
    ·rw[aj c3,bN]
  ·rw[aj c];obtain rfl:i=n:=by omega
   rw[show (tab i fun j=>if j<i then g j else a0.getD j (.bool false))=tab i g from cG fun j hj=>ak hj];exact he
 have e0:a0=tab n fun j=>if j<0 then g j else a0.getD j (.bool false):=by
  conv=>lhs;rw[abK a0 (.bool false),h0]
  exact cG fun j _=>by rw[bN]
 rw[e0];refine dR n (fun i=>s i (tab n fun j=>if j<i then g j else a0.getD j (.bool false))) _ (fun i hi=> ?_) ?_
 ·rw[key i (by omega),ak hi]
 ·rw[key n (az _),aj (mj _)]
theorem rn {es:LV} {i:Nat} (hi:i<es.length) {K:Option γ}:(bif (decide (0≤(i:Int)))&&(decide ((i:Int)<(es.length:Int))) then (es[((i:Int)).toNat]?).bind (fun _=>K) else none)=K:=
 (cw (bR hi)).trans rfl
end
theorem gb {S:List Nat} {i:Nat} (h:i<S.length):idx (nS S) (i:Int)=some (nV S[i]):=by rw[PS rfl,uJ h]
theorem LL (S:List Nat):nS S=tab S.length fun i=>nV (S.getD i 0):=yl S 0
theorem Fk {i n:Nat} (h:i<n):decide ((i:Int)≥(n:Int))=false:=cO (by omega)
theorem yo {i:Nat}:decide ((i:Int)<0)=false:=cO (by omega)
def Tr (n:Nat) (f:List Nat):Prop:=f.length=n∧∀y∈f,y<n
def comp (f g:List Nat):List Nat:=f.map fun i=>g.getD i 0
theorem Tr.at {n:Nat} {f:List Nat} (h:Tr n f) {i:Nat} (hi:i<f.length):f[i]<n:=h.2 _ (cJ hi)
theorem Tr.comp {n:Nat} {f g:List Nat} (hf:Tr n f) (hg:Tr n g):Tr n (comp f g):=by
 refine ⟨by simp[Go.AM.comp,hf.1],fun y hy=> ?_⟩;obtain ⟨i,hi,rfl⟩:=eu.1 hy;have:=hf.2 i hi;rw[bC (by rw[hg.1];exact this)];exact hg.at _
theorem Fl {n:Nat}:Tr n (List.range n):=⟨by simp,fun y hy=>fg.1 hy⟩
section
variable {n:Nat} {f g:List Nat} (h1:1≤n) (nB:n≤32)
include h1 nB
theorem Td (hf:Tr n f):CC Az [.list ae (nS f)]=some [.bool true]:=by
 have hl:=hf.1;refine ami ?_;unfold ab5;rw[cI,hl];refine bF (cO (by omega)) (bF (cO (by omega)) ?_);refine bs (dR n (fun i=>(i:Int)) (.inr ((n:Int),false)) (fun i hi=> ?_) ?_) rfl
 ·simp only[S7,Fe];have ca:i<f.length:=by omega
  refine bT (cd hi) (bs (gb ca) (bF yo (bF ?_ ?_)))
  ·rw[cI,hl];exact Fk (hf.at ca)
  ·rw[cm (by omega)]
 ·simp only[S7,Fe];rw[aV (az _)];rfl
theorem amv:CC Ky [.int .i64 (n:Int)]=some [.list ae (nS (List.range n))]:=by
 refine amm ?_;unfold ab6;refine bF (cO (by omega)) (bF (cO (by omega)) (bT (ga (by omega) (by omega)) ?_));rw[Int.toNat_natCast,y8];refine bs (sP (fun i a=>((i:Int),a)) n nV _ (by simp) (fun a=>((n:Int),false,a)) (fun i hi a ha=> ?_) ?_) ?_
 ·simp only[S8,Ff,un,aq,aD];refine bT (cd hi) ((rn (by omega)).trans ?_);rw[cm (by omega),Int.toNat_natCast];rfl
 ·simp only[S8,Ff,un];rw[aV (az _)];rfl
 ·rw[LL];refine congrArg (fun t=>some [V.list ae t]) ?_;rw[jL];exact cG fun j hj=>by rw[bC (by simpa using hj)];simp
theorem amw (hf:Tr n f) (hg:Tr n g):CC Ec [.list ae (nS f),.list ae (nS g)]=some [.list ae (nS (comp f g))]:=by
 have hl:=hf.1;have hlg:=hg.1;refine amq ?_;unfold ab7;rw[cI,cI,hl,hlg];refine bF (by simp) (bs (Td h1 nB hf) (bF rfl (bs (Td h1 nB hg) (bF rfl (bT (ga (by omega) (by omega)) ?_)))));rw[Int.toNat_natCast];refine bs (sP (fun i a=>((i:Int),a)) n (fun i=>nV (g.getD (f.getD i 0) 0)) _ (by simp) (fun a=>((n:Int),false,a)) (fun i hi a ha=> ?_) ?_) ?_
 ·simp only[S9,Fg,un,aq,aD];have ca:i<f.length:=by omega
  have h2:=hf.at ca;refine bT (cd hi) (bs (gb ca) (bs (gb (i:=f[i]) (by omega)) ((rn (by omega)).trans ?_)));rw[cm (by omega),Int.toNat_natCast,bC ca,bC (by omega)];rfl
 ·simp only[S9,Fg,un];rw[aV (az _)];rfl
 ·rw[LL];refine congrArg (fun t=>some [V.list ae t]) ?_;rw[show (comp f g).length=n by simp[comp,hl]];refine cG fun j hj=> ?_;have dN:j<f.length:=by omega
  rw[bC (l:=comp f g) (by simpa[comp] using dN),bC dN];simp[comp]
end
def lV (f:List Nat):List UInt8:=f.map fun y=>UInt8.ofNat y
theorem amx {n:Nat} (hn:n≤256) {f g:List Nat} (hf:Tr n f) (hg:Tr n g) (e:lV f=lV g):f=g:=by
 refine tj (hf.1.trans hg.1.symm) fun i h1 h2=> ?_;have:=List.getElem_of_eq e (i:=i) (by simpa[lV] using h1);simp only[lV,ze] at this;have a:=hf.at h1;have b:=hg.at h2;have:=congrArg UInt8.toNat this;simp only[UInt8.toNat_ofNat'] at this;omega
theorem Te {n:Nat} {f:List Nat} (hn:n≤32) (hf:Tr n f):CC vZ [.list ae (nS f)]=some [.str (lV f)]:=by
 have hl:=hf.1;refine amu ?_;unfold ab8;rw[cI,hl];refine bT (ga (by omega) (by omega)) ?_;rw[Int.toNat_natCast];refine bs (sP (fun i a=>((i:Int),a)) n (fun i=> .int .u8 ((f.getD i 0:Nat):Int)) _ (by simp) (fun a=>((n:Int),false,a)) (fun i hi a ha=> ?_) ?_) ?_
 ·simp only[Ta,Fi,un,aq,aD];have ca:i<f.length:=by omega
  have h2:=hf.at ca;refine bT (cd hi) (bs (gb ca) ((rn (by omega)).trans ?_));rw[cm (by omega),Int.toNat_natCast,bC ca,show (nV f[i]).toInt=(f[i]:Int) from rfl,JN (by omega) (by omega)]
 ·simp only[Ta,Fi,un];rw[aV (az _)];rfl
 ·refine congrArg (fun t=>some [V.str t]) ?_;rw[←hl];have:(tab f.length fun i=>V.int .u8 ((f.getD i 0:Nat):Int))=f.map fun y=> .int .u8 (y:Int):=(yl (f:=fun y:Nat=>V.int .u8 (y:Int)) f 0).symm;rw[this];simp[lz,lV]
end Go.AM
set_option maxRecDepth 100000
namespace Go.AM
open Go.IntKind (wrap)
section
variable {α:Type} [DecidableEq α] {L:Nat} {next:α→Nat→α} {a0:α}
theorem ab9 (S:List α) (a:α): ∀x,(cu next S a x).length≤S.length+x
 | 0=>az _
 | x+1=>by
  have:=ab9 S a x;rw[cu,AV];split<;>omega
end
end Go.AM
set_option maxRecDepth 100000
namespace Go.AM
open Go.IntKind (wrap)
open Go.Proofs
noncomputable def aca (C:af) (f:LV) (Fm last:Int) (word:List UInt8) (behind bM:Int) (bX:Bool) (cY:Int) (aP aH aI bh bp aS bd bJ bS b7:LV):Option LV:=
 (C vZ [.list ae f]).bind fun r1=>
 bif Nat.ble (((V.nth r1 0).toStr).length) maxLen&&true then
  bif Nat.ble ((aH.length+([.list ae f]:LV).length)*24) bm then
  bif Nat.ble ((aI.length+([V.int .i64 Fm]:LV).length)*8) bm then
   bif Nat.ble ((bh.length+([V.int .i64 last]:LV).length)*8) bm then
   bif Nat.ble ((bJ.length+([.str word]:LV).length)*16) bm then
    bif Nat.ble ((bS.length+([V.int .i64 behind]:LV).length)*8) bm then
    some [V.int .i64 (aH.length:Int),V.int .i64 bM,.bool bX,V.int .i64 cY,.list ah aP,.list cz (gW (.str ((V.nth r1 0).toStr)) (V.int .i64 (aH.length:Int)) bd),.list ah (aH++([.list ae f]:LV)),.list ae (aI++([V.int .i64 Fm]:LV)),.list ae (bh++([V.int .i64 last]:LV)),.list ah bp,.list dQ aS,.list ch (bJ++([.str word]:LV)),.list ae (bS++([V.int .i64 behind]:LV)),.list ae b7]
    else none
   else none
   else none
  else none
  else none
 else none
theorem amy {f:LV} {Fm last:Int} {word:List UInt8} {behind bM:Int} {bX:Bool} {cY:Int} {aP aH aI bh bp aS bd bJ bS b7:LV} {r:Option LV} (h:aca CC f Fm last word behind bM bX cY aP aH aI bh bp aS bd bJ bS b7=r):CC AA [.list ae f,V.int .i64 Fm,V.int .i64 last,.str word,V.int .i64 behind,V.int .i64 bM,.bool bX,V.int .i64 cY,.list ah aP,.list ah aH,.list ae aI,.list ae bh,.list ah bp,.list dQ aS,.list cz bd,.list ch bJ,.list ae bS,.list ae b7]=r:=bz (L:=bA) au h
noncomputable def acb (C:af) (i x bM:Int) (bX:Bool) (cY:Int) (aP aH aI bh bp aS bd bJ bS b7:LV):Option LV:=
 bif i==(-1) then
  aq b7 x fun x1=>
  some [V.int .i64 x1.toInt,V.int .i64 bM,.bool bX,V.int .i64 cY,.list ah aP,.list cz bd,.list ah aH,.list ae aI,.list ae bh,.list ah bp,.list dQ aS,.list ch bJ,.list ae bS,.list ae b7]
 else
  aq bp i fun x2=>
  (idx x2.toList x).bind fun x3=>
  some [V.int .i64 x3.toInt,V.int .i64 bM,.bool bX,V.int .i64 cY,.list ah aP,.list cz bd,.list ah aH,.list ae aI,.list ae bh,.list ah bp,.list dQ aS,.list ch bJ,.list ae bS,.list ae b7]
theorem amz {i x bM:Int} {bX:Bool} {cY:Int} {aP aH aI bh bp aS bd bJ bS b7:LV} {r:Option LV} (h:acb CC i x bM bX cY aP aH aI bh bp aS bd bJ bS b7=r):CC Ed [V.int .i64 i,V.int .i64 x,V.int .i64 bM,.bool bX,V.int .i64 cY,.list ah aP,.list ah aH,.list ae aI,.list ae bh,.list ah bp,.list dQ aS,.list cz bd,.list ch bJ,.list ae bS,.list ae b7]=r:=bz (L:=bA) au h
noncomputable def acd (C:af) (bM:Int) (bX:Bool) (cY:Int) (aP aH aI bh bp aS bd bJ bS b7:LV):Option LV:=
 some [.bool (cY==(aH.length:Int)),V.int .i64 bM,.bool bX,V.int .i64 cY,.list cz bd,.list ah aP,.list ah aH,.list ae aI,.list ae bh,.list ah bp,.list dQ aS,.list ch bJ,.list ae bS,.list ae b7]
theorem amA {bM:Int} {bX:Bool} {cY:Int} {aP aH aI bh bp aS bd bJ bS b7:LV} {r:Option LV} (h:acd CC bM bX cY aP aH aI bh bp aS bd bJ bS b7=r):CC Kr [V.int .i64 bM,.bool bX,V.int .i64 cY,.list ah aP,.list ah aH,.list ae aI,.list ae bh,.list ah bp,.list dQ aS,.list cz bd,.list ch bJ,.list ae bS,.list ae b7]=r:=bz (L:=bA) au h
noncomputable def LM (C:af) (i x bM:Int) (bX:Bool) (cY:Int) (aP aH aI bh bp aS bd bJ bS b7:LV):Option LV:=
 (C Ed [V.int .i64 i,V.int .i64 x,V.int .i64 bM,.bool bX,V.int .i64 cY,.list ah aP,.list ah aH,.list ae aI,.list ae bh,.list ah bp,.list dQ aS,.list cz bd,.list ch bJ,.list ae bS,.list ae b7]).bind fun r1=>
 aq ((V.nth (((((r1.drop 1).drop 3).drop 1).drop 1).drop 1) 0).toList) ((V.nth r1 0).toInt) fun x2=>
 bif (x2.toInt:Int)==i then
  aq ((V.nth ((((((r1.drop 1).drop 3).drop 1).drop 1).drop 1).drop 1) 0).toList) ((V.nth r1 0).toInt) fun x3=>
  some [.bool ((x3.toInt:Int)==x),V.int .i64 ((V.nth (r1.drop 1) 0).toInt),.bool ((V.nth ((r1.drop 1).drop 1) 0).toBool),V.int .i64 ((V.nth (((r1.drop 1).drop 1).drop 1) 0).toInt),.list ah ((V.nth ((r1.drop 1).drop 3) 0).toList),.list cz ((V.nth (((r1.drop 1).drop 3).drop 1) 0).toList),.list ah ((V.nth ((((r1.drop 1).drop 3).drop 1).drop 1) 0).toList),.list ae ((V.nth (((((r1.drop 1).drop 3).drop 1).drop 1).drop 1) 0).toList),.list ae ((V.nth ((((((r1.drop 1).drop 3).drop 1).drop 1).drop 1).drop 1) 0).toList),.list ah ((V.nth (((((((r1.drop 1).drop 3).drop 1).drop 1).drop 1).drop 1).drop 1) 0).toList),.list dQ ((V.nth ((((((((r1.drop 1).drop 3).drop 1).drop 1).drop 1).drop 1).drop 1).drop 1) 0).toList),.list ch ((V.nth (((((((((r1.drop 1).drop 3).drop 1).drop 1).drop 1).drop 1).drop 1).drop 1).drop 1) 0).toList),.list ae ((V.nth ((((((((((r1.drop 1).drop 3).drop 1).drop 1).drop 1).drop 1).drop 1).drop 1).drop 1).drop 1) 0).toList),.list ae ((V.nth (((((((((((r1.drop 1).drop 3).drop 1).drop 1).drop 1).drop 1).drop 1).drop 1).drop 1).drop 1).drop 1) 0).toList)]
 else
  some [.bool false,V.int .i64 ((V.nth (r1.drop 1) 0).toInt),.bool ((V.nth ((r1.drop 1).drop 1) 0).toBool),V.int .i64 ((V.nth (((r1.drop 1).drop 1).drop 1) 0).toInt),.list ah ((V.nth ((r1.drop 1).drop 3) 0).toList),.list cz ((V.nth (((r1.drop 1).drop 3).drop 1) 0).toList),.list ah ((V.nth ((((r1.drop 1).drop 3).drop 1).drop 1) 0).toList),.list ae ((V.nth (((((r1.drop 1).drop 3).drop 1).drop 1).drop 1) 0).toList),.list ae ((V.nth ((((((r1.drop 1).drop 3).drop 1).drop 1).drop 1).drop 1) 0).toList),.list ah ((V.nth (((((((r1.drop 1).drop 3).drop 1).drop 1).drop 1).drop 1).drop 1) 0).toList),.list dQ ((V.nth ((((((((r1.drop 1).drop 3).drop 1).drop 1).drop 1).drop 1).drop 1).drop 1) 0).toList),.list ch ((V.nth (((((((((r1.drop 1).drop 3).drop 1).drop 1).drop 1).drop 1).drop 1).drop 1).drop 1) 0).toList),.list ae ((V.nth ((((((((((r1.drop 1).drop 3).drop 1).drop 1).drop 1).drop 1).drop 1).drop 1).drop 1).drop 1) 0).toList),.list ae ((V.nth (((((((((((r1.drop 1).drop 3).drop 1).drop 1).drop 1).drop 1).drop 1).drop 1).drop 1).drop 1).drop 1) 0).toList)]
theorem amB {i x bM:Int} {bX:Bool} {cY:Int} {aP aH aI bh bp aS bd bJ bS b7:LV} {r:Option LV} (h:LM CC i x bM bX cY aP aH aI bh bp aS bd bJ bS b7=r):CC Ee [V.int .i64 i,V.int .i64 x,V.int .i64 bM,.bool bX,V.int .i64 cY,.list ah aP,.list ah aH,.list ae aI,.list ae bh,.list ah bp,.list dQ aS,.list cz bd,.list ch bJ,.list ae bS,.list ae b7]=r:=bz (L:=bA) au h
section
variable {X R:Type} {step:X→Option (X ⊕ R)}
theorem LN (P:Nat→X→Prop) (Q:R→Prop) (n:Nat) (h: ∀i,i<n→∀x,P i x→(∃y,step x=some (.inl y)∧P (i+1) y)∨∃r,step x=some (.inr r)∧Q r)
  (he: ∀x,P n x→∃r,step x=some (.inr r)∧Q r): ∀(d i:Nat) (x:X),i+d=n→P i x→∃r,Loop step x=some r∧Q r
 | 0,i,x,hi,hx=>by
  obtain rfl:i=n:=hi;obtain ⟨r,h1,h2⟩:=he x hx;exact ⟨r,cQ h1,h2⟩
 | d+1,i,x,hi,hx=>by
  rcases h i (by omega) x hx with ⟨y,h1,h2⟩|⟨r,h1,h2⟩
  ·obtain ⟨r,h3,h4⟩:=LN P Q n h he d (i+1) y (by omega) h2;exact ⟨r,(eD h1).trans h3,h4⟩
  ·exact ⟨r,cQ h1,h2⟩
end
section
variable {α:Type} [DecidableEq α] {ke:α→V} {x:α}
theorem Tf: ∀{S:List α} (i:Nat),(∀a∈S,gU (ke x) (ke a)=decide (x=a))→fB (ke x) (eX ke i S)=decide (x∈S)
 | [],_,_=>by simp[eX,fB]
 | a::S,i,h=>by
  have c: ∀(p q:V),(V.aW [p,q]).comp 0=p:=fun p q=>rfl;rw[eX,fB,c,h a (by simp),Tf (i+1) fun b hb=>h b (j6 _ hb)];rw[wO];simp
theorem ace {z:V}: ∀{S:List α} (i:Nat),(∀a∈S,gU (ke x) (ke a)=decide (x=a))→x∈S→jl (ke x) (eX ke i S) z= .int .i64 ((i+S.idxOf x:Nat):Int)
 | [],_,_,h=>by cases h
 | a::S,i,hk,h=>by
  have c: ∀(p q:V),(V.aW [p,q]).comp 0=p:=fun p q=>rfl;have c1: ∀(p q:V),(V.aW [p,q]).comp 1=q:=fun p q=>rfl;rw[eX,jl,c,c1,hk a (by simp)];by_cases e:x=a
  ·subst e;rw[cW rfl];simp[eX.iV]
  ·rw[cO e,cond_false,ace (i+1) (fun b hb=>hk b (j6 _ hb)) ((lu.1 h).resolve_left e),show (a::S).idxOf x=S.idxOf x+1 from by rw[List.idxOf_cons,show (a==x)=false from u7.2 fun h=>e h.symm];rfl];congr 2;omega
theorem acf: ∀{S:List α} (i:Nat),(∀a∈S,gU (ke x) (ke a)=decide (x=a))→x∉S→gW (ke x) (.int .i64 ((i+S.length:Nat):Int)) (eX ke i S)=eX ke i (S++[x])
 | [],i,_,_=>by simp[eX,gW,eX.iV]
 | a::S,i,hk,h=>by
  have c: ∀(p q:V),(V.aW [p,q]).comp 0=p:=fun p q=>rfl;have e:x≠a:=fun e=>h (by simp[e]);rw[eX,gW,c,hk a (by simp),cO e,cond_false,List.cons_append,eX];congr 1;have:=acf (i+1) (fun b hb=>hk b (j6 _ hb)) fun hx=>h (j6 _ hx);rw[←this];simp only[List.length_cons];congr 3;omega
end
section
variable {α:Type} [DecidableEq α] {ke:α→V} {x:α} {S T:List α}
def cN (S:List α) (a:α):Nat:=S.idxOf a
theorem km (h:x∈S):cN S x<S.length:=vg h
theorem acg (hp:T <+: S) (h:x∈T):cN S x=cN T x:=AY hp h
theorem Fo (h:x∈S):S[cN S x]'(km h)=x:=HV (km h)
theorem A3 (h:S.Nodup) {i:Nat} (hi:i<S.length):cN S S[i]=i:=h.idxOf_getElem i hi
theorem amC (h:x∉S):cN (S++[x]) x=S.length:=by rw[cN,zd,aj h];simp
theorem ach (h: ∀a∈S,gU (ke x) (ke a)=decide (x=a)) (hx:x∈S):fB (ke x) (eX ke 0 S)=true:=(Tf 0 h).trans (cW hx)
theorem aci (h: ∀a∈S,gU (ke x) (ke a)=decide (x=a)) (hx:x∉S):fB (ke x) (eX ke 0 S)=false:=(Tf 0 h).trans (cO hx)
theorem acj {z:V} (h: ∀a∈S,gU (ke x) (ke a)=decide (x=a)) (hx:x∈S):(jl (ke x) (eX ke 0 S) z).toInt=((cN S x:Nat):Int):=by rw[ace 0 h hx,eQ];rfl
end
theorem amD (a b:List UInt8):gU (.str a) (.str b)=decide (a=b):=by
 simp only[gU,V.cells,oQ,vn,Bool.and_true];rw[wO];simp
def tV (f:List Nat):V:= .list ae (nS f)
def sV (S:List (List Nat)):LV:=S.map tV
def kT (f:List Nat):V:= .str (lV f)
def mT (S:List (List Nat)):LV:=eX kT 0 S
def iL (l:List Int):LV:=l.map fun x=> .int .i64 x
def wL (l:List (List UInt8)):LV:=l.map V.str
theorem pg {f:List Nat}:(tV f).toList=nS f:=by simp[tV]
theorem Tg {n:Nat} (hn:n≤32) {S:List (List Nat)} (hS: ∀f∈S,Tr n f) {f:List Nat} (hf:Tr n f): ∀a∈S,gU (kT f) (kT a)=decide (f=a):=fun a ha=>by
 rw[kT,kT,amD,wO,B9,B9];exact ⟨fun e=>amx (by omega) hf (hS a ha) e,fun e=>by rw[e]⟩
theorem Fp {S:List (List Nat)} {i:Nat} (h:i<S.length):(sV S)[i]? =some (tV S[i]):=by simp[sV,h]
theorem sQ {l:List Int} {i:Nat} (h:i<l.length):(iL l)[i]? =some (.int .i64 (l.getD i 0)):=by simp[iL,h]
theorem wo {l:List (List UInt8)} {i:Nat} (h:i<l.length):(wL l)[i]? =some (.str (l.getD i [])):=by simp[wL,h]
@[simp] theorem wq {S:List (List Nat)}:(sV S).length=S.length:=by simp[sV]
@[simp] theorem atO {l:List Int}:(iL l).length=l.length:=by simp[iL]
@[simp] theorem atP {l:List (List UInt8)}:(wL l).length=l.length:=by simp[wL]
def wu (n D:Nat) (G:LV) (S:List (List Nat)) (P K:List Int) (R:List (List Nat)) (U:LV) (W:List (List UInt8)) (B:List Int) (s:List Nat):List V:=
 [.int .i64 (n:Int),.bool true,.int .i64 (D:Int),.list ah G,.list ah (sV S),.list ae (iL P),.list ae (iL K),.list ah (sV R),.list dQ U,.list cz (mT S),.list ch (wL W),.list ae (iL B),.list ae (nS s)]
def LO (n D:Nat) (G:LV) (S:List (List Nat)) (P K:List Int) (R:List (List Nat)) (U:LV) (W:List (List UInt8)) (B:List Int) (s:List Nat):List V:=
 [.int .i64 (n:Int),.bool true,.int .i64 (D:Int),.list ah G,.list cz (mT S),.list ah (sV S),.list ae (iL P),.list ae (iL K),.list ah (sV R),.list dQ U,.list ch (wL W),.list ae (iL B),.list ae (nS s)]
def uK (R:List (List Nat)) (s:List Nat) (b:Int) (x:Nat):Nat:=if b= -1 then s.getD x 0 else (R.getD b.toNat []).getD x 0
structure jd (L n:Nat) (g:Nat→List Nat) (S:List (List Nat)) (P K:List Int) (R:List (List Nat)) (W:List (List UInt8)) (B:List Int) (s:List Nat):Prop where
 tr: ∀f∈S,Tr n f
 nd:S.Nodup
 len:S.length≤2000
 lP:P.length=S.length
 lK:K.length=S.length
 lW:W.length=S.length
 lB:B.length=S.length
 row: ∀r∈R,r.length=L∧∀y∈r,y<S.length
 s:s.length≤L∧∀y∈s,y<S.length
 b: ∀i,i<S.length→B.getD i 0= -1∨(0≤B.getD i 0∧B.getD i 0<i)
 w: ∀i,i<S.length→(W.getD i []).length≤i
 p: ∀i,0<i→i<S.length→∃p x:Nat,P.getD i 0=p∧K.getD i 0=x∧p<i∧x<L∧S.getD i []=comp (S.getD p []) (g x)
 id:S.head? =some (List.range n)
section
variable {L n D:Nat} {g:Nat→List Nat} {S:List (List Nat)} {P K:List Int} {R:List (List Nat)} {W:List (List UInt8)} {B:List Int} {s:List Nat} {G U:LV}
theorem jd.grow (h:jd L n g S P K R W B s) {f:List Nat} (hf:Tr n f) (hn:f∉S) (hl:S.length<2000) {p x:Nat} {w:List UInt8} {b:Int} (hp:p<S.length) (hx:x<L) (hw:w.length≤S.length) (hb:b= -1∨(0≤b∧b<S.length)) (e:f=comp (S.getD p []) (g x)):
  jd L n g (S++[f]) (P++[(p:Int)]) (K++[(x:Int)]) R (W++[w]) (B++[b]) s:=by
 have a1: ∀{α:Type} {l:List α} {z d:α} {i:Nat},i<l.length→(l++[z]).getD i d=l.getD i d:=fun {α l z d i} hi=>by
  rw[vf,vf,mn hi]
 have a2: ∀{α:Type} {l:List α} {z d:α} {i:Nat},i=l.length→(l++[z]).getD i d=z:=fun {α l z d i} hi=>by subst hi;simp
 have c: ∀i,i<(S++[f]).length→i<S.length∨i=S.length:=fun i hi=>by simp at hi;omega
 refine ⟨fun a ha=> ?_,?_,by simp;omega,by simp[h.lP],by simp[h.lK],by simp[h.lW],by simp[h.lB],fun r hr=>⟨(h.row r hr).1,fun y hy=>by have:=(h.row r hr).2 y hy;simp;omega⟩,⟨h.s.1,fun y hy=>by have:=h.s.2 y hy;simp;omega⟩,fun i hi=> ?_,fun i hi=> ?_,fun i h0 hi=> ?_,?_⟩
 ·rcases eO.1 ha with ha|ha
  ·exact h.tr a ha
  ·rw[ff.1 ha];exact hf
 ·refine B6.2 ⟨h.nd,by simp,fun a ha b hb e=> ?_⟩;rw[ff.1 hb] at e;exact hn (e▸ha)
 ·rcases c i hi with c|c
  ·rw[a1 (by rw[h.lB];exact c)];exact h.b i c
  ·rw[a2 (by rw[h.lB];exact c),c];exact hb
 ·rcases c i hi with c|c
  ·rw[a1 (by rw[h.lW];exact c)];exact h.w i c
  ·rw[a2 (by rw[h.lW];exact c),c];exact hw
 ·rcases c i hi with c|c
  ·obtain ⟨p,x,q1,q2,q3,q4,q5⟩:=h.p i h0 c;exact ⟨p,x,by rw[a1 (by rw[h.lP];exact c)];exact q1,by rw[a1 (by rw[h.lK];exact c)];exact q2,q3,q4,by rw[a1 c,a1 (by omega)];exact q5⟩
  ·exact ⟨p,x,a2 (by rw[h.lP];exact c),a2 (by rw[h.lK];exact c),by omega,hx,by rw[a2 c,a1 hp];exact e⟩
 ·have:=h.id;cases S with
  | nil=>cases this
  | cons a S=>exact this
theorem jd.pos (h:jd L n g S P K R W B s):0<S.length:=by
 have:=h.id;cases S with
 | nil=>cases this
 | cons a S=>simp
theorem ack (h:jd L n g S P K R W B s) {b:Int} {x:Nat} (hx:x<L) (hs:b= -1→x<s.length) (hb:b= -1∨(0≤b∧b<R.length)):uK R s b x<S.length:=by
 unfold uK;split
 ·rename_i e;rw[bC (hs e)];exact h.s.2 _ (cJ _)
 ·rename_i e;obtain ⟨h1,h2⟩:=hb.resolve_left e;have h3:b.toNat<R.length:=by omega
  have:=h.row R[b.toNat] (cJ h3);rw[bC h3,bC (by omega)];exact this.2 _ (cJ _)
theorem Th (hn:n≤32) (hS: ∀f∈S,Tr n f) {f:List Nat} (hf:Tr n f) (tZ:f∉S) (h1:S.length≤2000) (h2:P.length≤2000) (h3:K.length≤2000) (h4:W.length≤2000) (h5:B.length≤2000) {p k b:Int} {w:List UInt8}:
  CC AA ([tV f,.int .i64 p,.int .i64 k,.str w,.int .i64 b]++wu n D G S P K R U W B s)=some (nV S.length::LO n D G (S++[f]) (P++[p]) (K++[k]) R U (W++[w]) (B++[b]) s):=by
 have hl:=hf.1;refine amy ?_;unfold aca;refine bs (Te hn hf) ?_;have e1:(lV f).length=n:=by simp[lV,hl]
 refine bT (pI.2 ⟨zb (by rw[show (V.nth [V.str (lV f)] 0).toStr=lV f from rfl,e1];unfold maxLen;omega),rfl⟩) ?_;refine bT (cap (by simp;omega) (by omega)) (bT (cap (by simp;omega) (by omega)) (bT (cap (by simp;omega) (by omega)) (bT (cap (by simp;omega) (by omega)) (bT (cap (by simp;omega) (by omega)) ?_))));have e2:=acf (ke:=kT) 0 (Tg hn hS hf) tZ;rw[eQ] at e2;rw[wq];unfold LO mT;rw[←e2];simp[sV,iL,wL,nV,tV];rfl
theorem Ti {b:Int} {x:Nat} (h:jd L n g S P K R W B s) (hx:x<L) (hs:b= -1→x<s.length) (hb:b= -1∨(0≤b∧b<R.length)):
  CC Ed ([.int .i64 b,nV x]++wu n D G S P K R U W B s)=some (nV (uK R s b x)::LO n D G S P K R U W B s):=by
 refine amz ?_;unfold acb uK;by_cases e:b= -1
 ·rw[ak e];refine bT (by simp[e]) ((cw (uJ (hs e))).trans ?_);rw[bC (hs e)];rfl
 ·rw[aj e];obtain ⟨h1,h2⟩:=hb.resolve_left e;obtain ⟨k,rfl⟩:=Int.eq_ofNat_of_zero_le h1;have h3:k<R.length:=by omega
  have h4:=(h.row R[k] (cJ h3)).1;refine bF (by simp only[u7];exact e) ((cw (Fp h3)).trans ?_);rw[pg];refine bs (gb (by omega)) ?_;rw[show ((k:Int)).toNat=k from Int.toNat_natCast k,bC h3,bC (by omega)];rfl
theorem amE {b:Int} {x:Nat} (h:jd L n g S P K R W B s) (hx:x<L) (hs:b= -1→x<s.length) (hb:b= -1∨(0≤b∧b<R.length)):
  ∃c,CC Ee ([.int .i64 b,nV x]++wu n D G S P K R U W B s)=some (.bool c::LO n D G S P K R U W B s):=by
 have h1:=ack h hx hs hb;have e: ∀r,LM CC b (x:Int) (n:Int) true (D:Int) G (sV S) (iL P) (iL K) (sV R) U (mT S) (wL W) (iL B) (nS s)=r→CC Ee ([.int .i64 b,nV x]++wu n D G S P K R U W B s)=r:=fun r h=>amB h;by_cases c1:P.getD (uK R s b x) 0=b
 ·refine ⟨K.getD (uK R s b x) 0==(x:Int),e _ ?_⟩;unfold LM;refine bs (Ti h hx hs hb) ((cw (sQ (by rw[h.lP];exact h1))).trans (bT ?_ ((cw (sQ (by rw[h.lK];exact h1))).trans rfl)));simpa using c1
 ·refine ⟨false,e _ ?_⟩;unfold LM;refine bs (Ti h hx hs hb) ((cw (sQ (by rw[h.lP];exact h1))).trans (bF ?_ rfl));simpa using c1
theorem Tj:CC Kr (wu n D G S P K R U W B s)=some [.bool ((D:Int)==(S.length:Int)),.int .i64 (n:Int),.bool true,.int .i64 (D:Int),.list cz (mT S),.list ah G,.list ah (sV S),.list ae (iL P),.list ae (iL K),.list ah (sV R),.list dQ U,.list ch (wL W),.list ae (iL B),.list ae (nS s)]:=by
 refine amA ?_;unfold acd;rw[wq]
end
end Go.AM
