/-
  Functions of the program, lifted to plain data.
-/
import Derived.Test.YtaijibbmmbhniaaGreatDoorProg
import Derived.Tactics
import Derived.Tactics2
import Derived.StillTactics
import Derived.Laws.Pointers
import Derived.Lib.LazyBuf
import Derived.RegionTactic
import Derived.LoopTactic
import Derived.WalkKit
import Derived.Test.YtaijibbmmbhniaaGreatDoorRows
import Derived.Lib.LaidTab
import Derived.LaidHandle
import Derived.LaidSub
import Derived.MakeChecks
import Derived.Lay
import Derived.Test.YtaijibbmmbhniaaGreatDoorP4
noncomputable section
set_option linter.unusedVariables false
set_option linter.unusedSimpArgs false
set_option maxRecDepth 100000
namespace Go.AM
open Go.IntKind (wrap)
open Go.Proofs
abbrev Ct:List UInt8:=[0,1,2,2,3,3,3,3,4,4,4,4,4,4,4,4,5,5,5,5,5,5,5,5,5,5,5,5,5,5,5,5,6,6,6,6,6,6,6,6,6,6,6,6,6,6,6,6,6,6,6,6,6,6,6,6,6,6,6,6,6,6,6,6,7,7,7,7,7,7,7,7,7,7,7,7,7,7,7,7,7,7,7,7,7,7,7,7,7,7,7,7,7,7,7,7,7,7,7,7,7,7,7,7,7,7,7,7,7,7,7,7,7,7,7,7,7,7,7,7,7,7,7,7,7,7,7,7,8,8,8,8,8,8,8,8,8,8,8,8,8,8,8,8,8,8,8,8,8,8,8,8,8,8,8,8,8,8,8,8,8,8,8,8,8,8,8,8,8,8,8,8,8,8,8,8,8,8,8,8,8,8,8,8,8,8,8,8,8,8,8,8,8,8,8,8,8,8,8,8,8,8,8,8,8,8,8,8,8,8,8,8,8,8,8,8,8,8,8,8,8,8,8,8,8,8,8,8,8,8,8,8,8,8,8,8,8,8,8,8,8,8,8,8,8,8,8,8,8,8,8,8,8,8,8,8]
abbrev pD:List UInt8:=[48,48,48,49,48,50,48,51,48,52,48,53,48,54,48,55,48,56,48,57,49,48,49,49,49,50,49,51,49,52,49,53,49,54,49,55,49,56,49,57,50,48,50,49,50,50,50,51,50,52,50,53,50,54,50,55,50,56,50,57,51,48,51,49,51,50,51,51,51,52,51,53,51,54,51,55,51,56,51,57,52,48,52,49,52,50,52,51,52,52,52,53,52,54,52,55,52,56,52,57,53,48,53,49,53,50,53,51,53,52,53,53,53,54,53,55,53,56,53,57,54,48,54,49,54,50,54,51,54,52,54,53,54,54,54,55,54,56,54,57,55,48,55,49,55,50,55,51,55,52,55,53,55,54,55,55,55,56,55,57,56,48,56,49,56,50,56,51,56,52,56,53,56,54,56,55,56,56,56,57,57,48,57,49,57,50,57,51,57,52,57,53,57,54,57,55,57,56,57,57]
abbrev SD:FuncId:=3
abbrev Mu:FuncId:=4
abbrev vV:FuncId:=5
abbrev Mv:FuncId:=6
abbrev FZ:FuncId:=7
abbrev F0:FuncId:=8
abbrev Mw:FuncId:=9
abbrev F3:FuncId:=10
abbrev F4:FuncId:=11
abbrev Mx:FuncId:=12
abbrev F5:FuncId:=13
abbrev Cu:FuncId:=14
abbrev F6:FuncId:=15
abbrev My:FuncId:=16
abbrev pE:FuncId:=17
abbrev amI:FuncId:=18
abbrev amJ:FuncId:=19
abbrev amK:FuncId:=20
abbrev Mz:FuncId:=21
abbrev zV:FuncId:=22
abbrev F7:FuncId:=23
abbrev zW:FuncId:=24
abbrev F8:FuncId:=25
abbrev Cv:FuncId:=26
abbrev xE:FuncId:=27
abbrev MA:FuncId:=28
abbrev MB:FuncId:=29
abbrev MC:FuncId:=30
abbrev amL:FuncId:=31
abbrev amM:FuncId:=32
abbrev amN:FuncId:=33
abbrev amO:FuncId:=34
abbrev MD:FuncId:=35
abbrev ME:FuncId:=36
abbrev MF:FuncId:=37
abbrev zX:FuncId:=38
abbrev MG:FuncId:=39
abbrev MH:FuncId:=40
abbrev F9:FuncId:=41
abbrev Ga:FuncId:=42
abbrev MI:FuncId:=43
abbrev MJ:FuncId:=44
abbrev MK:FuncId:=45
abbrev amP:FuncId:=46
abbrev amQ:FuncId:=47
abbrev amR:FuncId:=48
abbrev amS:FuncId:=49
abbrev amT:FuncId:=50
abbrev Gb:FuncId:=51
abbrev Gc:FuncId:=52
abbrev ML:FuncId:=53
abbrev MM:FuncId:=54
abbrev Cw:FuncId:=55
abbrev Ge:FuncId:=56
abbrev MN:FuncId:=57
abbrev Gf:FuncId:=58
abbrev Gg:FuncId:=59
abbrev Gh:FuncId:=60
abbrev MO:FuncId:=61
abbrev xF:FuncId:=62
abbrev vW:FuncId:=63
abbrev vX:FuncId:=64
abbrev Gi:FuncId:=65
abbrev Gj:FuncId:=66
abbrev Gk:FuncId:=67
abbrev Gl:FuncId:=68
abbrev MP:FuncId:=69
abbrev Gm:FuncId:=70
abbrev Gn:FuncId:=71
abbrev Gp:FuncId:=72
abbrev rA:FuncId:=73
abbrev Gq:FuncId:=75
abbrev MQ:FuncId:=76
abbrev MR:FuncId:=77
abbrev MS:FuncId:=78
abbrev Gr:FuncId:=79
abbrev vY:FuncId:=80
abbrev vZ:FuncId:=81
abbrev Gs:FuncId:=82
abbrev MT:FuncId:=84
abbrev Gt:FuncId:=85
abbrev cR:FuncId:=86
abbrev Gu:FuncId:=87
abbrev v5:FuncId:=88
abbrev MU:FuncId:=89
abbrev Gv:FuncId:=90
abbrev Gw:FuncId:=91
abbrev Cx:FuncId:=92
abbrev MV:FuncId:=93
abbrev Gx:FuncId:=94
abbrev SF:FuncId:=95
abbrev Gy:FuncId:=96
abbrev Gz:FuncId:=97
abbrev GA:FuncId:=98
abbrev MW:FuncId:=99
abbrev MX:FuncId:=100
abbrev MY:FuncId:=101
abbrev MZ:FuncId:=103
abbrev v7:FuncId:=104
abbrev v8:FuncId:=105
abbrev SG:FuncId:=106
abbrev SH:FuncId:=107
abbrev SI:FuncId:=108
abbrev SJ:FuncId:=109
abbrev SK:FuncId:=110
abbrev SM:FuncId:=111
abbrev SN:FuncId:=112
abbrev SO:FuncId:=113
abbrev GB:FuncId:=115
abbrev M0:FuncId:=116
abbrev zY:FuncId:=117
abbrev M1:FuncId:=118
abbrev v9:FuncId:=119
abbrev M3:FuncId:=120
abbrev SP:FuncId:=121
abbrev GC:FuncId:=124
abbrev SQ:FuncId:=125
abbrev M4:FuncId:=126
abbrev M5:FuncId:=127
abbrev SR:FuncId:=128
abbrev SS:FuncId:=129
abbrev M6:FuncId:=130
abbrev M7:FuncId:=131
abbrev GD:FuncId:=132
abbrev uv:FuncId:=133
abbrev M8:FuncId:=134
abbrev M9:FuncId:=136
abbrev SU:FuncId:=137
abbrev Na:FuncId:=138
abbrev Nb:FuncId:=139
abbrev GF:FuncId:=140
abbrev aF:TypeId:=3
abbrev ao:TypeId:=4
abbrev fG:TypeId:=5
abbrev GG:TypeId:=9
abbrev ar:TypeId:=22
abbrev dA:TypeId:=39
abbrev jy:TypeId:=45
abbrev dX:TypeId:=56
abbrev dY:TypeId:=57
abbrev dp:TypeId:=63
abbrev bu:TypeId:=69
abbrev Nc:TypeId:=80
abbrev SV:TypeId:=83
abbrev jz:TypeId:=89
abbrev jP:TypeId:=91
abbrev gx:TypeId:=94
abbrev kJ:TypeId:=115
abbrev iP:TypeId:=117
abbrev GH:TypeId:=153
abbrev SW:Nat:=164
abbrev SX:Nat:=165
abbrev SY:Nat:=166
abbrev SZ:Nat:=167
def Ng:List V:=[.int .u64 1,.int .u64 10,.int .u64 100,.int .u64 1000,.int .u64 10000,.int .u64 100000,.int .u64 1000000,.int .u64 10000000,.int .u64 100000000,.int .u64 1000000000,.int .u64 10000000000,.int .u64 100000000000,.int .u64 1000000000000,.int .u64 10000000000000,.int .u64 100000000000000,.int .u64 1000000000000000,.int .u64 10000000000000000,.int .u64 100000000000000000,.int .u64 1000000000000000000,.int .u64 10000000000000000000]
def S3:List V:=[.int .u8 0,.int .u8 1,.int .u8 28,.int .u8 2,.int .u8 29,.int .u8 14,.int .u8 24,.int .u8 3,.int .u8 30,.int .u8 22,.int .u8 20,.int .u8 15,.int .u8 25,.int .u8 17,.int .u8 4,.int .u8 8,.int .u8 31,.int .u8 27,.int .u8 13,.int .u8 23,.int .u8 21,.int .u8 19,.int .u8 16,.int .u8 7,.int .u8 26,.int .u8 12,.int .u8 18,.int .u8 6,.int .u8 11,.int .u8 5,.int .u8 10,.int .u8 9]
def Cy:List V:=[.int .u8 0,.int .u8 1,.int .u8 56,.int .u8 2,.int .u8 57,.int .u8 49,.int .u8 28,.int .u8 3,.int .u8 61,.int .u8 58,.int .u8 42,.int .u8 50,.int .u8 38,.int .u8 29,.int .u8 17,.int .u8 4,.int .u8 62,.int .u8 47,.int .u8 59,.int .u8 36,.int .u8 45,.int .u8 43,.int .u8 51,.int .u8 22,.int .u8 53,.int .u8 39,.int .u8 33,.int .u8 30,.int .u8 24,.int .u8 18,.int .u8 12,.int .u8 5,.int .u8 63,.int .u8 55,.int .u8 48,.int .u8 27,.int .u8 60,.int .u8 41,.int .u8 37,.int .u8 16,.int .u8 46,.int .u8 35,.int .u8 44,.int .u8 21,.int .u8 52,.int .u8 32,.int .u8 23,.int .u8 11,.int .u8 54,.int .u8 26,.int .u8 40,.int .u8 15,.int .u8 34,.int .u8 20,.int .u8 31,.int .u8 10,.int .u8 25,.int .u8 14,.int .u8 19,.int .u8 9,.int .u8 13,.int .u8 8,.int .u8 7,.int .u8 6]
abbrev aa:VS:= .one (.int .i64)
abbrev dq:VS:= .one (.int .u64)
abbrev aV:VS:= .one (.dk 0 0 0)
abbrev aC:VS:= .one (.bool)
abbrev pF:VS:= .one (.list ar)
abbrev zZ:VS:= .one (.list ao)
abbrev cY:VS:= .one (.dk 1 0 0)
abbrev fU:VS:= .one (.list aF)
abbrev cP:VS:= .one (.whole bu 0)
abbrev dQ:VS:= .one (.dk 2 0 0)
abbrev jQ:VS:= .one (.list jy)
abbrev od:VS:= .one (.list bu)
abbrev gU:VS:= .one (.dk 3 0 0)
abbrev ln:VS:= .one (.whole aF 1)
abbrev amU:VS:= .one (.whole ao 6)
abbrev amV:VS:= .one (.whole ar 7)
abbrev mF:VS:= .one (.dk 4 0 0)
abbrev rB:VS:= .one (.whole aF 3)
abbrev oW:VS:= .one (.str)
abbrev S4:VS:= .one (.whole ao 3)
abbrev amW:VS:= .one (.whole ao 8)
abbrev amX:VS:= .one (.whole ar 9)
abbrev pG:VS:= .one (.whole dA 0)
abbrev amY:VS:= .one (.whole ao 5)
abbrev amZ:VS:= .one (.whole ar 6)
abbrev wa:VS:= .one (.whole aF 2)
abbrev am0:VS:= .one (.whole ar 4)
abbrev uw:VS:= .one (.whole aF 4)
abbrev sX:VS:= .one (.dk 5 0 0)
abbrev xG:VS:= .one (.whole aF 0)
abbrev am1:VS:= .one (.whole ao 4)
abbrev am2:VS:= .one (.whole ar 5)
abbrev acw:VS:= .one (.whole bu 2)
abbrev xH:VS:= .one (.list Nc)
abbrev Nh:VS:= .one (.cD dX 2)
abbrev Ni:VS:= .one (.cD dY 3)
abbrev z0:VS:= .one (.whole SV 1)
abbrev am3:VS:= .one (.whole ao 7)
abbrev am4:VS:= .one (.whole ar 8)
abbrev am5:VS:= .one (.whole ao 9)
abbrev am6:VS:= .one (.whole ar 10)
abbrev am7:VS:= .one (.whole ao 10)
abbrev am8:VS:= .one (.whole ar 11)
abbrev am9:VS:= .one (.whole jy 4)
abbrev Nj:VS:= .one (.whole ao 1)
abbrev z7:VS:= .one (.whole aF 5)
abbrev S5:VS:= .one (.whole bu 1)
abbrev ana:VS:= .one (.list gx)
abbrev z8:VS:= .one (.whole fG 1)
abbrev z9:VS:= .one (.whole dp 2)
abbrev anb:VS:= .one (.whole jy 5)
abbrev acx:VS:= .one (.whole ao 2)
abbrev Aa:VS:= .one (.whole aF 7)
abbrev S6:VS:= .one (.whole bu 3)
abbrev GI:VS:= .one (.list dp)
abbrev acy:VS:= .one (.whole dA 1)
abbrev GJ:VS:= .one (.whole jz 3)
abbrev GK:VS:= .one (.cD kJ 3)
abbrev anc:VS:= .one (.whole ar 3)
abbrev Nk:VS:= .one (.whole dA 2)
abbrev ane:VS:= .one (.whole bu 12)
abbrev Nl:VS:= .one (.cD jP 4)
abbrev GL:VS:= .one (.dk 6 0 0)
abbrev anf:VS:= .one (.whole ar 2)
abbrev ang:VS:= .one (.whole bu 4)
abbrev acz:VS:= .one (.whole dA 4)
abbrev acA:VS:= .one (.whole bu 5)
abbrev anh:VS:= .one (.whole dA 6)
abbrev Nm:VS:= .one (.sub fG 0)
abbrev ani:VS:= .one (.cD dX 5)
abbrev anj:VS:= .one (.cD dY 6)
abbrev ank:VS:= .one (.whole bu 11)
abbrev acB:VS:= .one (.whole dp 3)
abbrev acC:VS:= .one (.whole GG 2)
abbrev S7:VS:= .one (.whole aF 6)
abbrev acD:VS:= .one (.cD GH 2)
abbrev Nn:VS:= .one (.whole fG 0)
abbrev anl:VS:= .one (.whole ao 11)
abbrev anm:VS:= .one (.whole ar 12)
abbrev Cz:VS:= .agg [.int .i64,.int .i64,.list ao,.list ar]
abbrev CA:VS:= .agg [.int .i64,.int .i64,.whole ao 0,.whole ar 1]
abbrev GM:VS:= .agg [.int .u64,.int .u64]
abbrev acE:VS:= .agg [.int .i64,.int .i64,.int .u64,.int .u64,.list bu]
abbrev No:VS:= .agg [.list jy,.int .i64]
abbrev acF:VS:= .agg [.int .i64,.int .i64,.int .i64]
abbrev CB:VS:= .agg [.int .i64,.int .i64]
abbrev Np:VS:= .agg [.int .i64,.int .i64,.int .i64,.int .i64]
abbrev Nq:VS:= .agg [.int .i64,.int .i64,.whole ao 4,.whole ar 5]
abbrev S8:VS:= .agg [.int .i64,.int .i64,.whole ao 2,.whole ar 3]
abbrev eE:BS:= .var 39 [aa,aa,zZ,pF]
abbrev pH:BS:= .var 45 [aa,aa,aa,aa]
abbrev sY:BS:= .var 39 [aa,aa,amU,amV]
abbrev ux:BS:= .var 39 [aa,aa,amW,amX]
abbrev oX:BS:= .var 66 [aa,aa,dq,dq,od]
abbrev xI:BS:= .var 3 [aa]
abbrev nn:BS:= .var 28 [jQ,aa]
abbrev xJ:BS:= .var 39 [aa,aa,amY,amZ]
abbrev CD:BS:= .var 39 [aa,aa,S4,am0]
abbrev xK:BS:= .var 42 [fU,aa]
abbrev Ab:BS:= .var 39 [aa,aa,am1,am2]
abbrev ano:BS:= .var 134 [aa,aa,dq,dq,acw]
abbrev GN:BS:= .var 39 [aa,aa,am3,am4]
abbrev CE:BS:= .var 39 [aa,aa,am5,am6]
abbrev GO:BS:= .var 39 [aa,aa,am7,am8]
abbrev S9:BS:= .var 28 [am9,aa]
abbrev xL:BS:= .var 183 [ana]
abbrev CF:BS:= .var 89 [aa,aa]
abbrev anp:BS:= .var 28 [anb,aa]
abbrev anq:BS:= .var 134 [aa,aa,dq,dq,S5]
abbrev Ta:BS:= .var 39 [aa,aa,acx,anc]
abbrev acG:BS:= .var 66 [aa,aa,dq,dq,ane]
abbrev acH:BS:= .var 39 [aa,aa,Nj,anf]
abbrev anr:BS:= .var 66 [aa,aa,dq,dq,S6]
abbrev ans:BS:= .var 66 [aa,aa,dq,dq,ang]
abbrev Tb:BS:= .var 175 [dq]
abbrev acI:BS:= .var 59 [aa,anh,Nh,Ni]
abbrev ant:BS:= .var 59 [aa,acy,Nh,Ni]
abbrev anu:BS:= .var 59 [aa,acz,ani,anj]
abbrev anv:BS:= .var 66 [aa,aa,dq,dq,ank]
abbrev Nr:BS:= .var 83 [dq,dq]
abbrev acJ:BS:= .var 66 [aa,aa,dq,dq,acA]
abbrev acK:BS:= .var 39 [aa,aa,anl,anm]
abbrev anw:BS:= .var 59 [aa,.one (.whole dA 3),.one (.cD dX 4),.one (.cD dY 5)]
abbrev anx:BS:= .var 134 [aa,aa,dq,dq,.one (.whole bu 7)]
abbrev anz:BS:= .var 141 [.one (.whole jz 10),.one (.cD jP 11)]
abbrev anA:BS:= .var 39 [aa,aa,.one (.whole ao 12),.one (.whole ar 13)]
abbrev anB:BS:= .var 141 [.one (.whole jz 8),.one (.cD jP 9)]
abbrev anC:BS:= .var 182 [.one (.whole dp 8),.one (.cD kJ 9)]
abbrev anD:BS:= .var 182 [.one (.whole dp 7),.one (.cD kJ 8)]
abbrev cj:BS:= .arr ao false
abbrev cF:BS:= .arr ar false
abbrev jR:BS:= .arr bu false
abbrev dx:BS:= .arr aF false
abbrev jS:BS:= .arr dA false
abbrev xM:BS:= .arr jy false
abbrev qx:BS:= .arr dp false
abbrev GP:BS:= .arr fG false
abbrev sZ:BS:= .arr jz false
abbrev acL:BS:= .arr SV false
abbrev acM:BS:= .arr GG false
abbrev acN:BS:= .nest ar
abbrev Ns:BS:= .nest gx
abbrev cq:List BS:=[jR]
abbrev oe:List BS:=[eE]
abbrev pI:List BS:=[dx]
abbrev qy:List BS:=[cj,cF]
abbrev rC:List BS:=[pH,acL]
abbrev rD:List BS:=[ano,.dead,jR]
abbrev uy:List BS:=[GP]
abbrev uz:List BS:=[xI]
abbrev xN:List BS:=[xK,S9,anp,pH,xM,xM]
abbrev xO:List BS:=[eE,eE]
abbrev xP:List BS:=[anq,jR]
abbrev Ac:List BS:=[eE,dx]
abbrev CG:List BS:=[jS,pH,CD,cj,acN]
abbrev CH:List BS:=[eE,CD,xJ,cj,cF,cj,cF]
abbrev CI:List BS:=[eE,anr,ans,jR,jR]
abbrev CJ:List BS:=[eE,GP]
abbrev GQ:List BS:=[ant,jS,.map dX,.map dY]
abbrev Nt:List BS:=[jS,Ta,cj,acN]
abbrev Nu:List BS:=[anu,dx,jS,pH,jS,.map dX,.map dY]
abbrev Nv:List BS:=[xJ,GN,CE,anv,acG,cj,cF,cj,cF,cj,cF,jR,jR]
abbrev Nw:List BS:=[nn,dx,pH]
abbrev Nx:List BS:=[eE,Ab,dx,dx,cj,cF]
abbrev Ny:List BS:=[oX,sY,qx,.map kJ,ux,dx,cj,cF,cj,cF]
abbrev Nz:List BS:=[eE,dx,acM,cj]
abbrev NA:List BS:=[Ab,sY,dx,dx,cj,cF,cj,cF]
abbrev NB:List BS:=[jR,Tb]
abbrev NC:List BS:=[acI,.dead,.map dX,.map dY,cj,cF,jS]
abbrev Td:List BS:=[acH,cj,cF]
abbrev Te:List BS:=[eE,eE,ux,sZ,.map jP,GO,CF,dx,cj,cF,cj,cF]
abbrev Tf:List BS:=[acH,cj,cF,qx]
abbrev Tg:List BS:=[eE,eE,xI]
abbrev Th:List BS:=[cj,cF,dx]
abbrev acO:List BS:=[anw,dx,jS,jS,.map dX,.map dY]
abbrev acP:List BS:=[sY,ux,GO,acG,acJ,jR,cj,cF,cj,cF,cj,cF,jR]
abbrev acQ:List BS:=[eE,Ab,sY,dx,cj,cF,cj,cF]
abbrev acR:List BS:=[eE,eE,sY,sZ,.map jP,ux,cj,cF,cj,cF]
abbrev acS:List BS:=[eE,sY,dx,ux,dx,dx,cj,cF,cj,cF]
abbrev acT:List BS:=[eE,xJ,dx,GN,dx,cj,cF,cj,cF]
abbrev acU:List BS:=[oX,xJ,qx,.map kJ,GN,cj,cF,cj,cF]
abbrev acV:List BS:=[CD,xJ,anx,cj,cF,cj,cF,jR]
abbrev acW:List BS:=[eE,GN,CE,dx,dx,acK,dx,cj,cF,cj,cF,cj,cF]
abbrev acX:List BS:=[eE,sY,ux,dx,dx,GO,cj,cF,cj,cF,cj,cF]
abbrev acY:List BS:=[sY,dx,ux,dx,dx,dx,cj,cF,cj,cF]
abbrev acZ:List BS:=[eE,eE,xI,ux,anz,anA,CF,dx,cj,cF,sZ,.map jP,cj,cF]
abbrev ac0:List BS:=[eE,eE,xI,sY,anB,GO,cj,cF,sZ,.map jP,cj,cF]
abbrev ac1:List BS:=[xL,oX,sY,anC,GO,dx,cj,cF,qx,.map kJ,cj,cF]
abbrev ac2:List BS:=[xL,oX,xJ,anD,CE,cj,cF,qx,.map kJ,cj,cF]
abbrev eR:List (Nat×VS):=[(0,aa)]
abbrev lp:List (Nat×VS):=[(0,aC)]
abbrev pJ:List (Nat×VS):=[(0,Cz)]
abbrev pK:List (Nat×VS):=[(0,dq)]
abbrev xQ:List (Nat×VS):=[(0,CA),(1,aa)]
abbrev Ad:List (Nat×VS):=[(2,aa)]
abbrev Ae:List (Nat×VS):=[(0,aa),(1,aa)]
abbrev Af:List (Nat×VS):=[(0,acE)]
abbrev CK:List (Nat×VS):=[(0,aV),(1,aa)]
abbrev GR:List (Nat×VS):=[(4,aC)]
abbrev GS:List (Nat×VS):=[(1,xH),(2,oW),(3,aV),(7,z0),(15,aa),(16,aa)]
abbrev GU:List (Nat×VS):=[(0,fU)]
abbrev GV:List (Nat×VS):=[(0,Cz),(1,Cz)]
abbrev GW:List (Nat×VS):=[(0,CA)]
abbrev GX:List (Nat×VS):=[(0,xG)]
abbrev GY:List (Nat×VS):=[(0,GM)]
abbrev ND:List (Nat×VS):=[(0,aV),(1,aa),(6,cY),(7,dQ),(8,aa),(9,aa),(10,gU)]
abbrev NF:List (Nat×VS):=[(0,No),(1,aa)]
abbrev NG:List (Nat×VS):=[(0,Cz),(1,Cz),(2,aa)]
abbrev Ti:List (Nat×VS):=[(1,aa),(2,aV),(17,jQ),(18,aa),(19,aa)]
abbrev Tj:List (Nat×VS):=[(6,aV),(7,aa)]
abbrev Tk:List (Nat×VS):=[(2,aV),(3,acB),(4,aa)]
abbrev Tl:List (Nat×VS):=[(0,GM),(1,GM)]
abbrev Tm:List (Nat×VS):=[(0,acF),(1,acF)]
abbrev Tn:List (Nat×VS):=[(0,CA),(1,wa)]
abbrev ac3:List (Nat×VS):=[(7,aV),(8,ln),(9,Nk),(10,aa),(11,gU),(34,jQ),(35,aa),(36,aa)]
abbrev ac4:List (Nat×VS):=[(1,aV),(3,ln),(4,aa),(5,dQ),(18,jQ),(19,aa),(20,aa)]
abbrev ac5:List (Nat×VS):=[(1,aV),(3,aa),(38,pF),(39,aa),(40,aa),(49,fU),(50,aa),(51,aa)]
abbrev ac6:List (Nat×VS):=[(1,aV),(3,aa),(38,pF),(39,aa),(40,aa),(49,fU),(50,aa),(51,aa),(52,aC)]
abbrev ac7:List (Nat×VS):=[(1,aV),(3,aa),(38,pF),(39,aa),(40,aa),(41,aC)]
abbrev ac8:List (Nat×VS):=[(6,pG),(8,acy),(44,aa),(45,aa)]
def To:Shape×List (Out×Shape):=(⟨ac8,[jS,jS]⟩,[(.ret,⟨[(2,aC)],[]⟩),(.exit 0,⟨ac8++[(46,aC)],[jS,jS]⟩)])
def Tr:Shape×List (Out×Shape):=(⟨[(0,aV),(1,aa),(6,cY),(7,dQ),(8,aa),(9,aa),(10,gU),(25,aC)],xN⟩,[(.norm,⟨ND,xN⟩)])
def Ts:Shape×List (Out×Shape):=(⟨[(0,aV),(1,aa),(6,cY),(7,dQ),(8,aa),(9,aa),(10,gU),(33,aC)],xN⟩,[(.norm,⟨ND,xN⟩)])
def Tt:Shape×List (Out×Shape):=(⟨[(0,aV),(1,aa),(6,cY),(7,dQ),(8,aa),(9,aa),(10,gU),(40,aC)],xN⟩,[(.norm,⟨ND,xN⟩)])
def Tu:Shape×List (Out×Shape):=(⟨[(0,aV),(1,aa),(6,cY),(7,dQ),(8,aa),(9,aa),(10,gU),(52,aC)],xN⟩,[(.norm,⟨ND,xN⟩)])
abbrev ac9:List (Nat×VS):=[(0,aV),(1,aa),(6,cY),(7,dQ),(8,aa),(9,aa)]
def Tv:Shape×List (Out×Shape):=(⟨ac9,[xK,.var 28 [.one (.whole jy 3),aa],S9,xM,xM]⟩,[(.exit 0,⟨ac9++[(17,aC)],[xK,.var 28 [.one (.whole jy 3),aa],S9,xM,xM]⟩)])
abbrev ada:List (Nat×VS):=[(1,aa),(7,pG),(10,cY),(11,aa),(12,aa),(13,aa),(24,jQ),(25,aa),(26,aa)]
def Tw:Shape×List (Out×Shape):=(⟨ada,Nt⟩,[(.exit 5,⟨ada++[(56,aC)],Nt⟩)])
abbrev adb:List (Nat×VS):=[(1,aa),(7,pG),(10,cY),(11,aa),(12,aa),(24,jQ),(25,aa),(26,aa)]
def Tx:Shape×List (Out×Shape):=(⟨adb,Nt⟩,[(.exit 3,⟨adb++[(46,aC)],Nt⟩)])
def Tz:Shape×List (Out×Shape):=(⟨[(1,aa),(7,pG),(9,cY),(10,dQ),(11,aa),(14,aa),(15,aa),(16,aa),(24,jQ),(25,aa),(26,aa),(96,aC)],CG⟩,[(.norm,⟨[(1,aa),(7,pG),(9,cY),(10,dQ),(11,aa),(14,aa),(15,aa),(16,aa),(24,jQ),(25,aa),(26,aa)],CG⟩)])
abbrev ade:List (Nat×VS):=[(1,aa),(7,pG),(9,cY),(10,dQ),(11,aa),(14,aa),(15,aa),(24,jQ),(25,aa),(26,aa)]
def TA:Shape×List (Out×Shape):=(⟨ade,CG⟩,[(.exit 9,⟨ade++[(86,aC)],CG⟩)])
abbrev adf:List (Nat×VS):=[(1,aa),(7,pG),(9,cY),(10,dQ),(11,aa),(14,aa),(24,jQ),(25,aa),(26,aa)]
def TB:Shape×List (Out×Shape):=(⟨adf,CG⟩,[(.exit 7,⟨adf++[(76,aC)],CG⟩)])
def TC:Shape×List (Out×Shape):=(⟨[(1,aa),(7,pG),(9,cY),(10,dQ),(11,aa),(24,jQ),(25,aa),(26,aa),(31,aa),(109,aC)],[jS,pH,CD,cj,cF]⟩,[(.norm,⟨[(1,aa),(7,pG),(10,cY),(11,aa),(24,jQ),(25,aa),(26,aa)],[jS,Ta,cj,cF]⟩)])
abbrev adg:List (Nat×VS):=[(1,aa),(7,pG),(24,jQ),(25,aa),(26,aa)]
def TD:Shape×List (Out×Shape):=(⟨adg,[jS]⟩,[(.ret,⟨[(4,pG),(5,aa)],[jS]⟩),(.exit 0,⟨adg++[(27,aC)],[jS]⟩)])
def TE:Shape×List (Out×Shape):=(⟨[(7,aV),(8,ln),(9,Nk),(10,aa),(11,gU),(34,jQ),(35,aa),(36,aa),(44,aC)],Nu⟩,[(.norm,⟨ac3,Nu⟩)])
def TF:Shape×List (Out×Shape):=(⟨[(7,aV),(8,ln),(9,Nk),(10,aa),(11,gU),(34,jQ),(35,aa),(36,aa),(54,aC)],Nu⟩,[(.norm,⟨ac3,Nu⟩)])
abbrev adh:List (Nat×VS):=[(7,aV),(8,ln),(9,Nk),(34,jQ),(35,aa),(36,aa)]
def TG:Shape×List (Out×Shape):=(⟨adh,acO⟩,[(.ret,⟨[(4,pG),(5,aa)],[jS]⟩),(.exit 0,⟨adh++[(37,aC)],acO⟩)])
abbrev adi:List (Nat×VS):=[(2,aV),(3,cY),(40,aa),(41,aa)]
def TH:Shape×List (Out×Shape):=(⟨adi,xO⟩,[(.ret,⟨GR,[]⟩),(.exit 0,⟨adi++[(42,aC)],xO⟩)])
abbrev adj:List (Nat×VS):=[(2,aV),(3,cY),(6,aa),(58,aa),(59,aa),(80,aa),(81,aa)]
def TI:Shape×List (Out×Shape):=(⟨adj,xO⟩,[(.ret,⟨GR,[]⟩),(.exit 4,⟨adj++[(82,aC)],xO⟩)])
abbrev adk:List (Nat×VS):=[(2,aV),(3,cY),(58,aa),(59,aa)]
def TJ:Shape×List (Out×Shape):=(⟨adk,xO⟩,[(.ret,⟨GR,[]⟩),(.exit 2,⟨adk++[(60,aC)],xO⟩)])
def TK:Shape×List (Out×Shape):=(⟨[(1,aa),(2,aV),(5,aa),(6,cY),(7,aC),(8,aC),(17,jQ),(18,aa),(19,aa),(64,aC)],[nn,pH]⟩,[(.ret,⟨[(4,aa)],[]⟩),(.norm,⟨Ti,[nn]⟩)])
def TL:Shape×List (Out×Shape):=(⟨[(1,aa),(2,aV),(5,aa),(6,cY),(7,aC),(8,aC),(17,jQ),(18,aa),(19,aa),(55,aC)],[nn,pH]⟩,[(.ret,⟨[(4,aa)],[]⟩),(.norm,⟨Ti,[nn]⟩)])
def TM:Shape×List (Out×Shape):=(⟨Ti,[nn]⟩,[(.ret,⟨[(4,aa)],[]⟩),(.exit 0,⟨[(1,aa),(2,aV),(17,jQ),(18,aa),(19,aa),(20,aC)],[nn]⟩)])
abbrev adl:List (Nat×VS):=[(2,aV),(3,cY),(4,dQ),(6,gU),(7,mF),(8,aa),(9,aa),(35,aa),(36,aa),(43,fU),(44,aa),(45,aa)]
def TN:Shape×List (Out×Shape):=(⟨adl,Nv⟩,[(.exit 2,⟨adl++[(46,aC)],Nv⟩)])
abbrev adm:List (Nat×VS):=[(2,aV),(3,cY),(4,dQ),(6,gU),(7,mF),(8,aa),(35,aa),(36,aa)]
def TO:Shape×List (Out×Shape):=(⟨adm,Nv⟩,[(.exit 0,⟨adm++[(37,aC)],Nv⟩)])
abbrev adn:List (Nat×VS):=[(2,aV),(3,cY),(4,dQ),(6,gU),(7,mF),(8,aa),(70,acA),(71,aa),(72,aa)]
def TP:Shape×List (Out×Shape):=(⟨adn,acP⟩,[(.exit 4,⟨adn++[(73,aC)],acP⟩)])
def TQ:Shape×List (Out×Shape):=(⟨[(3,aV),(4,cY),(6,dQ),(7,gU),(8,aa),(98,aC)],[Ab,sY,.var 66 [aa,aa,dq,dq,.one (.whole bu 8)],.var 66 [aa,aa,dq,dq,.one (.whole bu 9)],cj,cF,cj,cF,jR,jR]⟩,[(.norm,⟨[(4,aV),(6,cY),(7,dQ),(8,aa)],[CD,acJ,.var 66 [aa,aa,dq,dq,.one (.whole bu 6)],cj,cF,jR,jR]⟩)])
abbrev ado:List (Nat×VS):=[(1,aV),(2,cY),(3,dQ),(12,aa),(13,aa)]
def TR:Shape×List (Out×Shape):=(⟨ado,CH⟩,[(.exit 0,⟨ado++[(14,aC)],CH⟩)])
abbrev adp:List (Nat×VS):=[(1,aV),(2,cY),(3,fU),(4,dQ),(5,aa),(6,aa),(8,rB),(21,fU),(22,aa),(23,aa),(37,fU),(38,aa),(39,aa)]
def TS:Shape×List (Out×Shape):=(⟨adp,acQ⟩,[(.exit 2,⟨adp++[(40,aC)],acQ⟩)])
abbrev adq:List (Nat×VS):=[(1,aV),(2,cY),(3,fU),(4,dQ),(5,aa),(21,fU),(22,aa),(23,aa)]
def TT:Shape×List (Out×Shape):=(⟨adq,CH⟩,[(.exit 0,⟨adq++[(24,aC)],CH⟩)])
abbrev adr:List (Nat×VS):=[(1,oW),(2,aV),(5,.one (.whole Nc 1)),(26,acx),(27,aa),(28,aa)]
def anE:Shape×List (Out×Shape):=(⟨adr,[nn,.nest Nc,cj]⟩,[(.exit 0,⟨adr++[(29,aC)],[nn,.nest Nc,cj]⟩)])
def anF:Shape×List (Out×Shape):=(⟨[(1,aV),(3,ln),(4,aa),(5,dQ),(18,jQ),(19,aa),(20,aa),(28,aC)],Nw⟩,[(.norm,⟨ac4,Nw⟩)])
def anG:Shape×List (Out×Shape):=(⟨[(1,aV),(3,ln),(4,aa),(5,dQ),(18,jQ),(19,aa),(20,aa),(40,aC)],Nw⟩,[(.norm,⟨ac4,Nw⟩)])
abbrev ads:List (Nat×VS):=[(1,aV),(3,ln),(18,jQ),(19,aa),(20,aa)]
def anH:Shape×List (Out×Shape):=(⟨ads,[nn,dx]⟩,[(.exit 0,⟨ads++[(21,aC)],[nn,dx]⟩)])
abbrev adt:List (Nat×VS):=[(1,aa),(2,aV),(18,jQ),(19,aa),(20,aa)]
def TU:Shape×List (Out×Shape):=(⟨adt,[nn]⟩,[(.ret,⟨[(4,aa)],[]⟩),(.exit 0,⟨adt++[(21,aC)],[nn]⟩)])
def TV:Shape×List (Out×Shape):=(⟨[(0,aV),(3,mF),(8,sX),(10,oW),(11,aa),(45,aC)],[acI,.dead,.map dX,.map dY,pH,GN,jS,cj,cF]⟩,[(.norm,⟨[(0,aV),(3,mF),(11,aa)],[.var 59 [aa,.one (.whole dA 5),Nh,Ni],.dead,.map dX,.map dY,pH,jS]⟩)])
def TW:Shape×List (Out×Shape):=(⟨[(2,aa),(3,aV),(4,cY),(6,dQ),(9,GJ),(10,Nl),(11,sX),(12,aa),(13,GL),(14,Aa),(15,aa),(16,.one (.dk 8 0 0)),(17,aa),(91,aC)],[eE,eE,CE,sZ,.map jP,acK,CF,dx,CF,cj,cF,cj,cF]⟩,[(.ret,⟨Tj,Td⟩),(.norm,⟨[(2,aa),(3,aV),(4,cY),(6,dQ),(9,GJ),(10,Nl),(11,sX),(12,aa),(13,GL),(14,Aa),(15,aa),(17,aa)],Te⟩)])
abbrev adu:List (Nat×VS):=[(2,aa),(3,aV),(4,cY),(6,dQ),(9,GJ),(10,Nl),(11,sX),(12,aa),(13,GL),(14,Aa),(15,aa)]
def TX:Shape×List (Out×Shape):=(⟨adu,Te⟩,[(.ret,⟨Tj,Td⟩),(.exit 2,⟨adu++[(62,aC)],Te⟩)])
abbrev adv:List (Nat×VS):=[(2,aa),(3,aV),(4,cY),(6,dQ),(9,GJ),(10,Nl),(11,sX),(12,aa)]
def TY:Shape×List (Out×Shape):=(⟨adv,acR⟩,[(.ret,⟨Tj,Td⟩),(.exit 0,⟨adv++[(52,aC)],acR⟩)])
def TZ:Shape×List (Out×Shape):=(⟨[(1,aV),(2,cY),(3,dQ),(4,aa),(18,aa),(19,aa),(26,aC)],CI⟩,[(.norm,⟨[(1,aV),(2,cY),(3,dQ),(4,aa),(18,aa),(19,aa)],CI⟩)])
abbrev adw:List (Nat×VS):=[(1,aV),(2,cY),(3,dQ),(4,aa),(18,aa),(19,aa),(37,fU),(38,aa),(39,aa)]
def T4:Shape×List (Out×Shape):=(⟨adw,CI⟩,[(.exit 2,⟨adw++[(40,aC)],CI⟩)])
abbrev adx:List (Nat×VS):=[(1,aV),(2,cY),(3,dQ),(18,aa),(19,aa)]
def T6:Shape×List (Out×Shape):=(⟨adx,CI⟩,[(.exit 0,⟨adx++[(20,aC)],CI⟩)])
abbrev ady:List (Nat×VS):=[(1,aV),(3,ln),(14,aa),(15,aa)]
def T7:Shape×List (Out×Shape):=(⟨ady,Ac⟩,[(.exit 0,⟨ady++[(16,aC)],Ac⟩)])
abbrev adz:List (Nat×VS):=[(1,aV),(3,fU),(5,fU),(6,aa),(7,ln),(37,aa),(38,aa)]
def T8:Shape×List (Out×Shape):=(⟨adz,Ac⟩,[(.exit 6,⟨adz++[(39,aC)],Ac⟩)])
abbrev adA:List (Nat×VS):=[(1,aV),(3,fU),(5,fU),(6,aa)]
def T9:Shape×List (Out×Shape):=(⟨adA,oe⟩,[(.exit 4,⟨adA++[(33,aC)],oe⟩)])
def Ua:Shape×List (Out×Shape):=(⟨[(1,aV),(3,fU)],oe⟩,[(.ret,⟨[(2,fU)],[]⟩)])
abbrev adB:List (Nat×VS):=[(1,aV),(2,cY),(4,wa),(6,rB),(26,aa),(27,aa)]
def Ub:Shape×List (Out×Shape):=(⟨adB,Nx⟩,[(.exit 0,⟨adB++[(28,aC)],Nx⟩)])
abbrev adC:List (Nat×VS):=[(1,aV),(2,cY),(4,wa),(6,rB),(34,wa),(35,aa),(36,aa)]
def Uc:Shape×List (Out×Shape):=(⟨adC,Nx⟩,[(.exit 2,⟨adC++[(37,aC)],Nx⟩)])
abbrev adD:List (Nat×VS):=[(1,aV),(2,cY),(6,wa),(10,gU),(12,aa),(13,uw),(49,z7),(50,aa),(51,aa),(59,fU),(60,aa),(61,aa)]
def Ud:Shape×List (Out×Shape):=(⟨adD,acS⟩,[(.exit 6,⟨adD++[(62,aC)],acS⟩)])
abbrev adE:List (Nat×VS):=[(1,aV),(2,cY),(6,wa),(10,gU),(49,uw),(50,aa),(51,aa)]
def Ue:Shape×List (Out×Shape):=(⟨adE,acT⟩,[(.exit 4,⟨adE++[(52,aC)],acT⟩)])
abbrev adF:List (Nat×VS):=[(0,oW),(1,aa),(18,aa),(19,aa)]
def anI:Shape×List (Out×Shape):=(⟨adF,[]⟩,[(.ret,⟨GR,[]⟩),(.exit 0,⟨adF++[(20,aC)],[]⟩)])
def anJ:Shape×List (Out×Shape):=(⟨[(1,aV),(3,Nj),(4,aa),(5,dQ),(33,aC)],[nn,cj,pH]⟩,[(.norm,⟨[(1,aV),(3,Nj),(4,aa),(5,dQ)],[nn,cj,pH]⟩)])
abbrev adG:List (Nat×VS):=[(1,aV),(3,Nj),(4,aa)]
def anK:Shape×List (Out×Shape):=(⟨adG,[nn,cj]⟩,[(.exit 0,⟨adG++[(17,aC)],[nn,cj]⟩)])
abbrev adH:List (Nat×VS):=[(1,xH),(2,oW),(3,aV),(7,z0),(8,aa),(9,aa),(15,aa),(16,aa)]
def anL:Shape×List (Out×Shape):=(⟨adH,rC⟩,[(.exit 3,⟨adH++[(117,aC)],rC⟩)])
def anM:Shape×List (Out×Shape):=(⟨[(1,xH),(2,oW),(3,aV),(7,z0),(8,aa),(15,aa),(16,aa),(20,aa),(67,aC)],rC⟩,[(.norm,⟨GS,rC⟩)])
def anN:Shape×List (Out×Shape):=(⟨[(1,xH),(2,oW),(3,aV),(7,z0),(8,aa),(15,aa),(16,aa),(20,aa),(58,aC)],rC⟩,[(.norm,⟨GS,rC⟩)])
def anO:Shape×List (Out×Shape):=(⟨[(1,xH),(2,oW),(3,aV),(7,z0),(8,aa),(15,aa),(16,aa),(20,aa),(32,aC)],rC⟩,[(.norm,⟨GS,rC⟩)])
def anP:Shape×List (Out×Shape):=(⟨[(1,xH),(2,oW),(3,aV),(7,z0),(8,aa),(15,aa),(16,aa),(20,aa),(21,aC)],rC⟩,[(.norm,⟨GS,rC⟩)])
def anQ:Shape×List (Out×Shape):=(⟨GS,rC⟩,[(.exit 0,⟨[(1,xH),(2,oW),(3,aV),(7,z0),(15,aa),(16,aa),(17,aC)],rC⟩)])
def Uf:Shape×List (Out×Shape):=(⟨[(1,aa),(2,aa),(3,aV),(17,aC)],[pH]⟩,[(.ret,⟨[(6,aC)],[]⟩),(.norm,⟨[(1,aa),(3,aV)],[pH]⟩)])
def Ug:Shape×List (Out×Shape):=(⟨[(1,aV),(3,z8),(5,fU),(12,pF),(13,aa),(14,aa),(23,aC)],CJ⟩,[(.norm,⟨[(1,aV),(3,z8),(5,fU),(12,pF),(13,aa),(14,aa)],CJ⟩)])
abbrev adI:List (Nat×VS):=[(1,aV),(3,z8),(12,pF),(13,aa),(14,aa),(27,fU),(28,aa),(29,aa)]
def Uh:Shape×List (Out×Shape):=(⟨adI,CJ⟩,[(.exit 2,⟨adI++[(30,aC)],CJ⟩)])
abbrev adJ:List (Nat×VS):=[(1,aV),(3,z8),(12,pF),(13,aa),(14,aa)]
def Ui:Shape×List (Out×Shape):=(⟨adJ,CJ⟩,[(.exit 0,⟨adJ++[(15,aC)],CJ⟩)])
def Uj:Shape×List (Out×Shape):=(⟨[(0,aa),(2,aC),(7,aa),(8,aC)],[]⟩,[(.norm,⟨[(0,aa),(2,aC),(7,aa)],[]⟩)])
abbrev adK:List (Nat×VS):=[(3,cP),(5,cY),(6,aa),(7,od),(8,aa),(9,aa)]
def Uk:Shape×List (Out×Shape):=(⟨adK,[jR,.var 69 [aa,aa,aa]]⟩,[(.exit 2,⟨adK++[(25,aC)],[jR,.var 69 [aa,aa,aa]]⟩)])
abbrev adL:List (Nat×VS):=[(3,cP),(7,od),(8,aa),(9,aa)]
def Ul:Shape×List (Out×Shape):=(⟨adL,cq⟩,[(.exit 0,⟨adL++[(10,aC)],cq⟩)])
def Um:Shape×List (Out×Shape):=(⟨[(1,aV),(2,cY),(6,z9),(7,GK),(8,mF),(9,aa),(10,z7),(11,aa),(12,dq),(13,aa),(57,aC)],Ny⟩,[(.ret,⟨Tk,Tf⟩),(.norm,⟨[(1,aV),(2,cY),(6,z9),(7,GK),(8,mF),(9,aa),(10,z7),(11,aa),(13,aa)],Ny⟩)])
abbrev adM:List (Nat×VS):=[(1,aV),(2,cY),(6,z9),(7,GK),(8,mF),(9,aa),(10,z7),(11,aa)]
def Un:Shape×List (Out×Shape):=(⟨adM,Ny⟩,[(.ret,⟨Tk,Tf⟩),(.exit 2,⟨adM++[(40,aC)],Ny⟩)])
abbrev adN:List (Nat×VS):=[(1,aV),(2,cY),(6,z9),(7,GK),(8,mF),(9,aa)]
def Uo:Shape×List (Out×Shape):=(⟨adN,acU⟩,[(.ret,⟨Tk,Tf⟩),(.exit 0,⟨adN++[(34,aC)],acU⟩)])
abbrev adO:List (Nat×VS):=[(3,.one (.cD iP 0)),(4,ln),(13,fU),(14,aa),(15,aa)]
def Up:Shape×List (Out×Shape):=(⟨adO,[.map iP,dx]⟩,[(.exit 0,⟨adO++[(16,aC)],[.map iP,dx]⟩)])
abbrev adP:List (Nat×VS):=[(0,fU),(1,fU),(5,xG),(11,aa),(12,aa)]
def Uq:Shape×List (Out×Shape):=(⟨adP,pI⟩,[(.exit 0,⟨adP++[(13,aC)],pI⟩)])
abbrev adQ:List (Nat×VS):=[(0,fU),(1,fU),(12,aa),(13,aa)]
def Ur:Shape×List (Out×Shape):=(⟨adQ,[]⟩,[(.ret,⟨GR,[]⟩),(.exit 0,⟨adQ++[(14,aC)],[]⟩)])
abbrev adR:List (Nat×VS):=[(1,aV),(4,ln),(5,acC),(6,S4),(7,aa),(8,aa)]
def Us:Shape×List (Out×Shape):=(⟨adR,Nz⟩,[(.exit 2,⟨adR++[(31,aC)],Nz⟩)])
abbrev adS:List (Nat×VS):=[(1,aV),(4,ln),(5,acC),(6,S4),(7,aa)]
def Ut:Shape×List (Out×Shape):=(⟨adS,Nz⟩,[(.exit 0,⟨adS++[(25,aC)],Nz⟩)])
abbrev adT:List (Nat×VS):=[(1,aa),(4,aV),(5,cY),(6,aa)]
def anR:Shape×List (Out×Shape):=(⟨adT,[Nr,Nr]⟩,[(.exit 0,⟨adT++[(10,aC)],[Nr,Nr]⟩)])
def Uu:Shape×List (Out×Shape):=(⟨[(4,aV),(7,cY),(9,dQ),(10,aa),(66,aC)],acV⟩,[(.norm,⟨[(4,aV),(7,cY),(9,dQ),(10,aa)],acV⟩)])
abbrev adU:List (Nat×VS):=[(1,aV),(2,cY),(3,dQ),(16,zZ),(17,aa),(18,aa)]
def Uv:Shape×List (Out×Shape):=(⟨adU,CH⟩,[(.exit 0,⟨adU++[(19,aC)],CH⟩)])
def Uw:Shape×List (Out×Shape):=(⟨ac5,oe⟩,[(.ret,⟨Ad,[]⟩),(.exit 2,⟨ac6,oe⟩)])
def Ux:Shape×List (Out×Shape):=(⟨[(1,aV),(3,aa),(38,pF),(39,aa),(40,aa)],oe⟩,[(.ret,⟨Ad,[]⟩),(.exit 0,⟨ac7,oe⟩)])
abbrev adV:List (Nat×VS):=[(1,aV),(38,od),(39,aa),(40,aa)]
def Uy:Shape×List (Out×Shape):=(⟨adV,[oX]⟩,[(.ret,⟨Ad,[]⟩),(.exit 0,⟨adV++[(41,aC)],[oX]⟩)])
abbrev adW:List (Nat×VS):=[(1,dq),(2,aa),(7,dq),(11,od),(12,aa),(13,aa)]
def Uz:Shape×List (Out×Shape):=(⟨adW,[]⟩,[(.exit 0,⟨adW++[(14,aC)],[]⟩)])
abbrev adX:List (Nat×VS):=[(1,aa),(5,xG),(13,aa),(14,aa)]
def UA:Shape×List (Out×Shape):=(⟨adX,pI⟩,[(.exit 0,⟨adX++[(15,aC)],pI⟩)])
abbrev adY:List (Nat×VS):=[(0,aV),(2,aa),(6,aa),(11,pF),(12,aa),(13,aa),(18,fU),(19,aa),(20,aa)]
def UB:Shape×List (Out×Shape):=(⟨adY,rD⟩,[(.exit 2,⟨adY++[(21,aC)],rD⟩)])
abbrev adZ:List (Nat×VS):=[(0,aV),(2,aa),(11,pF),(12,aa),(13,aa)]
def UC:Shape×List (Out×Shape):=(⟨adZ,rD⟩,[(.exit 0,⟨adZ++[(14,aC)],rD⟩)])
abbrev ad0:List (Nat×VS):=[(0,aV),(1,zZ),(2,aa),(13,acw),(14,aa),(15,aa)]
def UD:Shape×List (Out×Shape):=(⟨ad0,[.var 134 [aa,aa,dq,dq,S6],.dead,jR,jR]⟩,[(.exit 0,⟨ad0++[(16,aC)],[.var 134 [aa,aa,dq,dq,S6],.dead,jR,jR]⟩)])
abbrev ad1:List (Nat×VS):=[(0,aV),(2,aa),(8,zZ),(9,aa),(10,aa)]
def UE:Shape×List (Out×Shape):=(⟨ad1,rD⟩,[(.exit 0,⟨ad1++[(11,aC)],rD⟩)])
def UF:Shape×List (Out×Shape):=(⟨ac5,oe⟩,[(.ret,⟨Ad,[]⟩),(.exit 2,⟨ac6,oe⟩)])
def UG:Shape×List (Out×Shape):=(⟨[(1,aV),(3,aa),(38,pF),(39,aa),(40,aa)],oe⟩,[(.ret,⟨Ad,[]⟩),(.exit 0,⟨ac7,oe⟩)])
abbrev ad2:List (Nat×VS):=[(1,aV),(2,cY),(4,dQ),(5,rB),(6,uw),(7,sX),(8,aa),(10,S7),(28,uw),(29,aa),(30,aa),(47,fU),(48,aa),(49,aa)]
def UH:Shape×List (Out×Shape):=(⟨ad2,acW⟩,[(.exit 2,⟨ad2++[(50,aC)],acW⟩)])
abbrev ad3:List (Nat×VS):=[(1,aV),(2,cY),(4,dQ),(5,rB),(6,uw),(7,sX),(28,uw),(29,aa),(30,aa)]
def UI:Shape×List (Out×Shape):=(⟨ad3,acX⟩,[(.exit 0,⟨ad3++[(31,aC)],acX⟩)])
abbrev ad4:List (Nat×VS):=[(2,aV),(6,ln),(13,dQ),(14,rB),(15,uw),(87,z7),(88,aa),(89,aa)]
def UJ:Shape×List (Out×Shape):=(⟨ad4,acY⟩,[(.exit 4,⟨ad4++[(90,aC)],acY⟩)])
def UK:Shape×List (Out×Shape):=(⟨[(0,aa),(2,.fn vY [] [.dk 0 0 0,.dk 1 0 0]),(3,.fn vZ [] [.dk 0 0 0,.dk 1 0 0,.dk 2 0 0]),(8,gU),(11,mF),(12,sX),(13,aa),(14,GL),(15,Aa),(36,aa),(37,aa)],acZ⟩,[(.exit 2,⟨[(0,aa),(2,.fn vY [] [.dk 0 0 0,.dk 1 0 0]),(3,.fn vZ [] [.dk 0 0 0,.dk 1 0 0,.dk 2 0 0]),(8,gU),(11,mF),(12,sX),(13,aa),(14,GL),(15,Aa),(36,aa),(37,aa),(38,aC)],acZ⟩)])
def UL:Shape×List (Out×Shape):=(⟨[(0,aa),(2,.fn vY [] [.dk 0 0 0,.dk 1 0 0]),(3,.fn vZ [] [.dk 0 0 0,.dk 1 0 0,.dk 2 0 0]),(8,gU),(11,mF),(12,sX),(13,aa)],ac0⟩,[(.ret,⟨[(8,gU),(9,.one (.whole jz 6)),(10,aa)],[eE,eE,xI,Ab,cj,cF,sZ]⟩),(.exit 0,⟨[(0,aa),(2,.fn vY [] [.dk 0 0 0,.dk 1 0 0]),(3,.fn vZ [] [.dk 0 0 0,.dk 1 0 0,.dk 2 0 0]),(8,gU),(11,mF),(12,sX),(13,aa),(25,aC)],ac0⟩)])
def UM:Shape×List (Out×Shape):=(⟨[(2,cY),(3,dQ),(4,gU),(6,aa),(12,aC)],[eE,eE,xI,CF]⟩,[(.norm,⟨[(2,cY),(3,dQ),(4,gU),(6,aa)],[eE,eE,xI,CF]⟩)])
abbrev ad5:List (Nat×VS):=[(3,aa),(6,fU),(7,aa),(8,aa)]
def UN:Shape×List (Out×Shape):=(⟨ad5,[]⟩,[(.ret,⟨Ad,[]⟩),(.exit 0,⟨ad5++[(9,aC)],[]⟩)])
abbrev ad6:List (Nat×VS):=[(0,cP),(3,aa),(4,.one (.sub bu 0)),(5,aa)]
def UO:Shape×List (Out×Shape):=(⟨ad6,cq⟩,[(.exit 2,⟨ad6++[(32,aC)],cq⟩)])
def UP:Shape×List (Out×Shape):=(⟨[(0,cP),(3,aa)],cq⟩,[(.ret,⟨[(2,S5)],[.dead,jR]⟩),(.exit 0,⟨[(0,cP),(3,aa),(13,aC)],cq⟩)])
abbrev ad7:List (Nat×VS):=[(2,aV),(4,cY),(5,wa),(7,rB),(31,aa),(32,aa)]
def UQ:Shape×List (Out×Shape):=(⟨ad7,NA⟩,[(.exit 0,⟨ad7++[(33,aC)],NA⟩)])
abbrev ad8:List (Nat×VS):=[(2,aV),(4,cY),(7,wa),(39,rB),(40,aa),(41,aa)]
def UR:Shape×List (Out×Shape):=(⟨ad8,NA⟩,[(.exit 2,⟨ad8++[(42,aC)],NA⟩)])
abbrev ad9:List (Nat×VS):=[(1,aV),(3,ln),(4,aa),(24,zZ),(25,aa),(26,aa)]
def US:Shape×List (Out×Shape):=(⟨ad9,Ac⟩,[(.exit 0,⟨ad9++[(27,aC)],Ac⟩)])
abbrev aea:List (Nat×VS):=[(1,aV),(3,ln),(4,aa),(7,acD),(8,rB),(9,aa),(11,mF),(46,pF),(47,aa),(48,aa),(58,fU),(59,aa),(60,aa)]
def UT:Shape×List (Out×Shape):=(⟨aea,[eE,dx,.map GH,dx,.var 155 [aa,aa,aa,aa,aa,aa,aa]]⟩,[(.exit 6,⟨aea++[(61,aC)],[eE,dx,.map GH,dx,.var 155 [aa,aa,aa,aa,aa,aa,aa]]⟩)])
abbrev aeb:List (Nat×VS):=[(1,aV),(3,ln),(4,aa),(7,acD),(8,rB),(46,pF),(47,aa),(48,aa)]
def UU:Shape×List (Out×Shape):=(⟨aeb,[eE,dx,.map GH,dx]⟩,[(.exit 4,⟨aeb++[(49,aC)],[eE,dx,.map GH,dx]⟩)])
def UW:Shape×List (Out×Shape):=(⟨[(1,aV),(3,ln),(4,aa)],Ac⟩,[(.ret,⟨[(2,xG)],pI⟩)])
def UX:Shape×List (Out×Shape):=(⟨[(0,cP),(1,aa),(2,aa),(3,aa),(4,.fn cR [] []),(10,aC),(11,aC),(12,aa),(39,aC)],cq⟩,[(.norm,⟨[(0,cP),(1,aa),(2,aa),(3,aa),(4,.fn cR [] []),(10,aC),(11,aC),(12,aa)],cq⟩)])
def UY:Shape×List (Out×Shape):=(⟨[(0,cP),(1,aa),(2,aa),(3,aa),(4,.fn cR [] []),(10,aC),(11,aC),(12,aa),(13,aa),(14,aa),(56,aC)],cq⟩,[(.norm,⟨[(0,cP),(1,aa),(2,aa),(3,aa),(4,.fn cR [] []),(10,aC),(11,aC),(12,aa),(13,aa),(14,aa)],cq⟩)])
def UZ:Shape×List (Out×Shape):=(⟨[(0,cP),(1,aa),(2,aa),(3,aa),(4,.fn cR [] []),(10,aC),(11,aC),(12,aa),(13,aa),(75,aC)],cq⟩,[(.ret,⟨[(0,cP),(1,aa),(2,aa),(3,aa),(4,.fn cR [] []),(10,aC),(11,aC),(12,aa),(13,aa),(80,aC)],cq⟩),(.norm,⟨[(0,cP),(1,aa),(2,aa),(3,aa),(4,.fn cR [] []),(10,aC),(11,aC),(12,aa),(13,aa)],cq⟩)])
def U0:Shape×List (Out×Shape):=(⟨[(0,cP),(1,aa),(2,aa),(3,aa),(4,.fn cR [] []),(10,aC),(11,aC)],cq⟩,[(.ret,⟨[],cq⟩)])
abbrev aec:List (Nat×VS):=[(0,Nm),(1,dq),(4,aa)]
def U3:Shape×List (Out×Shape):=(⟨aec,uy⟩,[(.exit 0,⟨aec++[(20,aC)],uy⟩)])
def U4:Shape×List (Out×Shape):=(⟨[(0,Nm),(4,aa),(12,.one (.int .u32)),(99,aC)],uy⟩,[(.norm,⟨[(0,Nm),(4,aa),(12,.one (.int .u32))],uy⟩)])
def U5:Shape×List (Out×Shape):=(⟨[(0,aa),(2,.fn v7 [] [.dk 0 0 0]),(3,.fn v8 [] [.dk 0 0 0]),(8,cY),(11,dQ),(12,gU),(13,aa),(14,aa),(15,uw),(36,aa),(37,aa)],[eE,xJ,.var 174 [Aa,.one (.cD iP 8)],CE,dx,cj,cF,dx,.map iP,cj,cF]⟩,[(.exit 2,⟨[(0,aa),(2,.fn v7 [] [.dk 0 0 0]),(3,.fn v8 [] [.dk 0 0 0]),(8,cY),(11,dQ),(12,gU),(13,aa),(14,aa),(15,uw),(36,aa),(37,aa),(38,aC)],[eE,xJ,.var 174 [Aa,.one (.cD iP 8)],CE,dx,cj,cF,dx,.map iP,cj,cF]⟩)])
def U6:Shape×List (Out×Shape):=(⟨[(0,aa),(2,.fn v7 [] [.dk 0 0 0]),(3,.fn v8 [] [.dk 0 0 0]),(8,cY),(11,dQ),(12,gU),(13,aa)],[eE,Ab,.var 174 [S7,.one (.cD iP 7)],ux,cj,cF,dx,.map iP,cj,cF]⟩,[(.ret,⟨[(8,cY),(9,uw),(10,aa)],[eE,Ta,cj,cF,dx]⟩),(.exit 0,⟨[(0,aa),(2,.fn v7 [] [.dk 0 0 0]),(3,.fn v8 [] [.dk 0 0 0]),(8,cY),(11,dQ),(12,gU),(13,aa),(25,aC)],[eE,Ab,.var 174 [S7,.one (.cD iP 7)],ux,cj,cF,dx,.map iP,cj,cF]⟩)])
def U7:Shape×List (Out×Shape):=(⟨[(0,cP),(1,aa),(2,aa),(3,.fn cR [] []),(8,aa),(9,aa)],cq⟩,[(.exit 2,⟨[(0,cP),(1,aa),(2,aa),(3,.fn cR [] []),(8,aa),(9,aa),(34,aC)],cq⟩)])
def U8:Shape×List (Out×Shape):=(⟨[(0,cP),(1,aa),(2,aa),(3,.fn cR [] []),(8,aa)],cq⟩,[(.exit 0,⟨[(0,cP),(1,aa),(2,aa),(3,.fn cR [] []),(8,aa),(14,aC)],cq⟩)])
def U9:Shape×List (Out×Shape):=(⟨[(0,cP),(3,.fn cR [] []),(8,aa),(9,aa),(10,aa),(11,aa)],cq⟩,[(.exit 0,⟨[(0,cP),(3,.fn cR [] []),(8,aa),(9,aa),(10,aa),(11,aa),(21,aC)],cq⟩)])
def Va:Shape×List (Out×Shape):=(⟨[(0,cP),(3,.fn cR [] []),(8,aa),(9,aa),(12,aa)],cq⟩,[(.exit 2,⟨[(0,cP),(3,.fn cR [] []),(8,aa),(9,aa),(12,aa),(33,aC)],cq⟩)])
def Vb:Shape×List (Out×Shape):=(⟨[(0,cP),(1,aa),(8,aa),(9,cY),(10,dq),(11,aa),(12,aa),(45,aC)],NB⟩,[(.norm,⟨[(0,cP),(1,aa),(8,aa),(9,cY),(10,dq),(11,aa),(12,aa)],NB⟩)])
abbrev aed:List (Nat×VS):=[(0,cP),(1,aa),(8,aa),(9,cY),(10,dq),(11,aa)]
def Vc:Shape×List (Out×Shape):=(⟨aed,NB⟩,[(.exit 0,⟨aed++[(35,aC)],NB⟩)])
def Vd:Shape×List (Out×Shape):=(⟨[(0,od),(3,.fn cR [] []),(11,aV),(12,aa),(13,aa),(14,aa),(36,aC)],uz⟩,[(.norm,⟨[(0,od),(3,.fn cR [] []),(11,aV),(12,aa),(13,aa),(14,aa)],uz⟩)])
def Ve:Shape×List (Out×Shape):=(⟨[(0,od),(3,.fn cR [] []),(10,aa),(11,aV),(12,aa),(13,aa),(14,aa),(34,aC)],uz⟩,[(.norm,⟨[(11,aV),(13,aa)],uz⟩)])
abbrev aee:List (Nat×VS):=[(0,cP),(8,aa),(9,aa)]
def Vf:Shape×List (Out×Shape):=(⟨aee,cq⟩,[(.exit 0,⟨aee++[(15,aC)],cq⟩)])
def Vg:Shape×List (Out×Shape):=(⟨[(0,cP),(1,aa),(2,aa),(3,.fn cR [] []),(9,aa),(10,aa)],cq⟩,[(.exit 2,⟨[(0,cP),(1,aa),(2,aa),(3,.fn cR [] []),(9,aa),(10,aa),(36,aC)],cq⟩)])
def Vh:Shape×List (Out×Shape):=(⟨[(0,cP),(1,aa),(2,aa),(3,.fn cR [] []),(9,aa),(10,aa),(11,aa)],cq⟩,[(.exit 4,⟨[(0,cP),(1,aa),(2,aa),(3,.fn cR [] []),(9,aa),(10,aa),(11,aa)],cq⟩)])
def Vi:Shape×List (Out×Shape):=(⟨[(0,cP),(1,aa),(2,aa),(3,.fn cR [] []),(9,aa),(10,aa),(65,aC)],cq⟩,[(.norm,⟨[(0,cP),(1,aa),(2,aa),(3,.fn cR [] []),(9,aa),(10,aa)],cq⟩)])
def Vj:Shape×List (Out×Shape):=(⟨[(0,cP),(1,aa),(2,aa),(3,.fn cR [] []),(9,aa),(10,aa),(12,aa)],cq⟩,[(.exit 6,⟨[(0,cP),(1,aa),(2,aa),(3,.fn cR [] []),(9,aa),(10,aa),(12,aa)],cq⟩)])
def Vk:Shape×List (Out×Shape):=(⟨[(0,cP),(1,aa),(2,aa),(3,.fn cR [] []),(9,aa),(10,aa)],cq⟩,[(.ret,⟨[(8,aC)],cq⟩),(.exit 0,⟨[(0,cP),(1,aa),(2,aa),(3,.fn cR [] []),(9,aa),(10,aa),(16,aC)],cq⟩)])
def Vl:Shape×List (Out×Shape):=(⟨[(0,cP),(1,aa),(4,.fn cR [] []),(11,aa),(12,aa)],cq⟩,[(.exit 2,⟨[(0,cP),(1,aa),(4,.fn cR [] []),(11,aa),(12,aa),(47,aC)],cq⟩)])
def Vm:Shape×List (Out×Shape):=(⟨[(0,cP),(1,aa),(4,.fn cR [] []),(11,aa),(12,aa)],cq⟩,[(.exit 4,⟨[(0,cP),(1,aa),(4,.fn cR [] []),(11,aa),(12,aa),(65,aC)],cq⟩)])
def Vn:Shape×List (Out×Shape):=(⟨[(0,cP),(1,aa),(4,.fn cR [] []),(11,aa),(12,aa)],cq⟩,[(.exit 0,⟨[(0,cP),(1,aa),(4,.fn cR [] []),(11,aa),(12,aa),(70,aC)],cq⟩)])
def Vo:Shape×List (Out×Shape):=(⟨[(0,cP),(1,aa),(4,.fn cR [] []),(12,aa),(13,aa)],cq⟩,[(.exit 0,⟨[(0,cP),(1,aa),(4,.fn cR [] []),(12,aa),(13,aa),(47,aC)],cq⟩)])
def Vp:Shape×List (Out×Shape):=(⟨[(0,cP),(1,aa),(4,.fn cR [] []),(12,aa),(13,aa)],cq⟩,[(.exit 2,⟨[(0,cP),(1,aa),(4,.fn cR [] []),(12,aa),(13,aa),(66,aC)],cq⟩)])
def Vq:Shape×List (Out×Shape):=(⟨[(0,cP),(1,aa),(4,.fn cR [] []),(12,aa),(13,aa)],cq⟩,[(.exit 6,⟨[(0,cP),(1,aa),(4,.fn cR [] []),(12,aa),(13,aa),(120,aC)],cq⟩)])
def Vr:Shape×List (Out×Shape):=(⟨[(0,cP),(1,aa),(4,.fn cR [] []),(12,aa),(13,aa)],cq⟩,[(.exit 8,⟨[(0,cP),(1,aa),(4,.fn cR [] []),(12,aa),(13,aa),(139,aC)],cq⟩)])
def Vs:Shape×List (Out×Shape):=(⟨[(0,cP),(1,aa),(4,.fn cR [] []),(12,aa),(13,aa)],cq⟩,[(.exit 4,⟨[(0,cP),(1,aa),(4,.fn cR [] []),(12,aa),(13,aa),(144,aC)],cq⟩)])
def Vt:Shape×List (Out×Shape):=(⟨[(0,dq),(2,aa),(4,aC)],[]⟩,[(.norm,⟨[(0,dq),(2,aa)],[]⟩)])
def Vu:Shape×List (Out×Shape):=(⟨[(0,dq),(2,aa),(8,aC)],[]⟩,[(.norm,⟨[(0,dq),(2,aa)],[]⟩)])
abbrev aef:List (Nat×VS):=[(1,aV),(34,od),(35,aa),(36,aa)]
def Vv:Shape×List (Out×Shape):=(⟨aef,[oX]⟩,[(.ret,⟨Ad,[]⟩),(.exit 0,⟨aef++[(37,aC)],[oX]⟩)])
def Vw:Shape×List (Out×Shape):=(⟨[(0,aa),(2,.fn uv [] [.dk 0 0 0]),(3,.fn v9 [] [.dk 1 0 0]),(8,dQ),(11,gU),(12,mF),(13,aa),(14,dq),(15,z7),(36,aa),(37,aa)],ac1⟩,[(.exit 2,⟨[(0,aa),(2,.fn uv [] [.dk 0 0 0]),(3,.fn v9 [] [.dk 1 0 0]),(8,dQ),(11,gU),(12,mF),(13,aa),(14,dq),(15,z7),(36,aa),(37,aa),(38,aC)],ac1⟩)])
def Vx:Shape×List (Out×Shape):=(⟨[(0,aa),(2,.fn uv [] [.dk 0 0 0]),(3,.fn v9 [] [.dk 1 0 0]),(8,dQ),(11,gU),(12,mF),(13,aa)],ac2⟩,[(.ret,⟨[(8,dQ),(9,.one (.whole dp 5)),(10,aa)],[xL,oX,CD,cj,cF,qx]⟩),(.exit 0,⟨[(0,aa),(2,.fn uv [] [.dk 0 0 0]),(3,.fn v9 [] [.dk 1 0 0]),(8,dQ),(11,gU),(12,mF),(13,aa),(25,aC)],ac2⟩)])
abbrev aeg:List (Nat×VS):=[(1,aV),(3,cY),(11,aa),(12,aa)]
def Vy:Shape×List (Out×Shape):=(⟨aeg,[oX,.var 183 [.one (.whole gx 2)],Ns]⟩,[(.exit 0,⟨aeg++[(13,aC)],[oX,.var 183 [.one (.whole gx 2)],Ns]⟩)])
abbrev aeh:List (Nat×VS):=[(3,aV),(23,od),(24,aa),(25,aa)]
def Vz:Shape×List (Out×Shape):=(⟨aeh,[.var 183 [.one (.whole gx 1)],Ns]⟩,[(.exit 2,⟨aeh++[(26,aC)],[.var 183 [.one (.whole gx 1)],Ns]⟩)])
def VA:Shape×List (Out×Shape):=(⟨[(0,cP),(2,aa),(3,aa),(4,.fn cR [] []),(10,aa),(11,aa),(40,aC)],cq⟩,[(.norm,⟨[(0,cP),(2,aa),(3,aa),(4,.fn cR [] []),(10,aa),(11,aa)],cq⟩)])
def VB:Shape×List (Out×Shape):=(⟨[(0,cP),(2,aa),(3,aa),(4,.fn cR [] []),(10,aa)],cq⟩,[(.exit 0,⟨[(0,cP),(2,aa),(3,aa),(4,.fn cR [] []),(10,aa),(11,aa),(18,aC)],cq⟩),(.ret,⟨[(0,cP),(2,aa),(3,aa),(4,.fn cR [] []),(10,aa),(11,aa),(58,aC)],cq⟩)])
abbrev aei:List (Nat×VS):=[(0,GI),(5,dq),(16,xG),(17,aa),(18,aa)]
def VC:Shape×List (Out×Shape):=(⟨aei,pI⟩,[(.exit 0,⟨aei++[(19,aC)],pI⟩)])
abbrev aej:List (Nat×VS):=[(0,GI),(8,GI),(9,aa),(10,aa)]
def VD:Shape×List (Out×Shape):=(⟨aej,[]⟩,[(.ret,⟨[(2,aC)],[]⟩),(.exit 0,⟨aej++[(11,aC)],[]⟩)])
def VE:Shape×List (Out×Shape):=(⟨[(0,dq),(3,xG)],pI⟩,[(.exit 0,⟨[(0,dq),(3,xG),(5,aC)],pI⟩)])
def anS:List (Nat×FuncId):=[(3,SD),
 (4,Mu),
 (5,vV),
 (6,Mv),
 (7,FZ),
 (8,F0),
 (9,Mw),
 (10,F3),
 (11,F4),
 (12,Mx),
 (13,F5),
 (14,Cu),
 (15,F6),
 (16,My),
 (17,pE),
 (18,amI),
 (19,amJ),
 (20,amK),
 (21,Mz),
 (22,zV),
 (23,F7),
 (24,zW),
 (25,F8),
 (26,Cv),
 (27,xE),
 (28,MA),
 (29,MB),
 (30,MC),
 (31,amL),
 (32,amM),
 (33,amN),
 (34,amO),
 (35,MD),
 (36,ME),
 (37,MF),
 (38,zX),
 (39,MG),
 (40,MH),
 (41,F9),
 (42,Ga),
 (43,MI),
 (44,MJ),
 (45,MK),
 (46,amP),
 (47,amQ),
 (48,amR),
 (49,amS),
 (50,amT),
 (51,Gb),
 (52,Gc),
 (53,ML),
 (54,MM),
 (55,Cw),
 (56,Ge),
 (57,MN),
 (58,Gf),
 (59,Gg),
 (60,Gh),
 (61,MO),
 (62,xF),
 (63,vW),
 (64,vX),
 (65,Gi),
 (66,Gj),
 (67,Gk),
 (68,Gl),
 (69,MP),
 (70,Gm),
 (71,Gn),
 (72,Gp),
 (73,rA),
 (75,Gq),
 (76,MQ),
 (77,MR),
 (78,MS),
 (79,Gr),
 (80,vY),
 (81,vZ),
 (82,Gs),
 (84,MT),
 (85,Gt),
 (86,cR),
 (87,Gu),
 (88,v5),
 (89,MU),
 (90,Gv),
 (91,Gw),
 (92,Cx),
 (93,MV),
 (94,Gx),
 (95,SF),
 (96,Gy),
 (97,Gz),
 (98,GA),
 (99,MW),
 (100,MX),
 (101,MY),
 (103,MZ),
 (104,v7),
 (105,v8),
 (106,SG),
 (107,SH),
 (108,SI),
 (109,SJ),
 (110,SK),
 (111,SM),
 (112,SN),
 (113,SO),
 (115,GB),
 (116,M0),
 (117,zY),
 (118,M1),
 (119,v9),
 (120,M3),
 (121,SP),
 (124,GC),
 (125,SQ),
 (126,M4),
 (127,M5),
 (128,SR),
 (129,SS),
 (130,M6),
 (131,M7),
 (132,GD),
 (133,uv),
 (134,M8),
 (136,M9),
 (137,SU),
 (138,Na),
 (139,Nb),
 (140,GF),
 (164,GC),
 (165,Gx),
 (166,Gf),
 (167,GD)]
def anT:List (Nat×Shape):=[(3,⟨GU,[]⟩),
 (4,⟨GU,[]⟩),
 (5,⟨CK,[xK]⟩),
 (6,⟨[(0,aV),(1,aa),(2,aa)],[xK]⟩),
 (7,⟨NF,[]⟩),
 (8,⟨[],[]⟩),
 (9,⟨NF,[]⟩),
 (10,⟨GV,[]⟩),
 (11,⟨Ae,[]⟩),
 (12,⟨NF,[]⟩),
 (13,⟨[(0,aa),(1,aC)],[]⟩),
 (14,⟨NG,[]⟩),
 (15,⟨GV,[]⟩),
 (16,⟨pJ,[]⟩),
 (17,⟨pJ,[]⟩),
 (18,⟨[],[]⟩),
 (19,⟨[(0,No),(1,oW)],[]⟩),
 (20,⟨[(0,No)],[]⟩),
 (21,⟨NF,[]⟩),
 (22,⟨eR,[]⟩),
 (23,⟨[(0,aV),(1,Np)],GQ⟩),
 (24,⟨eR,[]⟩),
 (25,⟨NG,[]⟩),
 (26,⟨pJ,[]⟩),
 (27,⟨eR,[]⟩),
 (28,⟨Af,[]⟩),
 (29,⟨pJ,[]⟩),
 (30,⟨pJ,[]⟩),
 (31,⟨[(0,oW),(1,aa)],[]⟩),
 (32,⟨[(0,No)],[]⟩),
 (33,⟨[(0,Np),(1,xH),(2,oW)],[]⟩),
 (34,⟨[(0,GM),(1,aa)],[]⟩),
 (35,⟨[(0,Np),(1,aa),(2,aa)],[]⟩),
 (36,⟨[(0,aV),(1,Np)],GQ⟩),
 (37,⟨pJ,[]⟩),
 (38,⟨GV,[]⟩),
 (39,⟨[(0,aa),(1,aC),(2,aC)],[]⟩),
 (40,⟨[(0,od)],[]⟩),
 (41,⟨Af,[]⟩),
 (42,⟨GU,[]⟩),
 (43,⟨[(0,fU),(1,fU)],[]⟩),
 (44,⟨[(0,fU),(1,fU)],[]⟩),
 (45,⟨pJ,[]⟩),
 (46,⟨[(0,GM),(1,aa)],[]⟩),
 (47,⟨Ae,[]⟩),
 (48,⟨Tl,[]⟩),
 (49,⟨Tl,[]⟩),
 (50,⟨Tl,[]⟩),
 (51,⟨[(0,aa),(1,aa),(2,aC)],[]⟩),
 (52,⟨[(0,aV),(1,aC)],GQ⟩),
 (53,⟨[(0,aV)],GQ⟩),
 (54,⟨CK,GQ⟩),
 (55,⟨NG,[]⟩),
 (56,⟨GV,[]⟩),
 (57,⟨pJ,[]⟩),
 (58,⟨[(0,.one (.nilS fG)),(1,aa),(2,aa)],[]⟩),
 (59,⟨pJ,[]⟩),
 (60,⟨Tm,[]⟩),
 (61,⟨Af,[]⟩),
 (62,⟨[(0,acE),(1,dq),(2,aa)],[]⟩),
 (63,⟨[(0,.pref [3] [.int .i64]),(1,aa)],[]⟩),
 (64,⟨pJ,[]⟩),
 (65,⟨GV,[]⟩),
 (66,⟨NG,[]⟩),
 (67,⟨Ae,[]⟩),
 (68,⟨[(0,aV),(1,Cz),(2,aa)],xP⟩),
 (69,⟨[(0,aV),(1,zZ),(2,aa)],xP⟩),
 (70,⟨CK,xP⟩),
 (71,⟨[(0,aV),(1,zZ),(2,aa)],xP⟩),
 (72,⟨[(0,aV)],xP⟩),
 (73,⟨pJ,[]⟩),
 (75,⟨[(0,Nn),(1,aa),(2,aa)],uy⟩),
 (76,⟨eR,[]⟩),
 (77,⟨[(0,dq),(1,aa)],[]⟩),
 (78,⟨pJ,[]⟩),
 (79,⟨[(0,aa),(1,CB),(2,.fn vY [] [.dk 0 0 0,.dk 1 0 0]),(3,.fn vZ [] [.dk 0 0 0,.dk 1 0 0,.dk 2 0 0])],Tg⟩),
 (80,⟨[(0,CB),(1,aa),(2,aV),(3,cY)],xO⟩),
 (81,⟨[(0,CB),(1,aV),(2,cY),(3,dQ)],Tg⟩),
 (82,⟨[(0,aV),(1,aa),(2,aa),(3,aa)],xP⟩),
 (84,⟨CK,xP⟩),
 (85,⟨[(0,cP),(1,.fn cR [] [])],cq⟩),
 (86,⟨Tm,[]⟩),
 (87,⟨GU,[]⟩),
 (88,⟨Ae,[]⟩),
 (89,⟨[(0,cP)],cq⟩),
 (90,⟨Af,[]⟩),
 (91,⟨[(0,Nn),(1,dq),(2,aa)],uy⟩),
 (92,⟨pJ,[]⟩),
 (93,⟨pJ,[]⟩),
 (94,⟨[(0,aV),(1,CB)],[.var 141 [.one (.whole jz 1),.one (.eY jP)],sZ]⟩),
 (95,⟨[(0,cP),(1,aa),(2,aa),(3,aa),(4,.fn cR [] [])],cq⟩),
 (96,⟨pK,[]⟩),
 (97,⟨eR,[]⟩),
 (98,⟨Af,[]⟩),
 (99,⟨eR,[]⟩),
 (100,⟨pK,[]⟩),
 (101,⟨[(0,Nm),(1,dq)],uy⟩),
 (103,⟨[(0,aa),(1,aa),(2,.fn v7 [] [.dk 0 0 0]),(3,.fn v8 [] [.dk 0 0 0])],oe⟩),
 (104,⟨[(0,aa),(1,aa),(2,aV)],oe⟩),
 (105,⟨[(0,aa),(1,aV)],oe⟩),
 (106,⟨[(0,cP),(1,aa),(2,aa),(3,.fn cR [] [])],cq⟩),
 (107,⟨[(0,cP),(1,aa),(2,aa),(3,.fn cR [] [])],cq⟩),
 (108,⟨[(0,cP),(1,aa),(2,aa),(3,.fn cR [] [])],cq⟩),
 (109,⟨[(0,od),(1,aa),(2,aa),(3,.fn cR [] [])],[]⟩),
 (110,⟨[(0,cP),(1,aa),(2,aa),(3,.fn cR [] [])],cq⟩),
 (111,⟨[(0,cP),(1,aa),(2,aa),(3,.fn cR [] [])],cq⟩),
 (112,⟨[(0,cP),(1,aa),(2,aa),(3,aa),(4,.fn cR [] [])],cq⟩),
 (113,⟨[(0,cP),(1,aa),(2,aa),(3,aa),(4,.fn cR [] [])],cq⟩),
 (115,⟨pK,[]⟩),
 (116,⟨Af,[]⟩),
 (117,⟨[(0,aa),(1,dq),(2,.fn uv [] [.dk 0 0 0]),(3,.fn v9 [] [.dk 1 0 0])],[xL,oX]⟩),
 (118,⟨Af,[]⟩),
 (119,⟨[(0,dq),(1,aV)],[oX]⟩),
 (120,⟨eR,[]⟩),
 (121,⟨lp,[]⟩),
 (124,⟨CK,[.var 174 [ln,.one (.eY iP)],dx]⟩),
 (125,⟨[(0,cP),(1,aa),(2,aa),(3,aa),(4,.fn cR [] [])],cq⟩),
 (126,⟨eR,[]⟩),
 (127,⟨[(0,aV)],[Tb]⟩),
 (128,⟨[(0,od),(1,aa),(2,aV),(3,.fn cR [] [])],uz⟩),
 (129,⟨[(0,od),(1,aa),(2,aa),(3,aa),(4,aV),(5,.fn cR [] [])],uz⟩),
 (130,⟨eR,[]⟩),
 (131,⟨Tm,[]⟩),
 (132,⟨[(0,aV),(1,dq)],[.var 182 [.one (.whole dp 1),.one (.eY kJ)],qx]⟩),
 (133,⟨[(0,dq),(1,aa),(2,aV)],[xL]⟩),
 (134,⟨[(0,GI),(1,dq)],[]⟩),
 (136,⟨pK,[]⟩),
 (137,⟨[(0,od),(1,aa),(2,aa),(3,aV),(4,.fn cR [] [])],uz⟩),
 (138,⟨[(0,GI)],[]⟩),
 (139,⟨pK,[]⟩),
 (140,⟨eR,[]⟩),
 (164,⟨CK,[.var 174 [ln,.one (.cD iP 2)],dx,.map iP]⟩),
 (165,⟨[(0,aV),(1,CB)],[.var 141 [.one (.whole jz 1),.one (.cD jP 2)],sZ,.map jP]⟩),
 (166,⟨[(0,Nn),(1,aa),(2,aa)],uy⟩),
 (167,⟨[(0,aV),(1,dq)],[.var 182 [.one (.whole dp 1),.one (.cD kJ 2)],qx,.map kJ]⟩)]
def anU:List (Nat×Shape):=[(3,⟨lp,[]⟩),
 (4,⟨[(0,aV)],[xK]⟩),
 (5,⟨eR,[xK]⟩),
 (6,⟨[(0,.agg [.whole jy 1,.int .i64])],[xK,xM]⟩),
 (7,⟨[(0,pG),(1,aa)],[jS]⟩),
 (8,⟨lp,[]⟩),
 (9,⟨[(0,pG),(1,aa)],[jS]⟩),
 (10,⟨lp,[]⟩),
 (11,⟨eR,[]⟩),
 (12,⟨eR,[]⟩),
 (13,⟨GW,qy⟩),
 (14,⟨xQ,qy⟩),
 (15,⟨xQ,qy⟩),
 (16,⟨GW,qy⟩),
 (17,⟨GW,qy⟩),
 (18,⟨[(0,.agg [.whole jy 0,.int .i64])],[xM]⟩),
 (19,⟨lp,[]⟩),
 (20,⟨eR,[]⟩),
 (21,⟨eR,[]⟩),
 (22,⟨eR,[]⟩),
 (23,⟨Ae,[.var 59 [aa,acz,Nh,Ni],.dead,.map dX,.map dY,jS]⟩),
 (24,⟨lp,[]⟩),
 (25,⟨xQ,qy⟩),
 (26,⟨[(0,.agg [.int .i64,.int .i64,.int .u64,.int .u64,.whole bu 0])],cq⟩),
 (27,⟨pK,[]⟩),
 (28,⟨xQ,qy⟩),
 (29,⟨GU,[]⟩),
 (30,⟨Tn,Th⟩),
 (31,⟨lp,[]⟩),
 (32,⟨[(0,.one (.whole ao 0))],[cj]⟩),
 (33,⟨[(0,.one (.whole SV 0))],[acL]⟩),
 (34,⟨lp,[]⟩),
 (35,⟨lp,[]⟩),
 (36,⟨[(0,Nq),(1,aa)],NC⟩),
 (37,⟨[(0,oW)],[]⟩),
 (38,⟨eR,[]⟩),
 (39,⟨lp,[]⟩),
 (40,⟨[(0,cP)],cq⟩),
 (41,⟨[(0,CA),(1,z9),(2,aa)],[cj,cF,qx]⟩),
 (42,⟨GX,pI⟩),
 (43,⟨GX,pI⟩),
 (44,⟨lp,[]⟩),
 (45,⟨[(0,xG),(1,.one (.whole GG 1))],[dx,acM]⟩),
 (46,⟨GY,[]⟩),
 (47,⟨GY,[]⟩),
 (48,⟨GY,[]⟩),
 (49,⟨GY,[]⟩),
 (50,⟨GY,[]⟩),
 (51,⟨lp,[]⟩),
 (52,⟨[(0,Nq)],NC⟩),
 (53,⟨[(0,Nq)],NC⟩),
 (54,⟨[(0,Nq)],NC⟩),
 (55,⟨xQ,qy⟩),
 (56,⟨xQ,qy⟩),
 (57,⟨GW,qy⟩),
 (58,⟨[(0,Nn)],uy⟩),
 (59,⟨eR,[]⟩),
 (60,⟨lp,[]⟩),
 (61,⟨eR,[]⟩),
 (62,⟨pK,[]⟩),
 (63,⟨GX,pI⟩),
 (64,⟨GW,qy⟩),
 (65,⟨[(0,CA),(1,S8),(2,aa)],[cj,cF,cj,cF]⟩),
 (66,⟨xQ,qy⟩),
 (67,⟨[(0,aV),(1,.one (.Bv .i64 0))],xP⟩),
 (68,⟨[],rD⟩),
 (69,⟨[],rD⟩),
 (70,⟨[],rD⟩),
 (71,⟨[],rD⟩),
 (72,⟨[(0,S8),(1,aa)],[.var 134 [aa,aa,dq,dq,od],.dead,cj,cF]⟩),
 (73,⟨eR,[]⟩),
 (75,⟨[(0,z8)],[.dead,GP]⟩),
 (76,⟨pK,[]⟩),
 (77,⟨lp,[]⟩),
 (78,⟨Tn,Th⟩),
 (79,⟨[(0,.agg [.int .i64,.int .i64,.whole ao 3,.whole ar 4]),(1,.one (.whole jz 5)),(2,aa)],[eE,eE,xI,cj,cF,sZ]⟩),
 (80,⟨[(0,CB)],xO⟩),
 (81,⟨lp,Tg⟩),
 (82,⟨[],rD⟩),
 (84,⟨[],rD⟩),
 (85,⟨[],cq⟩),
 (86,⟨eR,[]⟩),
 (87,⟨eR,[]⟩),
 (88,⟨eR,[]⟩),
 (89,⟨[(0,S5)],[.dead,jR]⟩),
 (90,⟨xQ,qy⟩),
 (91,⟨[(0,z8)],[.dead,GP]⟩),
 (92,⟨Tn,Th⟩),
 (93,⟨GX,pI⟩),
 (94,⟨eR,[.var 141 [.one (.whole jz 2),.one (.cD jP 3)],.dead,sZ,.map jP]⟩),
 (95,⟨[],cq⟩),
 (96,⟨eR,[]⟩),
 (97,⟨lp,[]⟩),
 (98,⟨[(0,CA),(1,z9),(2,aa)],[cj,cF,qx]⟩),
 (99,⟨[(0,oW)],[]⟩),
 (100,⟨eR,[]⟩),
 (101,⟨[],uy⟩),
 (103,⟨[(0,.agg [.int .i64,.int .i64,.whole ao 1,.whole ar 2]),(1,rB),(2,aa)],[eE,cj,cF,dx]⟩),
 (104,⟨eR,oe⟩),
 (105,⟨lp,oe⟩),
 (106,⟨[],cq⟩),
 (107,⟨[],cq⟩),
 (108,⟨[],cq⟩),
 (109,⟨Ae,[]⟩),
 (110,⟨[],cq⟩),
 (111,⟨lp,cq⟩),
 (112,⟨eR,cq⟩),
 (113,⟨[(0,aa),(1,aC)],cq⟩),
 (115,⟨eR,[]⟩),
 (116,⟨eR,[]⟩),
 (117,⟨[(0,S8),(1,.one (.whole dp 4)),(2,aa)],[xL,oX,cj,cF,qx]⟩),
 (118,⟨[(0,.fn uv [] [.dk 0 0 0])],[xL]⟩),
 (119,⟨lp,[oX]⟩),
 (120,⟨eR,[]⟩),
 (121,⟨eR,[]⟩),
 (124,⟨eR,[.var 174 [wa,.one (.cD iP 3)],.dead,dx,.map iP]⟩),
 (125,⟨[],cq⟩),
 (126,⟨pK,[]⟩),
 (127,⟨pK,[Tb]⟩),
 (128,⟨eR,uz⟩),
 (129,⟨eR,uz⟩),
 (130,⟨pK,[]⟩),
 (131,⟨eR,[]⟩),
 (132,⟨eR,[.var 182 [z9,GK],.dead,qx,.map kJ]⟩),
 (133,⟨pK,[xL]⟩),
 (134,⟨pK,[]⟩),
 (136,⟨eR,[]⟩),
 (137,⟨Ae,uz⟩),
 (138,⟨lp,[]⟩),
 (139,⟨GX,pI⟩),
 (140,⟨pK,[]⟩),
 (164,⟨eR,[.var 174 [rB,.one (.cD iP 2)],.dead,.map iP,dx]⟩),
 (165,⟨eR,[.var 141 [GJ,.one (.cD jP 2)],.dead,.map jP,sZ]⟩),
 (166,⟨[(0,z8)],[.dead,GP]⟩),
 (167,⟨eR,[.var 182 [acB,.one (.cD kJ 2)],.dead,.map kJ,qx]⟩)]
def anV:List (Nat×Shape):=[(67,⟨[(0,.one (.fg)),(1,.one (.Bv .i64 3))],[]⟩),
 (89,⟨[(0,cP)],cq⟩)]
def anW (n:Nat):List Nat:=(List.range (n.log2+1)).filter n.testBit
def aek:Nat→List Nat→List (Nat×List Nat)
 | _,[]=>[]
 | i,n::l=>(i,anW n)::aek (i+1) l
def VF (l:List (Nat×List Nat)):List (Nat×List (Nat×List Nat)):=l.map fun e=>(e.1,aek 0 e.2)
def anX:List (Nat×List (Nat×List Nat)):=VF [(3,[1,8,24,48,240,67108976,4,832,4398046511424,4,52776558133568,123145302311232,52776558134592,144167964633989440,4,52776558133568,4]),
 (4,[1,33,1,4]),
 (5,[3,16387,16,3,16]),
 (6,[71,199,451,963,132035,963,1987,33556419,1987,8589936579,1987,1099511629763,1987,4503599627372483,1987,963,192,64]),
 (7,[6,70,2097222,48,134,117440642,251658370,117441154,117442178,117444226,2264927874,6559895170,117443714,70984404610,117443714,1101776555650,117443714,117447810,70368861625474,117447810,117447810,117456002,72057594155383938,117456002,117456002,1180591620719676231298,117444226,117460610,75557863725914440879746,117460610,117460610,117493378,77371252455336267298688642,117493378,117558914,79228162514264337593661509250,117558914,117493378,649037107316853453566314306080386,117443714,42535295865117307932921825931235954306,117443714,2787593149816327892691964784081047453175426,117443714,182687704666362864775460604089535377457109012098,117443714,93536104789177786765035829293842113257979800192130,48,117440642,117440642,48]),
 (8,[0,2,1]),
 (9,[6,70,262214,48,132,388,900,120259085184,257698038656,120259088256,17712445132672,120259088256,18014518768570240,120259088256,120259098496,295147905299611924352,48,120259090304,120259085184,120259085184,48]),
 (10,[12,137438953484,16,3298534883340,7696581394444,3298534883372,18017697044365324,16,3298534883340,864691128455135244,2017612633061982220,864691128455135308,18890330622607035990092,16,3626778323535015979253836,8462481601993532678078540,3626778323535015979253964,1267654227006552936512682459212,16,3626778323535015979253836,864691128455135244,16]),
 (11,[3,67,16,3,2051,1,16]),
 (12,[6,2054,16,32774,16,917510,1966086,917606,917990,36028797019881958,16,18446744073710469606,16,618970019642690137450479622,16,917510,44601490397061246283071436545296723011960832,16,16]),
 (13,[19,16]),
 (14,[92,832,1049408,192,192]),
 (15,[28,28,220,476,476,2147484124,48,103079215580,240518169052,103079216092,61675730371548,132044474549212,61675730374620,18076074239854556,61675730371548,61675730371548,103079215580,8264141345021879124444,17708874310761169551836,8264141345021879132636,8264141345021879124444,8264141345021879124444,316912650057057350374175801816,464,80,48]),
 (16,[6,14,12302,28686,12318,12302,12302,4]),
 (17,[6,14,30,62,14680126,31457342,14680318,1088422014,14680190,14680446,962087354750,2061598982526,962087355774,962087354750,962087354750,14680126,14680126,20,4]),
 (18,[1,1]),
 (19,[6,1048582,16,38,469762086,1006632998,469762278,9059696742,469762086,469762086,16]),
 (20,[2,258,4,10,1835018,3932170,1835066,270270522,1835066,1099513462842,1835066,72057594039762970,1835018,1835018,4]),
 (21,[6,4102,16,65542,16,1835014,3932166,1835110,538705926,16,1835014,2199023255552,16,16]),
 (22,[1,8,24,24,24,4,256,4,4]),
 (23,[9,201,4194377,48,777,2147484425,48,1289,7433,35184372092169,3337,2313,2057,2048,48]),
 (24,[1,4]),
 (25,[92,348,8388956,192,2147483740,192,604,1628,3676,7772,4503599627378268,7772,15964,32348,65116,4611686018427453020,65116,130652,523868,2475880078570760549798510172,19807040628566084398386118236,192,261724,261724,196188,65116,7772,192]),
 (26,[6,14,786446,1835022,786462,67895326,786462,962073460766,2061585088542,962073460862,962073460766,962073460766,786446,4]),
 (27,[1,4]),
 (28,[6,518,12,6,84,4194388,12,12]),
 (29,[2,10,49162,114698,49178,4243482,49162,49162,10,42,106,8589934698,106,234,412316860650,962072674538,412316860906,412316860650,412316860650,106,2305843009213693994,4,10]),
 (30,[6,22,86,201326678,469762134,201326806,201326678,201326678,120259084374,257698037846,120259085142,120259084374,120259084374,1110,3940649673950278,8444249301320774,3940649673954374,3940649673962566,4039165915797926982,8650851934225314886,4039165915797959750,4039165915797926982,4039165915797926982,3940649673950278,3940649673950278,12]),
 (31,[3,65539,16,786435,1835011,786467,17180655619,16,786435,16]),
 (32,[2,10,10,26,131098,26,16777242,58,8589934650,58,2199023255610,26,4]),
 (33,[14,142,98446,229518,98702,1147278,3244430,98446,4296114574,140737488454030,98446,288230376152859022,98446,147573952589677560206,98446,618970019642690137450709390,98446,2596148429267413814265248165757326,99214,166153499473114484112975882535142286,99214,680564733841876926926749214863536522126,99214,89202980794122492566142873090593446024020366,98446,98446,64]),
 (34,[6,16]),
 (35,[14,16398,64,131086,67108874,64,536870922,64,64]),
 (36,[25,153,409,48,4249,48,65689,48,4194457,48,67109017,48,140737488355481,48,295147905179352825881,48,48]),
 (37,[2,10,28682,61450,28730,8417322,28714,939552778,2013294602,939552906,939552778,939552778,28682,28682,4]),
 (38,[12,44,1068,16,76,32844,16,2097152,16,16]),
 (39,[7,135,389,133,641,129,64]),
 (40,[1,9,904,1928,936,1000,33555432,1000,274877907944,904,904,4]),
 (41,[6,38,262182,28,70,198,454,966,17179870150,966,1990,4038,1099511631814,4038,8134,32710,144115188075872198,1152921504606855110,28,16326,16326,12230,4038,966,28]),
 (42,[1,9,25,57368,122904,57464,57848,134275320,57592,57528,57368,57368,4]),
 (43,[3,35,6179,14371,6243,6179,6179,16]),
 (44,[3,1027,16,12291,28675,12323,16789507,16,12291,16]),
 (45,[2,50,114,114,242,33554674,242,498,2147484146,498,1010,562949953422322,1010,498,12]),
 (46,[22,20,16]),
 (47,[19,51,114,1138,114,114,16]),
 (48,[28,16]),
 (49,[28,16]),
 (50,[28,16]),
 (51,[7,131,64,64]),
 (52,[19,16]),
 (53,[5,4]),
 (54,[19,51,49,16]),
 (55,[92,1860,1050436,192,3136,2147486784,192,192]),
 (56,[28,468,524756,48,976,68719477712,48,1744,1744,1744,1744,1744,73786976294838208144,1680,528,48]),
 (57,[6,262,4,14,458766,983054,458814,458782,458766,458766,4]),
 (58,[7,64]),
 (59,[2,10,16394,4,65546,4,68719476746,4,1924145348618,4123168604170,1924145348650,283399122059306,4,3942573819297802,8446173446668298,3942573819297930,2309785583032991754,4,3942573819297802,1924145348618,4]),
 (60,[12,524,16,524300,16,16]),
 (61,[2,524290,4,10,68719476738,4,1924145348610,4123168604162,1924145348658,9903520314283044123338342402,4,1924145348610,4]),
 (62,[14,142,14470,30854,14982,67123846,14470,14470,64]),
 (63,[3,34,24610,57378,24674,24610,24610,16]),
 (64,[6,134,4,12,4]),
 (65,[60,188,4284,112,316,524604,112,134217788,112,112]),
 (66,[120,376,65912,192,632,4194936,192,137438953592,192,5184,192]),
 (67,[3,131,48,48]),
 (68,[21,14341,30725,14533,1849413,3946565,1850181,1849413,1849413,14341]),
 (69,[57351,122887,57479,1073799303,57351,57351]),
 (70,[0]),
 (71,[1797,3845,1989,34629,1797,1797]),
 (72,[5,5,5,12]),
 (73,[2,32770,4,10,1048586,4,68719476746,4,1924145348618,4123168604170,1924145348650,283399122059306,4,3942573819297802,8446173446668298,3942573819297930,2309785583032991754,4,3942573819297802,1924145348618,4]),
 (75,[7,135,2181,133,133,64]),
 (76,[1,17,4,4]),
 (77,[3,16]),
 (78,[6,54,118,246,1879048438,4026532086,1879049206,551634862582,1879049718,985164297537014,2111064204379638,985164297543158,985164297537014,985164297537014,1879049462,1879048438,1879048438,24676,57444,1083197534374707740536791108,2321137573660088015435915332,1083197534374707740536987716,1083197534374707740536987716,317995847591432058114712789060,1083197534374707740536791108,1083197534374707740536791108,12]),
 (79,[301,2349,2317,6413,14605,33569037,14605,30989,63757,206158493965,481036400909,206158559501,206158493965,206158493965,4503599627434253,1792,30989,14605,1792]),
 (80,[94,64]),
 (81,[30,94,4188,92,1048648,72,32]),
 (82,[0]),
 (84,[0]),
 (85,[19,0]),
 (86,[12,16]),
 (87,[1,9,456,968,488,16872,4,456,4]),
 (88,[3,35,99,2115,4096,16,16,8195,16,65539,16,524288,16,16]),
 (89,[1,257,4,9,8201,9,33554441,25,57,4294967353,57,17592186044473,57,57,9,4,4]),
 (90,[6,84,16468,12,12]),
 (91,[7,1031,4099,64,131,387,385,64,1,64]),
 (92,[6,8198,12,54,180,6442451124,15032385716,6442451380,6442451124,6442451124,3848290697364,8246337208468,3848290698900,3848290697364,3848290697364,12]),
 (93,[2,262146,4,26,117440538,251658266,117440634,68836917306,117440538,117440538,154,410,492581209244058,1055531162665370,492581209245594,492581209247642,2018105214271228826,4323948223484922778,2018105214271241114,2018105214271228826,2018105214271228826,492581209295770,1208925820107210383969178,492581209263002,492581209260954,492581209244058,492581209244058,19807040628566084398385987970,4,26]),
 (94,[9,105,131113,4194313,9,41,41,32,16]),
 (95,[1055,3103,7199,33561631,0,4294974495,0,549755821087,7199,7199,31775,72057594037959711,15391,15391,31775,37778931862957161724959,1208925819614629174721567,158456325028528675187087916063,35869,3103,200735,71711,858143,1902623,42535295865117307932921825928972929055,68639,68637,3103,68639,68635,3103]),
 (96,[1,4,4]),
 (97,[1,4]),
 (98,[6,38,550,28,28]),
 (99,[1,17,4,4]),
 (100,[1,9,4]),
 (101,[19,1048595,51,51,211,851,3859,3347,3091,1043,19,19,4113,633825300114114700748351606801,12305,12305,53265,20497,4113,4113,696898287454081973172991196020261297066001,69649,69649,4113,4113,2923003274661805836407369665432566039311865090049,0]),
 (103,[271,2319,2317,6413,14605,33569037,14605,30989,63757,206158493965,481036400909,206158559501,206158493965,206158493965,4503599627434253,1792,30989,14605,1792]),
 (104,[7,32]),
 (105,[3,8]),
 (106,[271,16655,271,783,17179869967,783,783]),
 (107,[271,783,1801,3849,2101001,3849,3849,4873,8589939465,4873,4873,4873]),
 (108,[259,131331,771,1795,3843,34359742211,3843,7939,35184372096771,7939,3843]),
 (109,[15,1035,3083,7179,15371,31753,17179900937,68719507465,30729,30729,30729,10240,36028797018972160,768,180143985094828032,768,1152921504606855168,768]),
 (110,[261,769,33537,769,769,769]),
 (111,[15,527,1551,67087,1551,68719478287,1551,2199023257103,256,35184372090383,256,1551,36893488147419104783,3599,590295810358705655311,3599,19342813113834066795302415,3599,20282409603651670423947251287567,5647,649037107316853453566312041158159,5647,21267647932558653966460912964485518863,5647,256]),
 (112,[31,23,6163,140737488361491,6163,36893488147419109395,6163,1180591620717411309587,6163,6163,6163,1024]),
 (113,[31,23,12307,140737488367635,12307,73786976294838218771,12307,2361183241434822619155,8192,3072,12307,12307,12307,1329227995784915872903807060280356883,12307,696898287454081973172991196020261297074195,12307,22300745198530623141535718272648361505992723,12307,12307,12307,8192,3072]),
 (115,[5,21,1,5,261,5,5,16389,5,5,4]),
 (116,[2,4194306,4,4294967298,4,120259084290,257698037762,120259084314,36893488267678187546,4,309485009821345188983865346,4,120259084290,4]),
 (117,[271,2319,2317,6413,14605,33569037,14605,30989,63757,206158493965,481036400909,206158559501,206158493965,206158493965,4503599627434253,1792,30989,14605,1792]),
 (118,[2,10,6154,14346,6170,6154,6154,58720264,125829128,58720328,58720264,58720264,4]),
 (119,[3,8]),
 (120,[1,4]),
 (121,[1,8,4,4]),
 (124,[3,99,131107,4194307,3,35,35,32,16]),
 (125,[1053,3101,265245,1099511630877,3101,288230376151714845,2077,1053]),
 (126,[1,4]),
 (127,[1,1,1,1,4]),
 (128,[15,256]),
 (129,[63,63,55,4,4096]),
 (130,[1,4]),
 (131,[12,16]),
 (132,[3,99,131107,4194307,3,35,35,32,16]),
 (133,[7,32]),
 (134,[3,1027,16,35,458785,983073,458913,458785,458785,16]),
 (136,[1,17,4,4]),
 (137,[31,4194318,6,3072,3072]),
 (138,[1,129,4,1793,3841,1809,526081,4,1793,4]),
 (139,[1,9,41,9,9,4]),
 (140,[1,4])]
def anY:List (Nat×List (Nat×List Nat)):=VF [(3,[0,0,0,0,0,0,0,0,0,0,0,0,0,0,0,0,0,0,0,0,0,0,0,0,0,0,112,0,0,0,0,0,0,0,0,0,0,0,0,0,0,0,320,0,0,0,52776558133568,0,0,0,0,0,0,0,0,0,0,52776558133568]),
 (4,[0,0,0,0,0,1]),
 (5,[0,0,0,0,0,0,0,0,0,0,0,0,0,0,3]),
 (6,[0,0,0,0,0,0,0,0,0,0,0,0,0,0,0,0,0,963,0,0,0,0,0,0,0,1987,0,0,0,0,0,0,0,1987,0,0,0,0,0,0,1987,0,0,0,0,0,0,0,0,0,0,0,1987]),
 (7,[0,0,0,0,0,0,0,0,0,0,0,0,0,0,0,0,0,0,0,0,0,6,0,0,0,0,0,117440642,0,0,0,0,117443714,0,0,0,117443714,0,0,0,117443714,0,0,0,0,0,117447810,0,0,0,0,0,0,0,0,0,117456002,0,0,0,0,0,0,0,0,0,0,0,0,0,117443714,0,0,0,0,0,117460610,0,0,0,0,0,0,0,0,0,117493378,0,0,0,0,0,0,0,0,0,117558914,0,0,0,0,0,0,0,0,0,0,0,0,117443714,0,0,0,0,0,0,0,0,0,0,0,0,0,0,0,117443714,0,0,0,0,0,0,0,0,0,0,0,0,0,0,0,117443714,0,0,0,0,0,0,0,0,0,0,0,0,0,0,0,117443714,0,0,0,0,0,0,0,0,117441666]),
 (8,[]),
 (9,[0,0,0,0,0,0,0,0,0,0,0,0,0,0,0,0,0,0,6,0,0,0,0,0,0,0,0,0,0,0,0,0,0,0,0,0,0,120259085184,0,0,0,0,0,0,120259088256,0,0,0,0,0,0,0,0,0,120259088256,0,0,0,0,0,0,0,0,0,0,0,0,0,120259090304]),
 (10,[0,0,0,0,0,0,0,0,0,0,0,0,0,0,0,0,0,0,0,0,0,0,0,0,0,0,0,0,0,0,0,0,0,0,0,0,0,12,0,0,0,0,3298534883340,0,0,0,0,0,0,0,0,0,0,0,3298534883340,0,0,0,0,0,864691128455135244,0,0,0,0,0,0,0,0,0,0,0,0,0,864691128455135308,0,0,0,0,0,0,0,3626778323535015979253836,0,0,0,0,0,0,0,0,0,0,0,0,0,0,0,0,0,3626778323535015979253836]),
 (11,[0,0,0,0,0,0,3,0,0,0,0,1]),
 (12,[0,0,0,0,0,0,0,0,0,0,0,6,0,0,0,6,0,0,0,0,917510,0,0,0,0,0,0,0,0,0,0,0,0,0,0,0,0,0,0,0,0,0,0,0,0,0,0,0,0,0,0,0,0,0,0,917510,0,0,0,0,0,0,0,0,917510,0,0,0,0,0,0,0,0,0,0,0,0,0,0,0,0,0,0,0,0,0,0,0,0,917510,0,0,0,0,0,0,0,0,0,0,0,0,0,0,0,0,0,0,0,0,0,0,0,0,0,0,0,0,0,0,0,0,0,0,0,0,0,0,0,0,0,0,0,0,0,0,0,0,0,0,0,0,0,0,0,0]),
 (13,[]),
 (14,[0,0,0,0,0,0,0,0,0,0,0,0,0,0,0,0,0,0,0,0,320]),
 (15,[0,0,0,0,0,0,0,0,0,0,0,0,0,0,0,0,0,0,0,0,0,0,0,0,0,0,0,0,0,0,0,476,0,0,0,0,0,103079215580,0,0,0,0,0,0,0,0,61675730371548,0,0,0,0,0,0,0,61675730371548,0,0,0,0,0,0,0,0,0,0,0,0,0,0,0,0,0,0,8264141345021879124444,0,0,0,0,0,0,0,0,0,0,0,0,0,0,0,0,0,0,0,0,0,0,0,0,464]),
 (16,[0,0,0,0,0,0,0,0,0,0,0,0,0,0,12302]),
 (17,[0,0,0,0,0,0,0,0,0,0,0,0,0,0,0,0,0,0,0,0,0,0,0,0,14680126,0,0,0,0,0,14680190,0,0,0,0,0,0,0,0,0,962087354750]),
 (18,[]),
 (19,[0,0,0,0,0,0,0,0,0,0,0,0,0,0,0,0,0,0,0,0,6,0,0,0,0,0,0,0,0,469762086,0,0,0,469762086]),
 (20,[0,0,0,0,0,0,0,0,2,0,0,0,0,0,0,0,0,0,0,0,0,1835018,0,0,0,0,0,0,1835066,0,0,0,0,0,0,0,0,0,0,0,1835066,0,0,0,0,0,0,0,0,0,0,0,0,0,0,0,1835018]),
 (21,[0,0,0,0,0,0,0,0,0,0,0,0,6,0,0,0,6,0,0,0,0,1835014,0,0,0,0,0,0,0,1835014,0,0,0,0,0,0,0,0,0,0,0,0]),
 (22,[0,0,0,0,24,0,0,0,0]),
 (23,[0,0,0,0,0,0,0,0,0,0,0,0,0,0,0,0,0,0,0,0,0,0,9,0,0,0,0,0,0,0,0,265,0,0,0,0,0,0,0,0,0,0,0,0,0,2057]),
 (24,[]),
 (25,[0,0,0,0,0,0,0,0,0,0,0,0,0,0,0,0,0,0,0,0,0,0,0,92,0,0,0,0,0,0,0,92,0,0,0,0,0,0,0,0,0,0,0,0,0,0,0,0,0,0,0,0,7772,0,0,0,0,0,0,0,0,0,65116,0,0,0,0,0,0,0,0,0,0,0,0,0,0,0,0,0,0,0,0,0,0,0,0,0,0,0,0,196188,0,0,130652]),
 (26,[0,0,0,0,0,0,0,0,0,0,0,0,0,0,0,0,0,0,0,0,786446,0,0,0,0,0,786462,0,0,0,0,0,0,0,0,0,0,0,0,0,962073460766]),
 (27,[]),
 (28,[0,0,0,0,0,0,0,0,0,6,0,0,0,0,0,0,0,0,0,0,0,0,20]),
 (29,[0,0,0,0,0,0,0,0,0,0,0,0,0,0,0,0,49162,0,0,0,0,0,49162,0,0,0,0,0,0,0,0,0,0,106,0,0,0,0,0,412316860650,0,0,0,0,0,0,0,0,0,0,0,0,0,0,0,0,0,0,0,0,0,34]),
 (30,[0,0,0,0,0,0,0,0,0,0,0,0,0,0,0,0,0,0,0,0,0,0,0,0,0,0,0,0,201326678,0,0,0,0,0,0,0,0,120259084374,0,0,0,0,0,0,0,0,0,0,0,0,0,0,3940649673950278,0,0,0,0,0,0,0,0,0,4039165915797926982]),
 (31,[0,0,0,0,0,0,0,0,0,0,0,0,0,0,0,0,3,0,0,0,786435,0,0,0,0,0,0,0,0,0,0,0,0,0,786435]),
 (32,[0,0,0,0,0,0,0,0,0,0,0,0,0,0,0,0,0,26,0,0,0,0,0,0,26,0,0,0,0,0,0,0,0,58,0,0,0,0,0,0,0,26]),
 (33,[0,0,0,0,0,0,0,0,0,0,0,0,0,0,0,0,0,98446,0,0,0,98446,0,0,0,0,0,0,0,0,0,0,98446,0,0,0,0,0,0,0,0,0,0,0,0,0,0,98446,0,0,0,0,0,0,0,0,0,0,98446,0,0,0,0,0,0,0,0,98446,0,0,0,0,0,0,0,0,0,0,0,0,0,0,0,0,0,0,0,0,0,98446,0,0,0,0,0,0,0,0,0,0,0,0,0,0,0,0,0,0,0,0,0,98446,0,0,0,0,0,99214,0,0,0,0,0,0,0,0,0,0,0,99214,0,0,0,0,0,0,0,0,0,0,0,0,0,0,0,0,98446]),
 (34,[]),
 (35,[0,0,0,0,0,0,0,0,0,0,0,0,0,0,14,0,0,10,0,0,0,0,0,0,0,0,10,0,0,10]),
 (36,[0,0,0,0,0,0,0,0,25,0,0,0,25,0,0,0,25,0,0,0,0,0,25,0,0,0,25,0,0,0,0,0,0,0,0,0,0,0,0,0,0,0,0,0,0,0,0,25,0,0,0,0,0,0,0,0,0,0,0,0,0,0,0,0,0,0,0,0,25]),
 (37,[0,0,0,0,0,0,0,0,0,0,0,0,0,0,0,28682,0,0,0,0,0,0,0,28714,0,0,0,0,0,0,939552778]),
 (38,[0,0,0,0,0,0,0,0,0,0,12,0,0,0,0,12,0,0,0,0,0,0]),
 (39,[0,0,0,0,0,0,0,0,133,129]),
 (40,[0,0,0,0,0,0,0,0,0,0,904,0,0,0,0,0,0,0,0,0,0,0,0,0,0,1000,0,0,0,0,0,0,0,0,0,0,0,0,904]),
 (41,[0,0,0,0,0,0,0,0,0,0,0,0,0,0,0,0,0,0,6,0,0,0,0,0,0,0,0,0,0,0,0,0,0,0,966,0,0,0,0,0,4038,0,0,0,0,0,0,0,0,0,0,0,0,0,0,0,0,12230,0,0,8134]),
 (42,[0,0,0,0,0,0,0,0,0,0,0,0,0,0,0,0,57368,0,0,0,0,0,0,0,0,0,0,57528]),
 (43,[0,0,0,0,0,0,0,0,0,0,0,0,0,6179]),
 (44,[0,0,0,0,0,0,0,0,0,0,3,0,0,0,12291,0,0,0,0,0,0,0,0,0,12291]),
 (45,[0,0,0,0,0,0,0,0,0,0,0,0,0,0,0,0,0,0,0,0,0,0,0,0,0,242,0,0,0,0,0,498,0,0,0,0,0,0,0,0,0,0,0,0,0,0,0,0,0,498]),
 (46,[]),
 (47,[0,0,0,0,0,0,0,0,0,0,114]),
 (48,[]),
 (49,[]),
 (50,[]),
 (51,[0,0,0,0,0,0,0,1]),
 (52,[]),
 (53,[]),
 (54,[]),
 (55,[0,0,0,0,0,0,0,0,0,0,0,0,0,0,0,0,0,0,0,0,836,0,0,0,0,0,0,0,0,0,0,2112]),
 (56,[0,0,0,0,0,0,0,0,0,0,0,0,0,0,0,0,0,0,0,212,0,0,0,0,0,0,0,0,0,0,0,0,0,0,0,0,720,0,0,0,0,0,0,0,0,0,0,0,0,0,0,0,0,0,0,0,0,0,0,0,0,0,0,0,0,0,1680]),
 (57,[0,0,0,0,0,0,0,0,6,0,0,0,0,0,0,0,0,0,0,458766]),
 (58,[]),
 (59,[0,0,0,0,0,0,0,0,0,0,0,0,0,0,10,0,10,0,0,0,0,0,0,0,0,0,0,0,0,0,0,0,0,0,0,0,10,0,0,0,0,1924145348618,0,0,0,0,0,0,1924145348650,0,0,0,3942573819297802,0,0,0,0,0,0,0,0,3942573819297802]),
 (60,[0,0,0,0,0,0,0,0,0,12,0,0,0,0,0,0,0,0,0,12]),
 (61,[0,0,0,0,0,0,0,0,0,0,0,0,0,0,0,0,0,0,0,2,0,0,0,0,0,0,0,0,0,0,0,0,0,0,0,0,2,0,0,0,0,1924145348610,0,0,0,0,0,0,0,0,0,0,0,0,0,0,0,0,0,0,0,0,0,0,0,0,0,0,0,0,0,0,0,0,0,0,0,0,0,0,0,0,0,0,0,0,0,0,0,0,0,0,0,1924145348610]),
 (62,[0,0,0,0,0,0,0,0,0,0,0,0,0,0,14470,0,0,0,0,0,0,0,0,0,0,0,14470]),
 (63,[0,0,0,0,0,0,0,0,0,0,0,0,0,0,0,24610]),
 (64,[0,0,0,0,0,0,0,6]),
 (65,[0,0,0,0,0,0,0,0,0,0,0,0,60,0,0,0,0,0,0,60,0,0,0,0,0,0,0,60]),
 (66,[0,0,0,0,0,0,0,0,0,0,0,0,0,0,0,0,120,0,0,0,0,0,120,0,0,0,0,0,0,0,0,0,0,0,0,0,0,120]),
 (67,[0,0,0,0,0,0,0,3]),
 (68,[0,0,0,0,0,0,0,0,0,0,0,0,0,0,14341,0,0,0,0,0,0,1849413]),
 (69,[0,0,0,0,0,0,0,0,0,0,0,0,0,0,0,0,57351,0,0,0,0,0,0,0,0,0,0,0,0,0,57351]),
 (70,[]),
 (71,[0,0,0,0,0,0,0,0,0,0,0,1797,0,0,0,1797]),
 (72,[]),
 (73,[0,0,0,0,0,0,0,0,0,0,0,0,0,0,0,2,0,0,0,0,10,0,0,0,0,0,0,0,0,0,0,0,0,0,0,0,10,0,0,0,0,1924145348618,0,0,0,0,0,0,1924145348650,0,0,0,3942573819297802,0,0,0,0,0,0,0,0,3942573819297802]),
 (75,[0,0,0,0,0,0,0,0,0,0,0,133]),
 (76,[0,0,0,0,1]),
 (77,[]),
 (78,[0,0,0,0,0,0,0,0,0,0,0,0,0,0,0,0,0,0,0,0,0,0,0,0,0,0,0,0,0,0,0,1879048438,0,0,0,0,0,0,0,1879048694,0,0,0,0,0,0,0,0,0,0,985164297537014,0,0,0,0,0,0,0,0,0,0,0,0,0,0,0,0,0,0,0,0,0,0,0,0,0,0,0,0,0,0,0,0,0,0,0,0,0,0,0,1083197534374707740536791108,0,0,0,0,0,0,0,1083197534374707740536791108]),
 (79,[0,0,0,0,0,0,0,0,0,0,0,0,0,0,0,0,0,0,0,0,0,0,0,0,0,14605,0,0,0,0,0,0,0,0,0,0,0,0,206158493965,0,0,0,0,0,0,0,0,0,0,0,0,0,63757]),
 (80,[]),
 (81,[0,0,0,0,0,0,0,0,0,0,0,0,92,0,0,0,0,0,0,0,72]),
 (82,[]),
 (84,[]),
 (85,[]),
 (86,[]),
 (87,[0,0,0,0,0,0,0,0,0,456,0,0,0,0,456]),
 (88,[0,0,0,0,0,0,0,0,0,0,0,67,0,3,0,0,3,0,0,0]),
 (89,[0,0,0,0,0,0,0,0,1,0,0,0,0,9,0,0,0,0,0,0,0,0,0,0,0,9,0,0,0,0,0,0,57,0,0,0,0,0,0,0,0,0,0,0,57]),
 (90,[0,0,0,0,0,0,0,0,0,0,0,0,0,0,20]),
 (91,[0,0,0,0,0,0,0,0,0,0,7,0,3]),
 (92,[0,0,0,0,0,0,0,0,0,0,0,0,0,6,0,0,0,0,0,0,0,0,0,0,0,0,0,0,0,0,0,0,0,6442451124,0,0,0,0,0,0,0,0,3848290697364]),
 (93,[0,0,0,0,0,0,0,0,0,0,0,0,0,0,0,0,0,0,2,0,0,0,0,0,0,0,0,117440538,0,0,0,0,0,0,0,0,117440538,0,0,0,0,0,0,0,0,0,0,0,0,492581209244058,0,0,0,0,0,0,0,0,0,0,0,2018105214271228826,0,0,0,0,0,0,0,0,0,0,0,0,0,0,0,0,0,0,492581209260954,0,0,0,0,0,0,0,0,0,0,0,0,0,386]),
 (94,[0,0,0,0,0,0,0,0,0,0,0,0,0,0,0,0,0,32,0,0,0,0,9]),
 (95,[0,0,0,0,0,0,0,0,0,0,0,0,0,0,0,0,0,0,0,0,0,0,0,0,0,7199,0,0,0,0,0,0,7199,0,0,0,0,0,0,7199,0,0,0,0,0,0,0,0,0,0,0,0,0,0,0,0,31775,0,0,0,0,0,0,0,0,0,0,0,0,0,0,0,0,0,0,15391,0,0,0,0,15391,0,0,0,0,0,0,0,0,0,0,0,0,0,0,0,0,12319,0,0,0,0,0,0,0,0,0,0,0,0,0,0,0,0,0,0,0,0,0,0,0,0,0,0,0,3103]),
 (96,[]),
 (97,[]),
 (98,[0,0,0,0,0,0,0,0,0,6]),
 (99,[0,0,0,0,1]),
 (100,[]),
 (101,[0,0,0,0,0,0,0,0,0,0,0,0,0,0,0,0,0,0,0,0,19,0,0,0,0,0,0,0,0,0,0,0,0,0,0,0,0,0,0,0,0,0,0,0,0,0,0,0,0,0,0,0,0,0,0,0,0,0,0,0,0,0,0,0,0,0,0,0,0,0,0,0,0,0,0,0,0,0,0,0,0,0,0,0,0,0,0,0,0,0,0,0,0,0,0,0,0,0,0,4113,0,0,0,0,0,0,0,0,0,0,0,0,0,0,0,0,0,0,0,0,0,0,0,0,0,0,0,0,0,0,0,0,0,0,0,0,0,0,0,4113,0,0,0,0,0,0,0,0,0,0,0,0,0,0,0,0,0,0,0,0,0,0]),
 (103,[0,0,0,0,0,0,0,0,0,0,0,0,0,0,0,0,0,0,0,0,0,0,0,0,0,14605,0,0,0,0,0,0,0,0,0,0,0,0,206158493965,0,0,0,0,0,0,0,0,0,0,0,0,0,63757]),
 (104,[]),
 (105,[]),
 (106,[0,0,0,0,0,0,0,0,0,0,0,0,0,0,271,0,0,0,0,0,0,0,0,0,0,0,0,0,0,0,0,0,0,0,783]),
 (107,[0,0,0,0,0,0,0,0,0,0,0,0,0,0,0,0,0,0,0,0,0,3849,0,0,0,0,0,0,0,0,0,0,0,4873]),
 (108,[0,0,0,0,0,0,0,0,0,0,0,0,0,0,0,0,0,0,0,0,0,0,0,0,0,0,0,0,0,0,0,0,0,0,0,3843,0,0,0,0,0,0,0,0,0,7939]),
 (109,[0,0,0,0,0,0,0,0,0,0,0,0,0,0,0,0,0,0,0,0,0,0,0,0,0,0,0,0,0,0,0,0,0,0,10240,0,30729,0,0,0,0,0,0,0,0,0,0,0,0,0,0,0,0,0,0,0,0,768,0,0,768]),
 (110,[0,0,0,0,0,0,0,0,0,0,0,0,0,0,0,769]),
 (111,[0,0,0,0,0,0,0,0,0,0,0,0,0,0,0,0,1551,0,0,0,0,0,0,0,0,0,0,0,0,0,0,0,0,0,0,0,1551,0,0,0,0,1551,0,0,0,1551,0,0,0,0,0,0,0,0,0,0,0,0,0,0,0,0,0,0,0,1551,0,0,0,3599,0,0,0,0,0,0,0,0,0,0,0,0,0,0,3599,0,0,0,0,0,0,0,0,0,0,0,0,0,0,0,0,0,0,0,1551,0,0,0,0,5647,0,0,0,0,0,0,0,0,0,0,0,0,0,0,5647]),
 (112,[0,0,0,0,0,0,0,0,0,0,0,0,0,0,0,0,0,0,0,0,0,0,0,0,0,0,0,0,0,0,0,0,0,0,0,0,0,0,0,0,0,0,0,0,0,0,0,6163,0,0,0,0,0,0,0,0,0,0,0,0,0,0,0,0,0,6163,0,0,0,0,6163]),
 (113,[0,0,0,0,0,0,0,0,0,0,0,0,0,0,0,0,0,0,0,0,0,0,0,0,0,0,0,0,0,0,0,0,0,0,0,0,0,0,0,0,0,0,0,0,0,0,0,12307,0,0,0,0,0,0,0,0,0,0,0,0,0,0,0,0,0,0,12307,0,0,0,0,12307,0,0,0,0,0,0,0,0,0,0,0,0,0,0,0,0,0,0,0,0,0,0,0,0,0,0,0,0,0,0,0,0,0,0,0,0,0,0,0,0,0,0,0,0,0,0,0,0,12307,0,0,0,0,0,0,0,0,0,0,0,0,0,0,0,0,0,0,12307,0,0,0,0,12307]),
 (115,[0,0,0,0,5,0,0,0,5,0,0,0,0,0,5]),
 (116,[0,0,0,0,0,0,0,0,0,0,0,0,0,0,0,0,0,0,0,0,0,0,2,0,0,0,0,0,0,0,0,0,2,0,0,0,0,120259084290,0,0,0,0,0,0,0,0,0,0,0,0,0,0,0,0,0,0,0,0,0,0,0,0,0,0,0,120259084314,0,0,0,0,0,0,0,0,0,0,0,0,0,0,0,0,0,0,0,0,0,0,120259084290]),
 (117,[0,0,0,0,0,0,0,0,0,0,0,0,0,0,0,0,0,0,0,0,0,0,0,0,0,14605,0,0,0,0,0,0,0,0,0,0,0,0,206158493965,0,0,0,0,0,0,0,0,0,0,0,0,0,63757]),
 (118,[0,0,0,0,0,0,0,0,0,0,0,0,0,6154,0,0,0,0,0,0,0,0,0,0,0,0,58720264]),
 (119,[]),
 (120,[]),
 (121,[0,0,0,0]),
 (124,[0,0,0,0,0,0,0,0,0,0,0,0,0,0,0,0,0,32,0,0,0,0,3]),
 (125,[0,0,0,0,0,0,0,0,0,0,0,0,0,0,0,0,0,0,3101,0,0,0,0,0,0,0,0,0,0,0,0,0,0,0,0,0,0,0,0,0,3101,0,0,0,0,0,0,0,0,0,0,0,0,0,0,0,0,0,3101]),
 (126,[]),
 (127,[]),
 (128,[]),
 (129,[]),
 (130,[]),
 (131,[]),
 (132,[0,0,0,0,0,0,0,0,0,0,0,0,0,0,0,0,0,32,0,0,0,0,3]),
 (133,[]),
 (134,[0,0,0,0,0,0,0,0,0,0,3,0,0,0,0,0,0,0,0,458785]),
 (136,[0,0,0,0,1]),
 (137,[0,0,0,0,0,0,0,0,0,0,0,0,0,0,0,0,0,0,0,0,0,0,6]),
 (138,[0,0,0,0,0,0,0,1,0,0,0,1793,0,0,0,0,0,0,0,1793]),
 (139,[0,0,0,0,0,9]),
 (140,[])]
def anZ:List (Nat×List (Nat×List Nat)):=VF [(3,[0,52776558133568]),
 (4,[]),
 (5,[]),
 (6,[448,963]),
 (7,[128,117440642,117443714,117443714,117447810,117447810,117456002,117443714,117460610,117460610,117493378]),
 (8,[]),
 (9,[512,120259085184]),
 (10,[12,3298534883340,0,864691128455135244,864691128455135244,3626778323535015979253836]),
 (11,[]),
 (12,[4,917510,917510]),
 (13,[]),
 (14,[]),
 (15,[476,103079215580,103079215580,61675730371548,476,8264141345021879124444]),
 (16,[12,12302]),
 (17,[20,14680126,14680446,962087354750]),
 (18,[]),
 (19,[38,469762086]),
 (20,[10,1835018]),
 (21,[4,1835014]),
 (22,[0]),
 (23,[]),
 (24,[]),
 (25,[2112,7772,32348,65116]),
 (26,[12,786446,786446,962073460766]),
 (27,[]),
 (28,[]),
 (29,[10,49162,4,10,42,106,234,412316860650]),
 (30,[86,201326678,86,120259084374,1092,3940649673950278,3940649673962566,4039165915797926982]),
 (31,[0,786435]),
 (32,[8,26]),
 (33,[128,98446,98446,98446,99214]),
 (34,[]),
 (35,[]),
 (36,[25]),
 (37,[8,28682,28682,939552778]),
 (38,[]),
 (39,[]),
 (40,[8,904,1000,1000]),
 (41,[324,966,1990,4038]),
 (42,[16,57368]),
 (43,[32,6179]),
 (44,[0,12291]),
 (45,[48,242,242,498]),
 (46,[]),
 (47,[48,114]),
 (48,[]),
 (49,[]),
 (50,[]),
 (51,[]),
 (52,[]),
 (53,[]),
 (54,[]),
 (55,[]),
 (56,[]),
 (57,[12,458766]),
 (58,[]),
 (59,[0,1924145348618,1924145348618,3942573819297802]),
 (60,[]),
 (61,[0,1924145348610]),
 (62,[128,14470]),
 (63,[32,24610]),
 (64,[]),
 (65,[]),
 (66,[]),
 (67,[]),
 (68,[0,14341,14341,1849413]),
 (69,[0,57351]),
 (70,[]),
 (71,[0,1797]),
 (72,[]),
 (73,[0,1924145348618,1924145348618,3942573819297802]),
 (75,[]),
 (76,[]),
 (77,[]),
 (78,[228,1879048438,1879049718,985164297537014,40964,1083197534374707740536791108]),
 (79,[6400,14605,63757,206158493965]),
 (80,[]),
 (81,[]),
 (82,[]),
 (84,[]),
 (85,[]),
 (86,[]),
 (87,[8,456]),
 (88,[]),
 (89,[1,9,9,57]),
 (90,[]),
 (91,[]),
 (92,[180,6442451124,148,3848290697364]),
 (93,[26,117440538,4,26,402,492581209244058,492581209246618,2018105214271228826]),
 (94,[]),
 (95,[0,3103]),
 (96,[]),
 (97,[]),
 (98,[]),
 (99,[]),
 (100,[]),
 (101,[19,19]),
 (103,[6400,14605,63757,206158493965]),
 (104,[]),
 (105,[]),
 (106,[0,271,271,783]),
 (107,[1801,3849,0,4873]),
 (108,[0,3843]),
 (109,[768]),
 (110,[0,769]),
 (111,[0,1551,1551,1551,1551,3599,1551,5647]),
 (112,[2048,6163,6163,6163,6163,6163]),
 (113,[12307,12307,12307,12307,8195,12307,12307,12307,12307,12307]),
 (115,[]),
 (116,[0,120259084290]),
 (117,[6400,14605,63757,206158493965]),
 (118,[10,6154,8,58720264]),
 (119,[]),
 (120,[]),
 (121,[]),
 (124,[]),
 (125,[0,1053]),
 (126,[]),
 (127,[]),
 (128,[]),
 (129,[]),
 (130,[]),
 (131,[]),
 (132,[]),
 (133,[]),
 (134,[32,458785]),
 (136,[]),
 (137,[]),
 (138,[0,1793]),
 (139,[8,9]),
 (140,[])]
def an0:List (Nat×List (Nat×List Nat)):=[(7,[(16,[5000025]),(26,[5000025])]),
 (29,[(8,[3]),(19,[5])])]
def an1:List (Nat×List Nat):=[(118,[0])]
def an2:List (Nat×List (Nat×List (Nat×Nat))):=[(3,[(1,[(1,4)]),(2,[(1,5)]),(3,[(2,6)]),(4,[(2,7)]),(6,[(0,8)]),(7,[(2,9)]),(13,[(8,10)]),(16,[(0,8)])]),
 (5,[(4,[(12,11)])]),
 (6,[(2,[(2,5)]),(6,[(1,5)]),(8,[(2,11)]),(10,[(2,5)]),(12,[(2,5)]),(14,[(2,5)])]),
 (7,[(1,[(2,12)]),(12,[(1,13)]),(14,[(1,13)]),(39,[(10,14)]),(41,[(10,14)]),(43,[(10,15)]),(45,[(5,16)]),(48,[(2,17)])]),
 (8,[(1,[(0,18)]),(2,[(1,19),(4,19),(9,20),(14,21),(19,21)])]),
 (9,[(1,[(2,21)]),(10,[(2,22)]),(12,[(2,22)]),(14,[(2,23)])]),
 (12,[(1,[(1,24)])]),
 (14,[(1,[(1,17),(3,17),(5,25)]),(4,[(1,17)])]),
 (15,[(1,[(1,17),(3,17)]),(2,[(1,26),(3,26)]),(23,[(6,27)]),(25,[(1,28)])]),
 (17,[(1,[(1,29)]),(17,[(1,30)])]),
 (19,[(1,[(1,21),(5,31)]),(4,[(1,32)]),(8,[(9,33)]),(10,[(9,34)])]),
 (20,[(1,[(1,21)]),(7,[(2,22)]),(9,[(2,22)])]),
 (21,[(8,[(3,35)])]),
 (23,[(4,[(2,36)]),(7,[(1,37)])]),
 (25,[(1,[(2,38)]),(26,[(20,39)])]),
 (26,[(1,[(7,27)]),(6,[(3,27)])]),
 (28,[(3,[(2,40)]),(4,[(1,41)]),(7,[(1,17)])]),
 (29,[(8,[(1,42)]),(19,[(2,43)]),(20,[(2,44)])]),
 (30,[(1,[(1,45)])]),
 (32,[(8,[(2,22)]),(10,[(2,22)])]),
 (33,[(7,[(7,46)]),(10,[(8,46)]),(12,[(5,47)]),(14,[(18,48)]),(16,[(18,49)]),(21,[(9,34)]),(22,[(14,48)]),(24,[(5,47),(14,50)])]),
 (35,[(8,[(5,22),(7,51),(14,22),(16,51)])]),
 (36,[(3,[(1,52)]),(5,[(1,53)]),(7,[(3,54)]),(9,[(1,52)]),(11,[(16,55)]),(13,[(16,55)]),(15,[(16,56)]),(16,[(8,57)])]),
 (37,[(1,[(2,58)]),(10,[(4,166)])]),
 (38,[(1,[(1,59)]),(4,[(1,59)])]),
 (40,[(6,[(9,60)])]),
 (41,[(1,[(1,61)]),(14,[(6,62)])]),
 (43,[(7,[(1,42)])]),
 (47,[(5,[(2,46)])]),
 (52,[(1,[(7,63)])]),
 (53,[(1,[(6,63),(8,63)])]),
 (54,[(1,[(1,63)]),(3,[(7,63),(9,63),(12,64)])]),
 (55,[(1,[(2,65)]),(4,[(3,66)]),(7,[(1,64)])]),
 (56,[(1,[(2,65)]),(4,[(9,67)]),(8,[(2,68)]),(9,[(3,68)]),(10,[(7,69)]),(11,[(3,70)]),(13,[(5,70)]),(14,[(4,71)]),(15,[(1,72)])]),
 (57,[(1,[(1,73)])]),
 (58,[(1,[(3,75)])]),
 (59,[(2,[(2,24)])]),
 (61,[(1,[(2,24)]),(3,[(2,76)]),(9,[(45,60)])]),
 (62,[(5,[(8,77)]),(6,[(3,27)])]),
 (64,[(1,[(1,73)]),(3,[(1,78)])]),
 (65,[(1,[(1,73)]),(4,[(1,73)]),(9,[(1,64),(3,64)])]),
 (66,[(1,[(1,73)]),(4,[(1,73)]),(9,[(9,79)])]),
 (68,[(7,[(8,82)])]),
 (69,[(4,[(6,82)])]),
 (71,[(4,[(4,84)])]),
 (72,[(1,[(5,85)]),(2,[(6,89)]),(3,[(4,90)])]),
 (75,[(5,[(3,91)])]),
 (78,[(1,[(1,92)]),(2,[(1,93)]),(17,[(1,92)])]),
 (79,[(2,[(1,94)]),(12,[(5,80),(6,165)]),(17,[(4,81)])]),
 (85,[(1,[(4,96),(6,95)])]),
 (86,[(1,[(4,88),(9,88),(14,88),(16,87)])]),
 (88,[(1,[(1,97)]),(2,[(1,97)])]),
 (90,[(1,[(1,98)]),(4,[(1,64)])]),
 (91,[(3,[(3,99)]),(5,[(1,100)]),(6,[(3,101)])]),
 (92,[(1,[(1,73)]),(3,[(6,103)])]),
 (93,[(1,[(1,73)])]),
 (95,[(4,[(4,106)]),(6,[(4,107)]),(8,[(4,108)]),(10,[(4,109)]),(12,[(4,110)]),(16,[(4,111)]),(17,[(13,86)]),(18,[(5,112)]),(20,[(5,113)]),(26,[(5,95)]),(29,[(6,95)])]),
 (96,[(2,[(1,115)])]),
 (98,[(1,[(1,116)]),(4,[(5,118),(7,117)])]),
 (100,[(1,[(1,115),(2,120)]),(2,[(6,121)])]),
 (103,[(2,[(1,124)]),(12,[(5,104),(6,164)]),(17,[(4,105)])]),
 (106,[(4,[(14,86)])]),
 (107,[(6,[(5,125)]),(11,[(5,125)])]),
 (108,[(3,[(1,126)]),(7,[(0,127)])]),
 (109,[(8,[(3,128)]),(9,[(3,128)]),(10,[(3,128)]),(11,[(5,129)])]),
 (111,[(5,[(14,86)]),(16,[(10,86)]),(22,[(10,86)])]),
 (112,[(3,[(13,86)]),(5,[(13,86)])]),
 (113,[(3,[(13,86)]),(5,[(13,86)]),(13,[(13,86)]),(15,[(13,86)])]),
 (116,[(3,[(7,130)]),(10,[(19,131)])]),
 (117,[(2,[(1,132)]),(12,[(5,133),(6,167)]),(17,[(4,119)])]),
 (125,[(3,[(19,86)]),(5,[(13,86)])]),
 (126,[(1,[(2,96)])]),
 (128,[(1,[(8,129)])]),
 (129,[(1,[(5,137)]),(2,[(5,137)]),(3,[(5,137)])]),
 (131,[(1,[(4,88),(9,88),(14,88),(16,87)])]),
 (133,[(1,[(5,134)])]),
 (134,[(1,[(1,138)]),(4,[(3,140),(5,139)])]),
 (137,[(1,[(9,86)])]),
 (138,[(6,[(3,140)])]),
 (139,[(4,[(2,136)])]),
 (166,[(1,[(3,75)])])]
def an3:List (Nat×List (Nat×(Shape×List (Out×Shape)))):=[(3,[(177,To)]),
 (6,[(415,Tr),(543,Ts),(655,Tt),(847,Tu),(65,Tv)]),
 (7,[(353,Tw),(289,Tx),(1551,Tz),(513,TA),(449,TB),(1759,TC),(97,TD)]),
 (9,[(719,TE),(879,TF),(129,TG)]),
 (10,[(65,TH),(241,TI),(161,TJ)]),
 (12,[(1039,TK),(895,TL),(97,TM)]),
 (15,[(177,TN),(129,TO),(289,TP),(1583,TQ)]),
 (16,[(49,TR)]),
 (17,[(177,TS),(81,TT)]),
 (19,[(81,anE)]),
 (20,[(463,anF),(655,anG),(81,anH)]),
 (21,[(97,TU)]),
 (23,[(735,TV)]),
 (25,[(1471,TW),(241,TX),(161,TY)]),
 (26,[(431,TZ),(129,T4),(49,T6)]),
 (29,[(49,T7),(241,T8),(177,T9),(145,Ua)]),
 (30,[(65,Ub),(145,Uc),(305,Ud),(241,Ue)]),
 (31,[(65,anI)]),
 (32,[(543,anJ),(65,anK)]),
 (33,[(305,anL),(1087,anM),(943,anN),(527,anO),(351,anP),(49,anQ)]),
 (35,[(287,Uf)]),
 (37,[(383,Ug),(129,Uh),(49,Ui)]),
 (39,[(143,Uj)]),
 (40,[(97,Uk),(49,Ul)]),
 (41,[(927,Um),(193,Un),(129,Uo)]),
 (42,[(65,Up)]),
 (43,[(49,Uq)]),
 (44,[(65,Ur)]),
 (45,[(129,Us),(81,Ut)]),
 (47,[(49,anR)]),
 (56,[(1071,Uu)]),
 (57,[(81,Uv)]),
 (59,[(225,Uw),(145,Ux)]),
 (61,[(113,Uy)]),
 (62,[(49,Uz)]),
 (63,[(49,UA)]),
 (68,[(81,UB),(33,UC)]),
 (69,[(17,UD)]),
 (71,[(17,UE)]),
 (73,[(225,UF),(145,UG)]),
 (78,[(161,UH),(81,UI),(321,UJ)]),
 (79,[(161,UK),(81,UL)]),
 (81,[(207,UM)]),
 (87,[(49,UN)]),
 (89,[(145,UO),(65,UP)]),
 (92,[(97,UQ),(177,UR)]),
 (93,[(81,US),(273,UT),(209,UU),(161,UW)]),
 (95,[(639,UX),(911,UY),(1215,UZ),(33,U0)]),
 (101,[(17,U3),(1599,U4)]),
 (103,[(161,U5),(81,U6)]),
 (106,[(65,U7),(17,U8)]),
 (107,[(65,U9),(129,Va)]),
 (108,[(735,Vb),(81,Vc)]),
 (109,[(591,Vd),(559,Ve)]),
 (110,[(33,Vf)]),
 (111,[(81,Vg),(225,Vh),(1055,Vi),(321,Vj),(49,Vk)]),
 (112,[(49,Vl),(81,Vm),(50,Vn)]),
 (113,[(49,Vo),(81,Vp),(209,Vq),(241,Vr),(210,Vs)]),
 (115,[(79,Vt),(143,Vu)]),
 (116,[(97,Vv)]),
 (117,[(161,Vw),(81,Vx)]),
 (118,[(49,Vy),(129,Vz)]),
 (125,[(655,VA),(17,VB)]),
 (134,[(81,VC)]),
 (138,[(65,VD)]),
 (139,[(33,VE)])]
def an4:List (Nat×List (Nat×List Nat)):=[(7,[(20,[51,52]),(30,[81,82])]),
 (19,[(3,[24])]),
 (89,[(15,[59])]),
 (91,[(4,[7])]),
 (118,[(1,[9])])]
def NH (k:Nat):FuncId:=(fK anS k).getD 0
def lF:dH where
 jI:=NH
 sin:=fun k=>(fK anT k).getD ⟨[],[]⟩
 iK:=fun k=>(fK anU k).getD ⟨[],[]⟩
 live:=fun k r=>(fK ((fK anX (NH k)).getD []) r).getD []
 join:=fun k r=>(fK ((fK anY (NH k)).getD []) r).getD []
 blk:=fun k r=>(fK ((fK anZ (NH k)).getD []) r).getD []
 pur:=fun k r=>(fK ((fK an0 k).getD []) r).getD []
 yR:=fun k=>(fK an1 k).getD []
 alt:=fun k=>fK anV k
 Y9:=fun k r=>(fK ((fK an4 k).getD []) r).getD []
 ck:=fun k r i=>(fK ((fK ((fK an2 k).getD []) r).getD []) i).getD 0
 j7:=fun k x=>fK ((fK an3 k).getD []) x
 sd:=[]
 KA:=fun _=>0
 ext:=fun f=>none
 se:=fun f=>bif Nat.beq f 74 then some 3 else bif Nat.beq f 83 then some 69 else none
 idle:=fun f=>false
 mv:=fun k=>(fK ([(23,[1]),(36,[1]),(52,[1]),(53,[1]),(54,[1]),(68,[1]),(69,[1]),(70,[1]),(71,[1]),(72,[1]),(82,[1]),(84,[1]),(94,[1]),(124,[1]),(132,[1]),(164,[1]),(165,[1]),(167,[1])]:List (Nat×List Nat)) k).getD []
 aL:=fun g=>bif Nat.beq g 0 then .pref [63,63,63,63,63,63,63,63,63,63,63,63,63,63,63,63,63,63,63,63] Ng else bif Nat.beq g 1 then .pref [5,5,5,5,5,5,5,5,5,5,5,5,5,5,5,5,5,5,5,5,5,5,5,5,5,5,5,5,5,5,5,5] S3 else bif Nat.beq g 2 then .pref [5,5,5,5,5,5,5,5,5,5,5,5,5,5,5,5,5,5,5,5,5,5,5,5,5,5,5,5,5,5,5,5,5,5,5,5,5,5,5,5,5,5,5,5,5,5,5,5,5,5,5,5,5,5,5,5,5,5,5,5,5,5,5,5] Cy else .undef
abbrev PG:Program:=Tryz.prog
abbrev CC:ae:=Call Tryz.prog lF
abbrev Lp (p:List Nat) (k:Nat):pB:= .loop (vR p (vm PG (lF.jI k)))
abbrev Cd (t:Nat) (p q:List Nat) (k:Nat):pB:= .cond t (vR p (vm PG (lF.jI k))) (vR q (vm PG (lF.jI k)))
abbrev aW (C:ae) (L:cE) (k:Nat) (b:pB):Prop:=uq PG lF C L k (EH PG (lF.jI k)) (lF.sin k).dr.length b
end Go.AM
set_option maxRecDepth 100000
namespace Go.AM
open Go.IntKind (wrap)
open Go.Proofs Go.RowKit
set_option maxHeartbeats 1000000 in
theorem an5 (hP:Cg Tryz.prog):L3 Tryz.prog 74 3:=by
 refine ⟨fun args w=>MuLone.run_callFunc_enter Tryz.func74 (hP _ _ Tryz.func74) (by kernel_rfl:Tryz.f74.body=some (vm Tryz.prog 74)) _ _,22,by kernel_rfl,?_⟩;intro s w Q h1 h2 h3;have hu:Tryz.prog.underlying 22=some (.slice 3):=by kernel_rfl
 go_enter Tryz.func74,Tryz.ntmps74
 rcases h3 with rfl|⟨a,n,c,rfl⟩
 ·go_wp2
  rw[run_eql_slice_nil w 22 3 none 0 0 hu];simp only[Result.andThen];rw[Oper.upon_value]
  go_wp2
  exact trivial
 ·go_wp2
  rw[run_eql_slice_nil w 22 3 (some a) n c hu];simp only[Result.andThen];rw[Oper.upon_value]
  iterate 17 go_step
  obtain ⟨v,w',hv,hQ⟩:=h2 _ _ _ rfl;unfold Oper.wp;simp[execOp,resolve,invoke,Act.eval,hv,builtin];rw[Oper.upon_value]
  go_wp2
  exact hQ
set_option maxHeartbeats 1000000 in
theorem an6 (hP:Cg Tryz.prog):L3 Tryz.prog 83 69:=by
 refine ⟨fun args w=>MuLone.run_callFunc_enter Tryz.func83 (hP _ _ Tryz.func83) (by kernel_rfl:Tryz.f83.body=some (vm Tryz.prog 83)) _ _,64,by kernel_rfl,?_⟩;intro s w Q h1 h2 h3;have hu:Tryz.prog.underlying 64=some (.slice 69):=by kernel_rfl
 go_enter Tryz.func83,Tryz.ntmps83
 rcases h3 with rfl|⟨a,n,c,rfl⟩
 ·go_wp2
  rw[run_eql_slice_nil w 64 69 none 0 0 hu];simp only[Result.andThen];rw[Oper.upon_value]
  go_wp2
  exact trivial
 ·go_wp2
  rw[run_eql_slice_nil w 64 69 (some a) n c hu];simp only[Result.andThen];rw[Oper.upon_value]
  iterate 17 go_step
  obtain ⟨v,w',hv,hQ⟩:=h2 _ _ _ rfl;unfold Oper.wp;simp[execOp,resolve,invoke,Act.eval,hv,builtin];rw[Oper.upon_value]
  go_wp2
  exact hQ
theorem an7 (hP:Cg PG) (f:FuncId) (e:TypeId) (h:lF.se f=some e):L3 PG f e:=by
 have h1:lF.se f=bif Nat.beq f 74 then some 3 else bif Nat.beq f 83 then some 69 else none:=by kernel_rfl
 rw[h1] at h;cases NI:Nat.beq f 74 with
 | true=>
  rw[NI] at h;rw[aZ] at NI;cases h;subst NI;exact an5 hP
 | false=>
 rw[NI] at h;simp only[cond_false] at h;cases NJ:Nat.beq f 83 with
 | true=>
  rw[NJ] at h;rw[aZ] at NJ;cases h;subst NJ;exact an6 hP
 | false=>
 rw[NJ] at h;simp only[cond_false] at h;cases h
end Go.AM
set_option maxRecDepth 100000
namespace Go.AM
open Go.IntKind (wrap)
open Go.Proofs Go.Proofs.YtaijibbmmbhniaaGreatDoor Go.Lib Go.MakeChecks
def VG:List Int:=[1,10,100,1000,10000,100000,1000000,10000000,100000000,1000000000,10000000000,100000000000,1000000000000,10000000000000,100000000000000,1000000000000000,10000000000000000,100000000000000000,1000000000000000000,10000000000000000000]
theorem an8:Ng=VG.map fun z=> .int .u64 z:=by kernel_rfl
theorem an9:Rows.laid_internal_strconv_uint64pow10 (H:=Unit)=tabData .u64 VG:=by kernel_rfl
def VH:List Int:=[0,1,28,2,29,14,24,3,30,22,20,15,25,17,4,8,31,27,13,23,21,19,16,7,26,12,18,6,11,5,10,9]
theorem aoa:S3=VH.map fun z=> .int .u8 z:=by kernel_rfl
theorem aob:Rows.laid_math_bits_deBruijn32tab (H:=Unit)=tabData .u8 VH:=by kernel_rfl
def VI:List Int:=[0,1,56,2,57,49,28,3,61,58,42,50,38,29,17,4,62,47,59,36,45,43,51,22,53,39,33,30,24,18,12,5,63,55,48,27,60,41,37,16,46,35,44,21,52,32,23,11,54,26,40,15,34,20,31,10,25,14,19,9,13,8,7,6]
theorem aoc:Cy=VI.map fun z=> .int .u8 z:=by kernel_rfl
theorem aod:Rows.laid_math_bits_deBruijn64tab (H:=Unit)=tabData .u8 VI:=by kernel_rfl
def GZ : List (String×DataW Unit) := [("math/bits.deBruijn32tab", Rows.laid_math_bits_deBruijn32tab), ("math/bits.deBruijn64tab", Rows.laid_math_bits_deBruijn64tab), ("internal/strconv.uint64pow10", Rows.laid_internal_strconv_uint64pow10)]
theorem VJ {W:World} {g n:Nat} {e:TypeId} {k:IntKind} {zs:List Int} {name:String} {T:List V} (hn:Tryz.prog.globalNamed name=some g) (he:Tryz.prog.underlying e=some (.int k)) (hlen:zs.length=n) (hp:0<n) (hT:T=zs.map fun z=> .int k z) (ht:TabIs Tryz.prog W name k zs):
  ∃ts cs,V.pref (List.replicate n e) T= .pref ts cs∧ts.length=cs.length∧(∀j,j<cs.length→oa W g j)∧∀(j:Nat) (t:TypeId) (x:V),ts[j]? =some t→cs[j]? =some x→∃v,W.cell? ⟨g,0+j,none⟩=some v∧Pure Tryz.prog W (oa W) t v x:=by
 have hc: ∀i,i<n→W.cell? ⟨g,i,none⟩=some (.int k (zs.getD i 0)):=fun i hi=>ht.cell hn i (by rw[hlen];exact hi);refine ⟨List.replicate n e,T,rfl,by rw[hT];simp[hlen],fun _ _=> ?_,fun j t x hj hx=> ?_⟩
 ·have h0:=hc 0 hp;unfold oa;unfold World.cell? at h0;by_cases hz:g<W.heap.size
  ·exact hz
  ·have:W.heap[g]? =none:=Array.getElem?_eq_none (by omega);simp[this] at h0
 ·have NK:j<n:=by
   have:=(cL.1 hj).1;simpa using this
  rw[D7,ah NK] at hj;cases hj;rw[hT,gE] at hx;have na:zs[j]? =some (zs.getD j 0):=by
   rw[cp (by rw[hlen];exact NK)];simp[List.getD,cp (show j<zs.length by rw[hlen];exact NK)]
  rw[na] at hx;cases hx;exact ⟨_,by simpa using hc j NK,.int he⟩
theorem ajy {W:World} (h:laidMetH Tryz.prog GZ W):jL Tryz.prog lF.aL W (oa W):=by
 have e0 : GZ = [("math/bits.deBruijn32tab", tabData .u8 VH), ("math/bits.deBruijn64tab", tabData .u8 VI), ("internal/strconv.uint64pow10", tabData .u64 VG)] := by unfold GZ; rw [an9, aob, aod]
 rw[e0,laidMetH_plain _ _ _ (by kernel_rfl)] at h;intro g;have hg:lF.aL g=bif Nat.beq g 0 then .pref (List.replicate 20 63) Ng else bif Nat.beq g 1 then .pref (List.replicate 32 5) S3 else bif Nat.beq g 2 then .pref (List.replicate 64 5) Cy else .undef:=by kernel_rfl
 rw[hg];cases eG:Nat.beq g 0 with
 | true=>
  rw[aZ] at eG;subst eG;have hs := h.filter (fun x => x.1 == "internal/strconv.uint64pow10");have hn : Tryz.prog.globalNamed "internal/strconv.uint64pow10" = some 0 := by kernel_rfl
  exact .inr (VJ hn (e:=63) (by kernel_rfl) (by kernel_rfl) (by omega) an8 (tabIs_of_head (g:=0) (t:=171) (e:=63) (n:=20) (rest:=[]) hn (by kernel_rfl) (by kernel_rfl) (by kernel_rfl) (by kernel_rfl) (by kernel_rfl) hs))
 | false=>
 cases lO:Nat.beq g 1 with
 | true=>
  rw[aZ] at lO;subst lO;have hs := h.filter (fun x => x.1 == "math/bits.deBruijn32tab");have hn : Tryz.prog.globalNamed "math/bits.deBruijn32tab" = some 1 := by kernel_rfl
  exact .inr (VJ hn (e:=5) (by kernel_rfl) (by kernel_rfl) (by omega) aoa (tabIs_of_head (g:=1) (t:=192) (e:=5) (n:=32) (rest:=[]) hn (by kernel_rfl) (by kernel_rfl) (by kernel_rfl) (by kernel_rfl) (by kernel_rfl) hs))
 | false=>
 cases fE:Nat.beq g 2 with
 | true=>
  rw[aZ] at fE;subst fE;have hs := h.filter (fun x => x.1 == "math/bits.deBruijn64tab");have hn : Tryz.prog.globalNamed "math/bits.deBruijn64tab" = some 2 := by kernel_rfl
  exact .inr (VJ hn (e:=5) (by kernel_rfl) (by kernel_rfl) (by omega) aoc (tabIs_of_head (g:=2) (t:=193) (e:=5) (n:=64) (rest:=[]) hn (by kernel_rfl) (by kernel_rfl) (by kernel_rfl) (by kernel_rfl) (by kernel_rfl) hs))
 | false=>
 exact .inl rfl
theorem own:ownKnob Tryz.prog.godebug=none:=by kernel_rfl
theorem ael:Cg Tryz.prog:=amz (by kernel_rfl)
theorem mixed:Tryz.prog.follows .mixedOrders=true:=by kernel_rfl
theorem ajx:lQ Tryz.prog lF where
 count:=ael
 se:=an7 ael
 ext:=fun f T h=>by
  have h1:lF.ext f=none:=by kernel_rfl
  rw[h1] at h;cases h
 idle:=fun f h=>by
  have h1:lF.idle f=false:=by kernel_rfl
  rw[h1] at h;cases h
def Y7 (os:Os):World:=World.laidAll Tryz.prog os GZ
theorem ajv (os:Os) (args:Array Value):laidMetH Tryz.prog GZ ((Y7 os).forCall (fun _ _=>0) ⟨#[],args,[]⟩).memory:=by
 rw[laidMetH_plain _ _ _ (by kernel_rfl)];exact laidMet_laidAll args (by kernel_rfl) (by kernel_rfl)
end Go.AM
namespace Go.AM
open Go.IntKind (wrap)
theorem wrap_u64 (n:Int):IntKind.u64.wrap n=n %18446744073709551616:=by simp[IntKind.wrap,IntKind.bits,IntKind.signed]
theorem s6 {A:Nat} (h:A<2^64):wrap .u64 (A:Int)=A:=by
 rw[wrap_u64];omega
theorem NL {n A:Nat} (h:A<2^n):(BitVec.ofInt n (A:Int)).toNat=A:=by
 rw[BitVec.ofInt_natCast,BitVec.toNat_ofNat];exact D8 h
theorem aoe {n A B:Nat} (hA:A<2^n) (hB:B<2^n):(BitVec.ofInt n (A:Int)|||BitVec.ofInt n (B:Int)).toNat=A|||B:=by
 rw[BitVec.toNat_or,NL hA,NL hB]
theorem bv_and {n A B:Nat} (hA:A<2^n) (hB:B<2^n):(BitVec.ofInt n (A:Int)&&&BitVec.ofInt n (B:Int)).toNat=A&&&B:=by
 rw[BitVec.toNat_and,NL hA,NL hB]
theorem aof {n A B:Nat} (hA:A<2^n) (i:Nat):(BitVec.ofInt n (A:Int)&&& ~~~ BitVec.ofInt n (B:Int)).toNat.testBit i=(A.testBit i&& !(B.testBit i)):=by
 rw[BitVec.testBit_toNat,BitVec.ofInt_natCast,BitVec.ofInt_natCast];by_cases hi:i<n
 ·simp only[BitVec.getLsbD_and,BitVec.getLsbD_not,BitVec.getLsbD_ofNat,hi,wO,Bo]
 ·have hf:A.testBit i=false:=Kr (gC hA (sb (by omega) (by omega)));rw[hf,Bool.false_and,BitVec.getLsbD_of_ge _ _ (by omega)]
theorem u64_or {A B:Nat} (hA:A<2^64) (hB:B<2^64):wrap .u64 ((BitVec.ofInt (IntKind.bits .u64) (A:Int)|||BitVec.ofInt (IntKind.bits .u64) (B:Int)).toNat)=((A|||B:Nat):Int):=by
 rw[aoe (n:=IntKind.bits .u64) hA hB];exact s6 (yM hA hB)
theorem u64_and {A B:Nat} (hA:A<2^64) (hB:B<2^64):wrap .u64 ((BitVec.ofInt (IntKind.bits .u64) (A:Int)&&&BitVec.ofInt (IntKind.bits .u64) (B:Int)).toNat)=((A&&&B:Nat):Int):=by
 rw[bv_and (n:=IntKind.bits .u64) hA hB];exact s6 (Bd Nat.and_le_left hA)
theorem u64_andNot {A:Nat} (B:Nat) (hA:A<2^64): ∃D:Nat,D<2^64∧(∀i,D.testBit i=(A.testBit i&& !(B.testBit i)))∧
  wrap .u64 ((BitVec.ofInt (IntKind.bits .u64) (A:Int)&&& ~~~ BitVec.ofInt (IntKind.bits .u64) (B:Int)).toNat)=(D:Int):=
 ⟨(BitVec.ofInt (IntKind.bits .u64) (A:Int)&&& ~~~ BitVec.ofInt (IntKind.bits .u64) (B:Int)).toNat,BitVec.isLt _,fun i=>aof hA i,s6 (BitVec.isLt _)⟩
theorem G0 {m:Nat} (h:m<64):wrap .u64 (1*2^(min m (IntKind.bits .u64)))=((2^m:Nat):Int):=by
 have e:min m (IntKind.bits .u64)=m:=Bj (by show m≤64;omega);rw[e];have:(1*2^m:Int)=((2^m:Nat):Int):=by simp
 rw[this];exact s6 (mW (by omega) h)
theorem G1 {A m:Nat} (h:m<64):Int.fdiv (A:Int) (2^(min m (IntKind.bits .u64)))=((A/2^m:Nat):Int):=by
 have e:min m (IntKind.bits .u64)=m:=Bj (by show m≤64;omega);rw[e];have:(2^m:Int)=((2^m:Nat):Int):=by simp
 rw[this,Int.fdiv_eq_ediv_of_nonneg _ (Int.natCast_nonneg _)];exact Int.natCast_ediv ..
theorem aog {A m:Nat} (hA:A<2^64) (h:m<64):
  (wrap .u64 ((BitVec.ofInt (IntKind.bits .u64) (Int.fdiv (A:Int) (2^(min m (IntKind.bits .u64))))&&&BitVec.ofInt (IntKind.bits .u64) 1).toNat)==1)=A.testBit m:=by
 rw[G1 h];have:=u64_and (A:=A/2^m) (B:=1) (Bd (Nat.div_le_self _ _) hA) (by omega);rw[show ((1:Nat):Int)=1 from rfl] at this;rw[this];rw[Nat.and_one_is_mod,Nat.testBit_eq_decide_div_mod_eq];by_cases hb:A/2^m %2=1
 ·simp[hb]
 ·have:A/2^m %2=0:=by omega
  simp[this]
end Go.AM
set_option maxRecDepth 100000
namespace Go.AM
open Go.IntKind (wrap)
open Go.Proofs
theorem xR:maxLen≤9223372036854775807:=by unfold maxLen;omega
theorem wc:aX=35184372088832:=by unfold aX;rfl
section
variable {α β:Type} {o:Option α} {a:α} {f:α→Option β} {r:Option β} {x y z:β} {b:Bool}
theorem bs (h:o=some a) (h2:f a=r):o.bind f=r:=by rw[h];exact h2
theorem bT (hb:b=true) (h:x=z):(bif b then x else y)=z:=by rw[hb];exact h
theorem bF (hb:b=false) (h:y=z):(bif b then x else y)=z:=by rw[hb];exact h
end
section
variable {X R A α:Type} {step:X→Option (X ⊕ R)}
theorem VK (l:List α) (s:Nat→A→X) (f:A→α→A) (r:A→R) (Inv:Nat→A→Prop)
  (h: ∀(i:Nat) (a:A) (hi:i<l.length),Inv i a→step (s i a)=some (.inl (s (i+1) (f a l[i])))∧Inv (i+1) (f a l[i]))
  (he: ∀a,Inv l.length a→step (s l.length a)=some (.inr (r a))) (a0:A) (h0:Inv 0 a0):
  Loop step (s 0 a0)=some (r (l.foldl f a0))∧Inv l.length (l.foldl f a0):=by
 have go: ∀(k:Nat) (a:A),k≤l.length→Inv k a→Loop step (s k a)=some (r ((l.drop k).foldl f a))∧Inv l.length ((l.drop k).foldl f a):=by
  intro k;generalize hd:l.length-k=d
  induction d generalizing k with
  | zero=>
   intro a hk hi;have:k=l.length:=by omega
   subst this;simp only[List.drop_length,List.foldl_nil];exact ⟨di (he a hi),hi⟩
  | succ d ih=>
   intro a hk hi;have eP:k<l.length:=by omega
   obtain ⟨h1,h2⟩:=h k a eP hi;rw[ga h1,List.drop_eq_getElem_cons eP,List.foldl_cons];exact ih (k+1) (by omega) _ (by omega) h2
 simpa using go 0 a0 (by omega) h0
theorem Ag (good:Nat→Prop) [DecidablePred good] (n:Nat) (s:Nat→X) (bad ok:R) (h: ∀i,i<n→step (s i)=some (if good i then .inl (s (i+1)) else .inr bad)) (he:step (s n)=some (.inr ok)):
  Loop step (s 0)=some (if∀i,i<n→good i then ok else bad):=by
 have go: ∀(d k:Nat),k+d=n→((∀i,k≤i→i<n→good i)→Loop step (s k)=some ok)∧((¬∀i,k≤i→i<n→good i)→Loop step (s k)=some bad):=by
  intro d
  induction d with
  | zero=>
   intro k hk;have:k=n:=by omega
   subst this;exact ⟨fun _=>di he,fun hx=>absurd (fun i h1 h2=>by omega) hx⟩
  | succ d ih=>
   intro k hk;have h1:=h k (by omega);by_cases hg:good k
   ·rw[ah hg] at h1;rw[ga h1];obtain ⟨i1,i2⟩:=ih (k+1) (by omega);refine ⟨fun ha=>i1 fun i h1 h2=>ha i (by omega) h2,fun ha=>i2 fun hx=>ha fun i h1 h2=> ?_⟩;by_cases hi:i=k
    ·rw[hi];exact hg
    ·exact hx i (by omega) h2
   ·rw[ag hg] at h1;rw[di h1];exact ⟨fun ha=>absurd (ha k (az _) (by omega)) hg,fun _=>rfl⟩
 obtain ⟨g1,g2⟩:=go n 0 (by omega);by_cases ha: ∀i,i<n→good i
 ·rw[ah ha];exact g1 fun i _ h=>ha i h
 ·rw[ag ha];exact g2 fun hx=>ha fun i h=>hx i (by omega) h
end
end Go.AM
set_option maxRecDepth 100000
namespace Go.AM
open Go.IntKind (wrap)
theorem fH {α:Type} {l:List α} {i:Nat} {d:α} (h:i<l.length):l.getD i d=l[i]:=by simp[h]
structure Da where
 L:Nat
 st:Nat
 F:List Bool
 N:List (List Nat)
deriving DecidableEq
namespace Da
def n (d:Da):Nat:=d.F.length
def nx (d:Da) (q x:Nat):Nat:=(d.N.getD q []).getD x 0
def fin (d:Da) (q:Nat):Bool:=d.F.getD q false
def run (d:Da) (q:Nat) (w:List Nat):Nat:=w.foldl d.nx q
def acc (d:Da) (q:Nat) (w:List Nat):Bool:=d.fin (d.run q w)
structure Ok (d:Da):Prop where
 l1:1≤d.L
 l6:d.L≤6
 nN:d.N.length=d.n
 row: ∀r∈d.N,r.length=d.L∧∀q∈r,q<d.n
 s:d.st<d.n
 cU:d.n≤512
end Da
def WL (L:Nat) (w:List Nat):Prop:= ∀x∈w,x<L
theorem WL.nil {L:Nat}:WL L []:=fun _ h=>by cases h
theorem WL.cons {L x:Nat} {w:List Nat} (h:x<L) (hw:WL L w):WL L (x::w):=fun y hy=>by
 rcases iR.1 hy with rfl|hy
 ·exact h
 ·exact hw y hy
theorem WL.head {L x:Nat} {w:List Nat} (h:WL L (x::w)):x<L:=h x (by simp)
theorem WL.tail {L x:Nat} {w:List Nat} (h:WL L (x::w)):WL L w:=fun y hy=>h y (by simp[hy])
theorem WL.app {L:Nat} {v w:List Nat}:WL L (v++w)↔WL L v∧WL L w:=by
 unfold WL;simp only[eW];exact ⟨fun h=>⟨fun x hx=>h x (.inl hx),fun x hx=>h x (.inr hx)⟩,fun h x hx=>hx.elim (h.1 x) (h.2 x)⟩
namespace Da
def rE (d:Da) (q:Nat) (d':Da) (q':Nat):Prop:= ∀w,WL d.L w→d.acc q w=d'.acc q' w
theorem Ok.fN {d:Da} (h:d.Ok) {q x:Nat} (hq:q<d.n) (hx:x<d.L):d.nx q x<d.n:=by
 have dz:q<d.N.length:=by rw[h.nN];exact hq
 have hr:=h.row d.N[q] (ff dz);unfold nx;rw[fH dz,fH (by omega)];exact hr.2 _ (ff _)
theorem Ok.VL {d:Da} (h:d.Ok): ∀(w:List Nat) {q:Nat},q<d.n→WL d.L w→d.run q w<d.n
 | [],q,hq,_=>hq
 | x::w,q,hq,hw=>h.VL w (h.fN hq hw.head) hw.tail
theorem NM {d:Da} {q x:Nat} {w:List Nat}:d.acc q (x::w)=d.acc (d.nx q x) w:=rfl
theorem rF {d:Da} {q:Nat}:d.acc q []=d.fin q:=rfl
theorem rE.nx {d d':Da} {q q' x:Nat} (h:d.rE q d' q') (hx:x<d.L):d.rE (d.nx q x) d' (d'.nx q' x):=fun w hw=>h (x::w) (hw.cons hx)
def pos (d:Da) (t:Nat):Nat:=d.nx (t/d.L) (t %d.L)
def mt (d:Da):Nat→Nat
 | 0=>1
 | t+1=>if d.pos t=d.mt t then d.mt t+1 else d.mt t
structure VM (d:Da):Prop where
 le: ∀t,t<d.n*d.L→d.pos t≤d.mt t
 row: ∀q,q<d.n→q<d.mt (q*d.L)
 all:d.mt (d.n*d.L)=d.n
structure Canon (d:Da) (L:Nat) (K:List Nat→Bool):Prop where
 ok:d.Ok
 hL:d.L=L
 st:d.st=0
 num:d.VM
 red: ∀p q,p<d.n→q<d.n→d.rE p d q→p=q
 rG: ∀w,WL L w→d.acc 0 w=K w
theorem VN (d:Da): ∀{s t:Nat},s≤t→d.mt s≤d.mt t:=by
 intro s t h
 induction t with
 | zero=>rw[tA.1 h];exact az _
 | succ t ih=>
  rcases fI s (t+1) with h1|h1
  ·have:=ih (by omega);have e:d.mt (t+1)=if d.pos t=d.mt t then d.mt t+1 else d.mt t:=rfl
   rw[e];split<;>omega
  ·rw[show s=t+1 by omega];exact az _
theorem VO {d d':Da} {K:List Nat→Bool} {L:Nat} (h:d.Canon L K) (h':d'.Canon L K): ∀t,t≤d.n*L→t≤d'.n*L→d.mt t=d'.mt t∧(∀s,s<t→d.pos s=d'.pos s)∧∀q,q<d.mt t→d.rE q d' q:=by
 intro t;have e:=h.hL;have e':=h'.hL;have hl:=h.ok.l1
 induction t with
 | zero=>
  intro _ _;refine ⟨rfl,fun s hs=>by omega,fun q hq=> ?_⟩;obtain rfl:q=0:=by have:q<1:=hq;omega
  intro w hw;rw[h.rG w (e▸hw),h'.rG w (e▸hw)]
 | succ t ih=>
  intro h1 h2;obtain ⟨i1,i2,i3⟩:=ih (by omega) (by omega);have hm:d.mt t≤d.n:=by rw[←h.num.all];exact d.VN (by rw[e];omega)
  have K8:d'.mt t≤d'.n:=by rw[←h'.num.all];exact d'.VN (by rw[e'];omega)
  have hq:t/L<d.n:=by rw[Nat.div_lt_iff_lt_mul (by omega)];omega
  have dz:t/L<d'.n:=by rw[Nat.div_lt_iff_lt_mul (by omega)];omega
  have hx:t %L<L:=Bg _ (by omega);have hqm:t/L<d.mt t:=by
   have a:=h.num.row _ hq;rw[e] at a;have b:d.mt (t/L*L)≤d.mt t:=d.VN (Nat.div_mul_le_self t L);omega
  have hE:=(i3 _ hqm).nx (by rw[e];exact hx);have p1:d.pos t=d.nx (t/L) (t %L):=by unfold pos;rw[e]
  have p2:d'.pos t=d'.nx (t/L) (t %L):=by unfold pos;rw[e']
  rw[←p1,←p2] at hE;have l1:=h.num.le t (by rw[e];omega);have l2:=h'.num.le t (by rw[e'];omega);have b1:d.pos t<d.n:=by rw[p1];exact h.ok.fN hq (by rw[e];exact hx)
  have b2:d'.pos t<d'.n:=by rw[p2];exact h'.ok.fN dz (by rw[e'];exact hx)
  have key:d.pos t=d'.pos t:=by
   rcases fI (d.pos t) (d.mt t) with c|c
   ·have hA:=i3 _ c;refine h'.red _ _ (by omega) b2 fun w hw=> ?_;have hw2:WL d.L w:=by rw[e,←e'];exact hw
    rw[←hA w hw2,hE w hw2]
   ·rcases fI (d'.pos t) (d.mt t) with c'|c'
    ·have hA:=i3 _ c';refine h.red _ _ b1 (by omega) fun w hw=> ?_;rw[hE w hw,hA w hw]
    ·omega
  refine ⟨?_,?_,?_⟩
  ·unfold mt;rw[key,i1]
  ·intro s hs;rcases fI s t with c|c
   ·exact i2 s c
   ·rw[show s=t by omega];exact key
  ·intro q sK;rcases fI q (d.mt t) with c|c
   ·exact i3 q c
   ·have:d.pos t=d.mt t∧q=d.mt t:=by
     unfold mt at sK;split at sK
     ·rename_i h3;exact ⟨h3,by omega⟩
     ·omega
    rw[←key,this.1,←this.2] at hE;exact hE
theorem aem {a b:List Nat} (hl:a.length=b.length) (h: ∀x,x<a.length→a.getD x 0=b.getD x 0):a=b:=by
 refine wW hl fun x h1 h2=> ?_;have:=h x h1;rwa [fH h1,fH h2] at this
theorem G2 {d:Da} (h:d.Ok) {q:Nat} (hq:q<d.n):(d.N.getD q []).length=d.L:=by
 have dz:q<d.N.length:=by rw[h.nN];exact hq
 rw[fH dz];exact (h.row _ (ff dz)).1
theorem Canon.eq {d d':Da} {K:List Nat→Bool} {L:Nat} (h:d.Canon L K) (h':d'.Canon L K):d=d':=by
 have e:=h.hL;have e':=h'.hL;have hl:=h.ok.l1;rw[e] at hl;have hn:d.n=d'.n:=by
  rcases Nat.lt_trichotomy d.n d'.n with c|c|c
  ·obtain ⟨s1,_,_⟩:=VO h h' (d.n*L) (az _) (eM _ (by omega));have a:=h.num.all;have b:=h'.num.row d.n c;rw[e] at a;rw[e'] at b;omega
  ·exact c
  ·obtain ⟨s1,_,_⟩:=VO h h' (d'.n*L) (eM _ (by omega)) (az _);have a:=h'.num.all;have b:=h.num.row d'.n c;rw[e'] at a;rw[e] at b;omega
 obtain ⟨s1,s2,s3⟩:=VO h h' (d.n*L) (az _) (by rw[hn];exact az _);have a:=h.num.all;rw[e] at a;have hE: ∀q,q<d.n→d.rE q d' q:=fun q hq=>s3 q (by omega);have hP: ∀q x,q<d.n→x<L→d.nx q x=d'.nx q x:=fun q x hq hx=>by
  have:=s2 (q*L+x) (by
   have:(q+1)*L≤d.n*L:=eM _ (by omega);rw[kq] at this;omega)
  unfold pos at this;rw[e,e'] at this;rwa [show (q*L+x)/L=q by rw[mo,D9 (by omega),Ea hx];rfl,show (q*L+x) %L=x by rw[mo,Nat.mul_add_mod,D8 hx]] at this
 have hF:d.F=d'.F:=by
  refine wW hn fun q h1 h2=> ?_;have:=hE q h1 [] WL.nil;rw[rF,rF] at this;unfold fin at this;rwa [fH h1,fH h2] at this
 have hN:d.N=d'.N:=by
  refine wW (by rw[h.ok.nN,h'.ok.nN,hn]) fun q h1 h2=> ?_;have hq:q<d.n:=by rw[←h.ok.nN];exact h1
  have r1:=G2 h.ok hq;have r2:=G2 h'.ok (show q<d'.n by omega);have hx:=fun x hx=>hP q x hq hx;unfold nx at hx;rw[fH h1] at r1 hx;rw[fH h2] at r2 hx;exact aem (by omega) fun x h3=>hx x (by omega)
 obtain ⟨L1,s1,F1,N1⟩:=d;obtain ⟨L2,s2,F2,N2⟩:=d';have q1:=h.st;have q2:=h'.st;simp only at*
 subst hF hN e e' q1 q2;rfl
end Da
section
variable {α:Type} [DecidableEq α]
def dj (S:List α) (a:α):List α:=if a∈S then S else S++[a]
def aJ (next:α→Nat→α) (S:List α) (a:α):Nat→List α
 | 0=>S
 | x+1=>dj (aJ next S a x) (next a x)
def aj (L:Nat) (next:α→Nat→α) (a0:α):Nat→List α
 | 0=>[a0]
 | i+1=>match (aj L next a0 i)[i]? with
  | some a=>aJ next (aj L next a0 i) a L
  | none=>aj L next a0 i
theorem NN (S:List α) (a:α):S <+: dj S a:=by
 unfold dj;split
 ·exact lG _
 ·exact List.prefix_append _ _
theorem uA {S:List α} {a:α}:a∈dj S a:=by
 unfold dj;split
 ·assumption
 ·simp
theorem aen {S:List α} {a:α} (h:S.Nodup):(dj S a).Nodup:=by
 unfold dj;split
 ·exact h
 ·rename_i h2;refine Ko.2 ⟨h,by simp,fun x hx y hy e=> ?_⟩;rw[jF.1 hy] at e;exact h2 (e▸hx)
theorem qz {S:List α} {a:α}:(dj S a).length=if a∈S then S.length else S.length+1:=by
 unfold dj;split<;>simp
variable {L:Nat} {next:α→Nat→α} {a0:α}
theorem G3 (S:List α) (a:α): ∀x,S <+: aJ next S a x
 | 0=>lG _
 | x+1=>(G3 S a x).trans (NN _ _)
theorem rH (S:List α) (a:α) {x y:Nat} (h:x≤y):aJ next S a x <+: aJ next S a y:=by
 induction y with
 | zero=>rw[tA.1 h];exact lG _
 | succ y ih=>
  rcases fI x (y+1) with c|c
  ·exact (ih (by omega)).trans (NN _ _)
  ·rw[show x=y+1 by omega];exact lG _
theorem aeo {S:List α} {a:α} (h:S.Nodup): ∀x,(aJ next S a x).Nodup
 | 0=>h
 | x+1=>aen (aeo h x)
theorem aoh {S:List α} {a:α} {x y:Nat} (h:x<y):next a x∈aJ next S a y:=
 (rH S a (show x+1≤y by omega)).subset uA
theorem G4 {i:Nat} {a:α} (h:(aj L next a0 i)[i]? =some a):aj L next a0 (i+1)=aJ next (aj L next a0 i) a L:=by
 rw[aj,h]
theorem aoi {i:Nat} (h:(aj L next a0 i).length≤i):aj L next a0 (i+1)=aj L next a0 i:=by
 rw[aj,Bq h]
theorem aep (i:Nat):aj L next a0 i <+: aj L next a0 (i+1):=by
 rw[aj];split
 ·exact G3 _ _ _
 ·exact lG _
theorem lq {i j:Nat} (h:i≤j):aj L next a0 i <+: aj L next a0 j:=by
 induction j with
 | zero=>rw[tA.1 h];exact lG _
 | succ j ih=>
  rcases fI i (j+1) with c|c
  ·exact (ih (by omega)).trans (aep j)
  ·rw[show i=j+1 by omega];exact lG _
theorem Ah: ∀i,(aj L next a0 i).Nodup
 | 0=>by simp[aj]
 | i+1=>by
  rw[aj];split
  ·exact aeo (Ah i) _
  ·exact Ah i
theorem G5 {i j:Nat} (h:(aj L next a0 i).length≤i) (hj:i≤j):aj L next a0 j=aj L next a0 i:=by
 induction j with
 | zero=>rw[tA.1 hj]
 | succ j ih=>
  rcases fI i (j+1) with c|c
  ·rw[aoi (by rw[ih (by omega)];omega),ih (by omega)]
  ·rw[show i=j+1 by omega]
theorem aeq (i:Nat):(aj L next a0 i)[0]? =some a0:=by
 have h:=lq (L:=L) (next:=next) (a0:=a0) (nK i);have h0:0<(aj L next a0 0).length:=by simp[aj]
 rw[cp (gC h0 h.length_le),←h.getElem h0];rfl
theorem G6 (i:Nat):0<(aj L next a0 i).length:=gC (by simp[aj]) (lq (L:=L) (next:=next) (a0:=a0) (nK i)).length_le
theorem G7: ∀i,∀a∈aj L next a0 i,∃w,WL L w∧a=w.foldl next a0
 | 0,a,h=>⟨[],WL.nil,by simpa[aj] using h⟩
 | i+1,a,h=>by
  rw[aj] at h;split at h
  ·rename_i b hb;have aA:b∈aj L next a0 i:=mU hb
   obtain ⟨w,hw,rfl⟩:=G7 i b aA;have: ∀x,x≤L→∀a∈aJ next (aj L next a0 i) (w.foldl next a0) x,∃w,WL L w∧a=w.foldl next a0:=by
    intro x
    induction x with
    | zero=>intro _ a h;exact G7 i a h
    | succ x ih=>
     intro hx a h;rw[aJ] at h;unfold dj at h;split at h
     ·exact ih (by omega) a h
     ·rcases eW.1 h with h|h
      ·exact ih (by omega) a h
      ·refine ⟨w++[x],WL.app.2 ⟨hw,WL.nil.cons (by omega)⟩,?_⟩;rw[jF.1 h,Ks];rfl
   exact this L (az _) a h
  ·exact G7 i a h
section
variable {k:Nat} (hd:(aj L next a0 k).length≤k)
include hd
theorem xS {i:Nat} (h:i<(aj L next a0 k).length):i<(aj L next a0 i).length:=by
 rcases fI i (aj L next a0 i).length with c|c
 ·exact c
 ·have:=G5 c (show i≤k by omega);rw[this] at h;omega
theorem aoj {i:Nat} (h:i<(aj L next a0 k).length):(aj L next a0 i)[i]? =some (aj L next a0 k)[i]:=by
 have h1:=xS hd h;rw[cp h1,(lq (show i≤k by omega)).getElem h1]
theorem Ai {i:Nat} (h:i<(aj L next a0 k).length):aj L next a0 (i+1)=aJ next (aj L next a0 i) (aj L next a0 k)[i] L:=G4 (aoj hd h)
theorem VP {a:α} (h:a∈aj L next a0 k) {x:Nat} (hx:x<L):next a x∈aj L next a0 k:=by
 obtain ⟨i,hi,rfl⟩:=Ej h;have h1:next (aj L next a0 k)[i] x∈aj L next a0 (i+1):=by rw[Ai hd hi];exact aoh hx
 rcases fI i k with c|c
 ·exact (lq (show i+1≤k by omega)).subset h1
 ·omega
end
def gV (L:Nat) (next:α→Nat→α) (fin:α→Bool) (S:List α):Da where
 L:=L
 st:=0
 F:=S.map fin
 N:=S.map fun a=>(List.range L).map fun x=>S.idxOf (next a x)
theorem np {fin:α→Bool} {S:List α}:(gV L next fin S).n=S.length:=by simp[gV,Da.n]
theorem we {fin:α→Bool} {S:List α} {i x:Nat} (hi:i<S.length) (hx:x<L):(gV L next fin S).nx i x=S.idxOf (next S[i] x):=by
 unfold Da.nx gV;simp[wV,hi,hx]
theorem Aj {fin:α→Bool} {S:List α} {i:Nat} (hi:i<S.length):(gV L next fin S).fin i=fin S[i]:=by
 unfold Da.fin gV;simp[wV,hi]
theorem uB {S T:List α} (hp:T <+: S) {a:α} (h:a∈T):S.idxOf a=T.idxOf a:=by
 obtain ⟨U,rfl⟩:=hp;rw[yN,ah h]
section
variable {k:Nat} (hd:(aj L next a0 k).length≤k) {fin:α→Bool}
include hd
theorem aok {i x:Nat} (hi:i<(aj L next a0 k).length) (hx:x<L): ∃h:(gV L next fin (aj L next a0 k)).nx i x<(aj L next a0 k).length,(aj L next a0 k)[(gV L next fin (aj L next a0 k)).nx i x]=next (aj L next a0 k)[i] x:=by
 have hm:=VP hd (ff hi) hx;rw[we hi hx];exact ⟨yO hm,Kt _⟩
theorem aer: ∀(w:List Nat) {i:Nat} (hi:i<(aj L next a0 k).length),WL L w→∃h:(gV L next fin (aj L next a0 k)).run i w<(aj L next a0 k).length,(aj L next a0 k)[(gV L next fin (aj L next a0 k)).run i w]=w.foldl next (aj L next a0 k)[i]
 | [],i,hi,_=>⟨hi,rfl⟩
 | x::w,i,hi,hw=>by
  obtain ⟨h1,h2⟩:=aok (fin:=fin) hd hi hw.head;obtain ⟨h3,h4⟩:=aer w h1 hw.tail;refine ⟨h3,?_⟩;rw[List.foldl_cons,←h2];exact h4
theorem aes {w:List Nat} {i:Nat} (hi:i<(aj L next a0 k).length) (hw:WL L w):(gV L next fin (aj L next a0 k)).acc i w=fin (w.foldl next (aj L next a0 k)[i]):=by
 obtain ⟨h1,h2⟩:=aer (fin:=fin) hd w hi hw;unfold Da.acc;rw[Aj h1,h2]
theorem VQ (h1:1≤L) (h6:L≤6) (hm:(aj L next a0 k).length≤512):(gV L next fin (aj L next a0 k)).Ok where
 l1:=h1
 l6:=h6
 nN:=by rw[np];simp[gV]
 row r hr:=by
  rw[np];obtain ⟨a,ha,rfl⟩:=j5.1 (show r∈(aj L next a0 k).map _ from hr);refine ⟨by simp[gV],fun q hq=> ?_⟩;obtain ⟨x,hx,rfl⟩:=j5.1 hq;exact yO (VP hd ha (jG.1 hx))
 s:=by rw[np];exact G6 k
 cU:=by rw[np];exact hm
theorem VR (h1:1≤L): ∀i,i≤(aj L next a0 k).length→(gV L next fin (aj L next a0 k)).mt (i*L)=(aj L next a0 i).length∧∀(hi:i<(aj L next a0 k).length) x,x≤L→(gV L next fin (aj L next a0 k)).mt (i*L+x)=(aJ next (aj L next a0 i) (aj L next a0 k)[i] x).length:=by
 have key: ∀i,(gV L next fin (aj L next a0 k)).mt (i*L)=(aj L next a0 i).length→∀(hi:i<(aj L next a0 k).length) x,x≤L→(gV L next fin (aj L next a0 k)).mt (i*L+x)=(aJ next (aj L next a0 i) (aj L next a0 k)[i] x).length:=by
  intro i h hi x
  induction x with
  | zero=>intro _;exact h
  | succ x ih=>
   intro hx;have ih:=ih (by omega);have hp:aJ next (aj L next a0 i) (aj L next a0 k)[i] (x+1) <+: aj L next a0 k:=by
    refine (rH _ _ hx).trans ?_;rw[←Ai hd hi];exact lq (by omega)
   have hp0:aJ next (aj L next a0 i) (aj L next a0 k)[i] x <+: aj L next a0 k:=(rH _ _ (by omega)).trans hp
   have kF:(gV L next fin (aj L next a0 k)).pos (i*L+x)=(aj L next a0 k).idxOf (next (aj L next a0 k)[i] x):=by
    unfold Da.pos;rw[show (gV L next fin (aj L next a0 k)).L=L from rfl,show (i*L+x)/L=i by rw[mo,D9 (by omega),Ea (by omega)];rfl,show (i*L+x) %L=x by rw[mo,Nat.mul_add_mod,D8 (by omega)],we hi (by omega)]
   show (gV L next fin (aj L next a0 k)).mt ((i*L+x)+1)=_;rw[Da.mt,kF,ih,aJ];rw[aJ] at hp;generalize aJ next (aj L next a0 i) (aj L next a0 k)[i] x=T at*
   generalize next (aj L next a0 k)[i] x=b at*
   rw[qz];by_cases hb:b∈T
   ·rw[ah hb,uB hp0 hb,ag (by have:=yO hb;omega)]
   ·rw[ag hb];unfold dj at hp;rw[ag hb] at hp;rw[uB hp (by simp),yN,ag hb];simp
 intro i
 induction i with
 | zero=>
  intro _;have:(gV L next fin (aj L next a0 k)).mt (0*L)=(aj L next a0 0).length:=by rw[Nat.zero_mul];rfl
  exact ⟨this,key 0 this⟩
 | succ i ih=>
  intro hi;obtain ⟨_,h3⟩:=ih (by omega);have h4:=h3 (by omega) L (az _);rw[←Ai hd (by omega),←yD] at h4;exact ⟨h4,key (i+1) h4⟩
theorem Ak:(aj L next a0 (aj L next a0 k).length)=aj L next a0 k:=by
 have hp:=lq (L:=L) (next:=next) (a0:=a0) hd;exact (G5 hp.length_le hd).symm
theorem aol (h1:1≤L):(gV L next fin (aj L next a0 k)).VM where
 le t ht:=by
  rw[np] at ht;have hq:t/L<(aj L next a0 k).length:=by rw[Nat.div_lt_iff_lt_mul (by omega)];exact ht
  have hx:t %L<L:=Bg _ (by omega);have Lt:t/L*L+t %L=t:=Nat.div_add_mod' t L;have h2:=(VR (fin:=fin) hd h1 (t/L) (by omega)).2 hq (t %L) (by omega);rw[Lt] at h2;rw[h2];unfold Da.pos;rw[show (gV L next fin (aj L next a0 k)).L=L from rfl,we hq hx];have hp:aJ next (aj L next a0 (t/L)) (aj L next a0 k)[t/L] (t %L+1) <+: aj L next a0 k:=by
   refine (rH _ _ (show t %L+1≤L by omega)).trans ?_;rw[←Ai hd hq];exact lq (by omega)
  rw[aJ] at hp;generalize aJ next (aj L next a0 (t/L)) (aj L next a0 k)[t/L] (t %L)=T at*
  generalize next (aj L next a0 k)[t/L] (t %L)=b at*
  rw[uB hp uA];have:=yO (uA (S:=T) (a:=b));rw[qz] at this;split at this<;>omega
 row q hq:=by
  rw[np] at hq;rw[show (gV L next fin (aj L next a0 k)).L=L from rfl,(VR hd h1 q (by omega)).1];exact xS hd hq
 all:=by
  rw[np,show (gV L next fin (aj L next a0 k)).L=L from rfl,(VR hd h1 _ (az _)).1,Ak hd]
end
theorem aet {U:List α} (h0:a0∈U) (hU: ∀a∈U,∀x,x<L→next a x∈U) (k:Nat):aj L next a0 k ⊆ U:=by
 intro a ha;obtain ⟨w,hw,rfl⟩:=G7 k a ha;have: ∀(w:List Nat) (b:α),b∈U→WL L w→w.foldl next b∈U:=by
  intro w
  induction w with
  | nil=>intro b hb _;exact hb
  | cons x w ih=>intro b hb hw;exact ih _ (hU b hb x hw.head) hw.tail
 exact this w a0 h0 hw
theorem VT {U:List α} (h0:a0∈U) (hU: ∀a∈U,∀x,x<L→next a x∈U) (k:Nat):(aj L next a0 k).length≤U.length:=
 List.Nodup.length_le_of_subset (Ah k) (aet h0 hU k)
end
namespace Da
def trim (d:Da):Da:=gV d.L d.nx d.fin (aj d.L d.nx d.st d.n)
theorem Ok.qA {d:Da} (h:d.Ok) (k:Nat):(aj d.L d.nx d.st k).length≤d.n:=by
 have:=VT (L:=d.L) (next:=d.nx) (a0:=d.st) (U:=List.range d.n) (jG.2 h.s) (fun a ha x hx=>jG.2 (h.fN (jG.1 ha) hx)) k;simpa using this
theorem Ok.Al {d:Da} (h:d.Ok) (k:Nat): ∀q∈aj d.L d.nx d.st k,q<d.n:=fun q hq=>by
 have:=aet (L:=d.L) (next:=d.nx) (a0:=d.st) (U:=List.range d.n) (jG.2 h.s) (fun a ha x hx=>jG.2 (h.fN (jG.1 ha) hx)) k hq;exact jG.1 this
theorem Ok.aeu {d:Da} (h:d.Ok):d.trim.Ok:=VQ (h.qA _) h.l1 h.l6 (kR (h.qA _) h.cU)
theorem Ok.VU {d:Da} (h:d.Ok) {i:Nat} (hi:i<(aj d.L d.nx d.st d.n).length) {w:List Nat} (hw:WL d.L w):d.trim.acc i w=d.acc (aj d.L d.nx d.st d.n)[i] w:=aes (h.qA _) hi hw
theorem Ok.aev {d:Da} (h:d.Ok) {w:List Nat} (hw:WL d.L w):d.trim.acc 0 w=d.acc d.st w:=by
 rw[h.VU (G6 _) hw];have:=aeq (L:=d.L) (next:=d.nx) (a0:=d.st) d.n;rw[cp (G6 _)] at this;rw[eo this]
theorem Ok.aom {d:Da} (h:d.Ok) (hr: ∀p q,p<d.n→q<d.n→d.rE p d q→p=q):d.trim.Canon d.L (d.acc d.st) where
 ok:=h.aeu
 hL:=rfl
 st:=rfl
 num:=aol (h.qA _) h.l1
 red p q hp hq he:=by
  unfold trim at hp hq;rw[np] at hp hq;have h1:d.rE (aj d.L d.nx d.st d.n)[p] d (aj d.L d.nx d.st d.n)[q]:=fun w hw=>by
   rw[←h.VU hp hw,←h.VU hq hw];exact he w hw
  have h2:=hr _ _ (h.Al _ _ (ff hp)) (h.Al _ _ (ff hq)) h1;rw[←List.Nodup.idxOf_getElem (Ah _) p hp,←List.Nodup.idxOf_getElem (Ah _) q hq,h2]
 rG w hw:=h.aev hw
end Da
end Go.AM
set_option maxRecDepth 100000
namespace Go.AM
open Go.IntKind (wrap)
open Go.Proofs
def G8 (C:ae) (qB:Int) (t38:LV) (t39 t40:Int) (t49:LV) (t50 aP aT:Int) (bL bH:LV) (t51:Int) {β:Type} (kn:Int→Option β) (kr:((Int) ⊕ (Int×Bool))→Option β):Option β:=
 bif decide (t51<t50) then
  (idx t49 t51).bind fun x2=>
  bif decide ((x2.toInt:Int)<0) then
  kr (.inl 4)
  else
  bif decide ((x2.toInt:Int)≥qB) then
   kr (.inl 4)
  else
   kn (wrap .i64 (t51+1))
 else
  kr (.inr (t51,decide (t51<t50)))
def NO (C:ae) (qB:Int) (t38:LV) (t39 t40:Int) (t49:LV) (t50 aP aT:Int) (bL bH:LV):=fun t51=>G8 C qB t38 t39 t40 t49 t50 aP aT bL bH t51 (fun y=>some (Sum.inl y)) (fun r=>some (Sum.inr r))
def G9 (C:ae) (qB:Int) (t38:LV) (t39 aP aT:Int) (bL bH:LV) (t40:Int) {β:Type} (kn:Int→Option β) (kr:((Int) ⊕ (Int×Bool))→Option β):Option β:=
 bif decide (t40<t39) then
  (idx t38 t40).bind fun x1=>
  bif (x1.toList.length:Int) != aP then
  kr (.inl 4)
  else
  (Loop (NO C qB t38 t39 t40 x1.toList (x1.toList.length:Int) aP aT bL bH) 0).bind (bN (fun lr=>
   kr (.inl lr)) (un fun (kK:Int) (og:Bool)=>
   kn (wrap .i64 (t40+1))))
 else
  kr (.inr (t40,decide (t40<t39)))
def NQ (C:ae) (qB:Int) (t38:LV) (t39 aP aT:Int) (bL bH:LV):=fun t40=>G9 C qB t38 t39 aP aT bL bH t40 (fun y=>some (Sum.inl y)) (fun r=>some (Sum.inr r))
def aew (C:ae):cE:=bG 225 UF [EQ,EQ,EQ,EQ,EQ,EQ,H1,EQ,EQ,EQ,EQ] [[0],[1,2,3,4,5,6,0,0,8,9,10,11]] (@G8 C) (bG 145 UG [EQ,EQ,EQ,H1,EQ,EQ,EQ,EQ] [[0],[1,2,3,0,0,5,6,7,8]] (@G9 C) bm)
theorem aon (C:ae):aW C (aew C) 73 (Lp [1,1,1,1,1,0,1,0,0,1,1,0,0,1,1,1,0,0] 73):=bE UF [EQ,EQ,EQ,EQ,EQ,EQ,H1,EQ,EQ,EQ,EQ] [[0],[1,2,3,4,5,6,0,0,8,9,10,11]] (@G8 C) (aG an)
theorem aoo (C:ae):aW C (aew C) 73 (Lp [1,1,1,1,1,0,1,0,0] 73):=bE UG [EQ,EQ,EQ,H1,EQ,EQ,EQ,EQ] [[0],[1,2,3,0,0,5,6,7,8]] (@G9 C) (aG (aU (aon C) an))
def aex (C:ae) (bO bP:Int) (bw bY:LV):Option LV:=
 bif decide (bO<1) then
  some [V.int .i64 1]
 else
  bif decide (bO>6) then
  some [V.int .i64 1]
  else
  bif decide ((bw.length:Int)>512) then
   some [V.int .i64 3]
  else
   bif (bY.length:Int) != (bw.length:Int) then
   some [V.int .i64 4]
   else
   bif decide (bP<0) then
    some [V.int .i64 4]
   else
    bif decide (bP≥(bw.length:Int)) then
    some [V.int .i64 4]
    else
    (Loop (NQ C (bw.length:Int) bY (bY.length:Int) bO bP bw bY) 0).bind (bN (fun qC=>
     some [V.int .i64 qC]) (un fun (kL:Int) (oh:Bool)=>
     some [V.int .i64 0]))
theorem aop {bO bP:Int} {bw bY:LV} {r:Option LV} (h:aex CC bO bP bw bY=r):CC rA [V.int .i64 bO,V.int .i64 bP,.list ao bw,.list ar bY]=r:=bj (aU (aoo CC) an) h
def Ha (C:ae) (n:Int) (t38:LV) (t39 t40:Int) (t49:LV) (t50 aP aT:Int) (bL bH:LV) (t51:Int) {β:Type} (kn:Int→Option β) (kr:((Int) ⊕ (Int×Bool))→Option β):Option β:=
 bif decide (t51<t50) then
  (idx t49 t51).bind fun x3=>
  bif decide ((x3.toInt:Int)<0) then
  kr (.inl 4)
  else
  bif decide ((x3.toInt:Int)≥n) then
   kr (.inl 4)
  else
   kn (wrap .i64 (t51+1))
 else
  kr (.inr (t51,decide (t51<t50)))
def NR (C:ae) (n:Int) (t38:LV) (t39 t40:Int) (t49:LV) (t50 aP aT:Int) (bL bH:LV):=fun t51=>Ha C n t38 t39 t40 t49 t50 aP aT bL bH t51 (fun y=>some (Sum.inl y)) (fun r=>some (Sum.inr r))
def Hb (C:ae) (n:Int) (t38:LV) (t39 aP aT:Int) (bL bH:LV) (t40:Int) {β:Type} (kn:Int→Option β) (kr:((Int) ⊕ (Int×Bool))→Option β):Option β:=
 bif decide (t40<t39) then
  (idx t38 t40).bind fun x2=>
  bif (x2.toList.length:Int) != aP then
  kr (.inl 4)
  else
  (Loop (NR C n t38 t39 t40 x2.toList (x2.toList.length:Int) aP aT bL bH) 0).bind (bN (fun kK=>
   kr (.inl kK)) (un fun (og:Int) (qC:Bool)=>
   kn (wrap .i64 (t40+1))))
 else
  kr (.inr (t40,decide (t40<t39)))
def NS (C:ae) (n:Int) (t38:LV) (t39 aP aT:Int) (bL bH:LV):=fun t40=>Hb C n t38 t39 aP aT bL bH t40 (fun y=>some (Sum.inl y)) (fun r=>some (Sum.inr r))
def aey (C:ae):cE:=bG 225 Uw [EQ,EQ,EQ,EQ,EQ,EQ,H1,EQ,EQ,EQ,EQ] [[0],[1,2,3,4,5,6,0,0,8,9,10,11]] (@Ha C) (bG 145 Ux [EQ,EQ,EQ,H1,EQ,EQ,EQ,EQ] [[0],[1,2,3,0,0,5,6,7,8]] (@Hb C) bm)
theorem aoq (C:ae):aW C (aey C) 59 (Lp [1,1,1,1,1,0,1,0,0,1,1,0,0,1,1,1,0,0] 59):=bE Uw [EQ,EQ,EQ,EQ,EQ,EQ,H1,EQ,EQ,EQ,EQ] [[0],[1,2,3,4,5,6,0,0,8,9,10,11]] (@Ha C) (aG an)
theorem aor (C:ae):aW C (aey C) 59 (Lp [1,1,1,1,1,0,1,0,0] 59):=bE Ux [EQ,EQ,EQ,H1,EQ,EQ,EQ,EQ] [[0],[1,2,3,0,0,5,6,7,8]] (@Hb C) (aG (aU (aoq C) an))
def aez (C:ae) (bO bP:Int) (bw bY:LV):Option LV:=
 (C zW [V.int .i64 bO]).bind fun r1=>
 bif !((V.nth r1 0).toBool) then
  some [V.int .i64 1]
 else
  bif decide ((bw.length:Int)>512) then
  some [V.int .i64 3]
  else
  bif (bw.length:Int)==0 then
   some [V.int .i64 4]
  else
   bif (bY.length:Int) != (bw.length:Int) then
   some [V.int .i64 4]
   else
   bif decide (bP<0) then
    some [V.int .i64 4]
   else
    bif decide (bP≥(bw.length:Int)) then
    some [V.int .i64 4]
    else
    (Loop (NS C (bw.length:Int) bY (bY.length:Int) bO bP bw bY) 0).bind (bN (fun kL=>
     some [V.int .i64 kL]) (un fun (oh:Int) (rI:Bool)=>
     some [V.int .i64 0]))
theorem aos {bO bP:Int} {bw bY:LV} {r:Option LV} (h:aez CC bO bP bw bY=r):CC Gg [V.int .i64 bO,V.int .i64 bP,.list ao bw,.list ar bY]=r:=bj (aU (aor CC) an) h
def aeA (C:ae) (ay:Int):Option LV:=
 bif decide (ay≥1) then
  some [.bool (decide (ay≤6))]
 else
  some [.bool false]
theorem aeB {ay:Int} {r:Option LV} (h:aeA CC ay=r):CC zW [V.int .i64 ay]=r:=bj (L:=bm) an h
theorem aeC (n:Int):CC zW [.int .i64 n]=some [.bool (decide (1≤n∧n≤6))]:=by
 refine aeB ?_;unfold aeA;rw[aM];split
 ·refine congrArg (fun b=>some [V.bool b]) ?_;rw[Br];omega
 ·have: ¬(1≤n∧n≤6):=by omega
  simp[this]
abbrev iV (n:Int):V:= .int .i64 n
def qD (r:List Int):V:= .list aF (r.map iV)
@[simp] theorem aeD (r:List Int):(qD r).toList=r.map iV:=by simp[qD]
structure Df where
 L:Int
 st:Int
 F:List Bool
 N:List (List Int)
def CL (d:Df) (l:List V):List V:= .int .i64 d.L:: .int .i64 d.st:: .list ao (d.F.map V.bool):: .list ar (d.N.map qD)::l
namespace Df
structure Ok (d:Df):Prop where
 L1: -9223372036854775808≤d.L
 L2:d.L≤9223372036854775807
 s1: -9223372036854775808≤d.st
 s2:d.st≤9223372036854775807
 F:d.F.length≤maxLen
 N:d.N.length≤maxLen
 row: ∀r∈d.N,r.length≤maxLen∧∀q∈r,-9223372036854775808≤q∧q≤9223372036854775807
def lu (d:Df) (r:List Int) (i:Nat):Prop:=0≤r.getD i 0∧r.getD i 0<d.F.length
instance (d:Df) (r:List Int):DecidablePred (d.lu r):=fun i=>by unfold lu;infer_instance
def pL (d:Df) (q:Nat):Prop:=((d.N.getD q []).length:Int)=d.L∧∀i,i<(d.N.getD q []).length→d.lu (d.N.getD q []) i
instance (d:Df):DecidablePred d.pL:=fun i=>by unfold pL;infer_instance
def val (d:Df):Int:=
 if d.L<1∨6<d.L then 1
 else if 512<d.F.length then 3
 else if d.N.length≠d.F.length∨d.st<0∨(d.F.length:Int)≤d.st then 4
 else if∀q,q<d.N.length→d.pL q then 0 else 4
end Df
theorem Hc {α:Type} {f:α→V} {l:List α} {i:Nat} {z:α} (h:i<l.length):idx (l.map f) (i:Int)=some (f (l.getD i z)):=by
 rw[ab7 rfl h];simp[h]
section
variable {d:Df} (hd:d.Ok)
include hd
theorem aeE {q:Nat} (h:q<d.N.length):(d.N.getD q []).length≤maxLen:=by
 rw[show d.N.getD q []=d.N[q] by simp[h]];exact (hd.row _ (ff h)).1
theorem aot {q:Nat} (hq:q<d.N.length) {t38:List V} {t39:Int} {a b:Int} {l1 l2:List V}:
  Loop (NO CC (d.F.length:Int) t38 t39 (q:Int) ((d.N.getD q []).map iV) (((d.N.getD q []).map iV).length:Int) a b l1 l2) 0=
   some (if∀i,i<(d.N.getD q []).length→d.lu (d.N.getD q []) i then .inr (((d.N.getD q []).length:Int),false) else .inl 4):=by
 have hl:=aeE hd hq;have hm:=xR;generalize d.N.getD q []=r at*
 refine Ag (d.lu r) r.length (fun i=>(i:Int)) (.inl 4:Int ⊕ (Int×Bool)) (.inr ((r.length:Int),false)) (fun i hi=> ?_) ?_
 ·simp only[NO,G8,cH,aM];rw[bp,Hc (z:=0) hi];simp only[Option.bind_some,V.toInt_int];by_cases h1:r.getD i 0<0
  ·rw[ah h1,ag (show¬d.lu r i from fun h=>by unfold Df.lu at h;omega)]
  ·rw[ag h1];by_cases h2:r.getD i 0≥(d.F.length:Int)
   ·rw[ah h2,ag (show¬d.lu r i from fun h=>by unfold Df.lu at h;omega)]
   ·rw[ag h2,ah (show d.lu r i from ⟨by omega,by omega⟩),dM];rfl
 ·simp only[NO,G8,cH,aM];rw[cf,yQ]
theorem aou {a b:Int} {l1 l2:List V}:
  Loop (NQ CC (d.F.length:Int) (d.N.map qD) ((d.N.map qD).length:Int) d.L b l1 l2) 0=
   some (if∀q,q<d.N.length→d.pL q then .inr ((d.N.length:Int),false) else .inl 4):=by
 have hm:=xR;have hN:=hd.N;refine Ag d.pL d.N.length (fun i=>(i:Int)) (.inl 4:Int ⊕ (Int×Bool)) (.inr ((d.N.length:Int),false)) (fun q hq=> ?_) ?_
 ·simp only[NQ,G9,cH,aM];rw[bp,Hc (z:=[]) hq];simp only[Option.bind_some,aeD,cH,uo];have:=aot hd hq (t38:=d.N.map qD) (t39:=(d.N.length:Int)) (a:=d.L) (b:=b) (l1:=l1) (l2:=l2);rw[cH] at this;by_cases h1:((d.N.getD q []).length:Int)=d.L
  ·rw[ah h1];refine bs this ?_;by_cases h2: ∀i,i<(d.N.getD q []).length→d.lu (d.N.getD q []) i
   ·rw[ah h2,ah (show d.pL q from ⟨h1,h2⟩)];simp only[bN,un];rw[dM];rfl
   ·rw[ag h2,ag (show¬d.pL q from fun h=>h2 h.2)];rfl
  ·rw[ag h1,ag (show¬d.pL q from fun h=>h1 h.1)]
 ·simp only[NQ,G9,cH,aM];rw[cf,yQ]
theorem aov:CC rA (CL d [])=some [.int .i64 d.val]:=by
 refine aop ?_;unfold aex Df.val;simp only[cH,aM,uo];have h:=aou hd (a:=0) (b:=d.st) (l1:=d.F.map V.bool) (l2:=d.N.map qD);rw[cH] at h;by_cases h1:d.L<1
 ·rw[ah h1,ah (.inl h1)]
 rw[ag h1];by_cases h2:d.L>6
 ·rw[ah h2,ah (.inr h2)]
 rw[ag h2,ag (show¬(d.L<1∨6<d.L) by omega)];by_cases h3:512<d.F.length
 ·rw[ah (show (d.F.length:Int)>512 by omega),ah h3]
 rw[ag (show¬(d.F.length:Int)>512 by omega),ag h3];by_cases h4:d.N.length=d.F.length
 ·rw[ah (show (d.N.length:Int)=(d.F.length:Int) by omega)];by_cases h5:d.st<0
  ·rw[ah h5,ah (.inr (.inl h5))]
  rw[ag h5];by_cases h6:d.st≥(d.F.length:Int)
  ·rw[ah h6,ah (.inr (.inr h6))]
  rw[ag h6,ag (show¬(d.N.length≠d.F.length∨d.st<0∨(d.F.length:Int)≤d.st) by omega)];refine bs h ?_;split<;>rfl
 ·rw[ag (show¬(d.N.length:Int)=(d.F.length:Int) by omega),ah (.inl h4)]
theorem aow {q:Nat} (hq:q<d.N.length) {t38:List V} {t39:Int} {a b:Int} {l1 l2:List V}:
  Loop (NR CC (d.F.length:Int) t38 t39 (q:Int) ((d.N.getD q []).map iV) (((d.N.getD q []).map iV).length:Int) a b l1 l2) 0=
   some (if∀i,i<(d.N.getD q []).length→d.lu (d.N.getD q []) i then .inr (((d.N.getD q []).length:Int),false) else .inl 4):=by
 have hl:=aeE hd hq;have hm:=xR;generalize d.N.getD q []=r at*
 refine Ag (d.lu r) r.length (fun i=>(i:Int)) (.inl 4:Int ⊕ (Int×Bool)) (.inr ((r.length:Int),false)) (fun i hi=> ?_) ?_
 ·simp only[NR,Ha,cH,aM];rw[bp,Hc (z:=0) hi];simp only[Option.bind_some,V.toInt_int];by_cases h1:r.getD i 0<0
  ·rw[ah h1,ag (show¬d.lu r i from fun h=>by unfold Df.lu at h;omega)]
  ·rw[ag h1];by_cases h2:r.getD i 0≥(d.F.length:Int)
   ·rw[ah h2,ag (show¬d.lu r i from fun h=>by unfold Df.lu at h;omega)]
   ·rw[ag h2,ah (show d.lu r i from ⟨by omega,by omega⟩),dM];rfl
 ·simp only[NR,Ha,cH,aM];rw[cf,yQ]
theorem aox {b:Int} {l1 l2:List V}:
  Loop (NS CC (d.F.length:Int) (d.N.map qD) ((d.N.map qD).length:Int) d.L b l1 l2) 0=
   some (if∀q,q<d.N.length→d.pL q then .inr ((d.N.length:Int),false) else .inl 4):=by
 have hm:=xR;have hN:=hd.N;refine Ag d.pL d.N.length (fun i=>(i:Int)) (.inl 4:Int ⊕ (Int×Bool)) (.inr ((d.N.length:Int),false)) (fun q hq=> ?_) ?_
 ·simp only[NS,Hb,cH,aM];rw[bp,Hc (z:=[]) hq];simp only[Option.bind_some,aeD,cH,uo];have:=aow hd hq (t38:=d.N.map qD) (t39:=(d.N.length:Int)) (a:=d.L) (b:=b) (l1:=l1) (l2:=l2);rw[cH] at this;by_cases h1:((d.N.getD q []).length:Int)=d.L
  ·rw[ah h1];refine bs this ?_;by_cases h2: ∀i,i<(d.N.getD q []).length→d.lu (d.N.getD q []) i
   ·rw[ah h2,ah (show d.pL q from ⟨h1,h2⟩)];simp only[bN,un];rw[dM];rfl
   ·rw[ag h2,ag (show¬d.pL q from fun h=>h2 h.2)];rfl
  ·rw[ag h1,ag (show¬d.pL q from fun h=>h1 h.1)]
 ·simp only[NS,Hb,cH,aM];rw[cf,yQ]
theorem aeF:CC Gg (CL d [])=some [.int .i64 d.val]:=by
 refine aos ?_;unfold aez Df.val;refine bs (aeC d.L) ?_;simp only[cH,aM,uo,ry,V.ct,V.mE,jO];have h:=aox hd (b:=d.st) (l1:=d.F.map V.bool) (l2:=d.N.map qD);rw[cH] at h;by_cases h1:d.L<1∨6<d.L
 ·rw[ah h1,ag (show¬(1≤d.L∧d.L≤6) by omega)]
 rw[ag h1,ah (show 1≤d.L∧d.L≤6 by omega)];by_cases h3:512<d.F.length
 ·rw[ah (show (d.F.length:Int)>512 by omega),ah h3]
 rw[ag (show¬(d.F.length:Int)>512 by omega),ag h3];by_cases h0:d.F.length=0
 ·rw[ah (show (d.F.length:Int)=0 by omega),bp]
 rw[ag (show¬(d.F.length:Int)=0 by omega)];by_cases h4:d.N.length=d.F.length
 ·rw[ah (show (d.N.length:Int)=(d.F.length:Int) by omega)];by_cases h5:d.st<0
  ·rw[ah h5,ah (.inr (.inl h5))]
  rw[ag h5];by_cases h6:d.st≥(d.F.length:Int)
  ·rw[ah h6,ah (.inr (.inr h6))]
  rw[ag h6,ag (show¬(d.N.length≠d.F.length∨d.st<0∨(d.F.length:Int)≤d.st) by omega)];refine bs h ?_;split<;>rfl
 ·rw[ag (show¬(d.N.length:Int)=(d.F.length:Int) by omega),ah (.inl h4)]
end
def uC (r:List Nat):List Int:=r.map fun q:Nat=>(q:Int)
theorem aeG (r:List Nat) (i:Nat):(uC r).getD i 0=((r.getD i 0:Nat):Int):=by
 unfold uC;by_cases h:i<r.length
 ·rw[fH h,fH (by simpa using h)];simp
 ·simp[Bq (Bp h)]
def Da.df (a:Da):Df:=⟨a.L,a.st,a.F,a.N.map uC⟩
theorem Da.Ok.VV {a:Da} (h:a.Ok):a.df.Ok:=by
 have h1:=h.l6;have h2:=h.s;have h3:=h.cU;have h4:=h.nN;unfold Da.n at*
 refine ⟨by simp only[Da.df];omega,by simp only[Da.df];omega,by simp only[Da.df];omega,by simp only[Da.df];omega,by simp only[Da.df];unfold maxLen;omega,by simp only[Da.df,cH];unfold maxLen;omega,fun r hr=> ?_⟩;obtain ⟨r,qt,rfl⟩:=j5.1 hr;have:=h.row r qt;refine ⟨by simp only[uC,cH];unfold maxLen;omega,fun q hq=> ?_⟩;obtain ⟨q,sK,rfl⟩:=j5.1 hq;have:=this.2 q sK;unfold Da.n at this;omega
theorem Da.Ok.val {a:Da} (h:a.Ok):a.df.val=0:=by
 have h0:=h.l1;have h1:=h.l6;have h2:=h.s;have h3:=h.cU;have h4:=h.nN;unfold Da.n at*
 unfold Df.val;rw[ag (by simp only[Da.df];omega),ag (by simp only[Da.df];omega),ag (by simp only[Da.df,cH];omega),ah];intro q hq;simp only[Da.df,cH] at hq;have e:a.df.N.getD q []=uC (a.N.getD q []):=by simp[Da.df,hq]
 have hr:=h.row (a.N.getD q []) (by rw[show a.N.getD q []=a.N[q] by simp[hq]];exact ff hq);unfold Df.pL;rw[e];refine ⟨by simp only[uC,cH,Da.df];omega,fun i hi=> ?_⟩;rw[uC,cH] at hi;have:=hr.2 ((a.N.getD q [])[i]) (ff hi);unfold Df.lu;rw[aeG,fH hi];simp only[Da.df];unfold Da.n at this;omega
def tab {α:Type} (n:Nat) (g:Nat→α):List α:=(List.range n).map g
section
variable {α β:Type} {n i:Nat} {g h:Nat→α}
@[simp] theorem db:(tab n g).length=n:=by simp[tab]
theorem wg (hi:i<n):(tab n g)[i]? =some (g i):=by simp[tab,hi]
theorem xT (hi:i<n) {z:α}:(tab n g).getD i z=g i:=by simp[tab,hi]
theorem VW (hi:i<(tab n g).length):(tab n g)[i]=g i:=by simp[tab]
theorem dR (e: ∀j,j<n→g j=h j):tab n g=tab n h:=sa fun j hj=>e j (jG.1 hj)
theorem nq {v:α}:(tab n g).set i v=tab n fun j=>if j=i then v else g j:=by
 refine wW (by simp) fun j h1 h2=> ?_;rw[List.getElem_set,VW,VW];simp only[eq_comm]
theorem aoy:tab n g++[g n]=tab (n+1) g:=by simp[tab,yP]
theorem gi:tab (n+1) g=tab n g++[g n]:=aoy.symm
theorem Hd:tab 0 g=[]:=rfl
theorem lx {v:α}:List.replicate n v=tab n fun _=>v:=by simp[tab,List.map_const']
theorem aoz {f:α→β}:(tab n g).map f=tab n fun i=>f (g i):=by simp[tab,Function.comp]
theorem aoA (l:List α) (z:α):l=tab l.length fun i=>l.getD i z:=by
 refine wW (by simp) fun j h1 h2=> ?_;rw[VW];simp[h1]
theorem CM (l:List α) (z:α) {f:α→β}:l.map f=tab l.length fun i=>f (l.getD i z):=by
 rw[←aoz,←aoA]
theorem uD {a:α}:a∈tab n g↔∃i,i<n∧g i=a:=by simp[tab]
end
section
variable {γ:Type} {n i:Nat} {g:Nat→V}
theorem nr (hi:i<n):idx (tab n g) (i:Int)=some (g i):=by rw[So rfl,wg hi]
theorem fv (hi:i<n) {K:V→Option γ}:(bif (decide (0≤(i:Int)))&&(decide ((i:Int)<((tab n g).length:Int))) then ((tab n g)[((i:Int)).toNat]?).bind K else none)=K (g i):=by
 rw[Int.toNat_natCast,wg hi,lH.2 ⟨bU (by omega),bU (by rw[db];omega)⟩];rfl
theorem eu {es:List V} {v:V} (hi:es[i]? =some v) {K:V→Option γ}:(bif (decide (0≤(i:Int)))&&(decide ((i:Int)<(es.length:Int))) then (es[((i:Int)).toNat]?).bind K else none)=K v:=by
 have hl:i<es.length:=by
  rcases fI i es.length with h|h
  ·exact h
  ·rw[Bq h] at hi;cases hi
 rw[Int.toNat_natCast,hi,lH.2 ⟨bU (by omega),bU (by omega)⟩];rfl
theorem VX {m:Nat} (hi:i<m):((decide (0≤(i:Int)))&&(decide ((i:Int)<(m:Int))))=true:=lH.2 ⟨bU (by omega),bU (by omega)⟩
end
theorem cap {a b m:Nat} (h:a+b≤10000000) (hm:m≤1000):Nat.ble ((a+b)*m) aX=true:=by
 rw[fp,wc];have:=Nat.mul_le_mul h hm;omega
theorem mG {n m:Nat} (h:n≤10000000) (hm:m≤1000):((decide (0≤(n:Int)))&&((decide ((n:Int)≤(n:Int)))&&(Nat.ble (((n:Int).toNat)*m) aX)))=true:=by
 have h2:=Nat.mul_le_mul h hm;rw[Int.toNat_natCast];refine lH.2 ⟨bU (by omega),lH.2 ⟨bU (by omega),?_⟩⟩;rw[fp,wc];omega
theorem cG {i:Nat} (h:i≤1000000000):wrap .i64 ((i:Int)+1)=((i+1:Nat):Int):=by rw[dM];omega
theorem cO {i n:Nat} (h:i<n):decide ((i:Int)<(n:Int))=true:=bU (by omega)
theorem bt {i n:Nat} (h:n≤i):decide ((i:Int)<(n:Int))=false:=cJ (by omega)
section
variable {X R:Type} {step:X→Option (X ⊕ R)}
theorem eh (n:Nat) (s:Nat→X) (r:R) (h: ∀i,i<n→step (s i)=some (.inl (s (i+1)))) (he:step (s n)=some (.inr r)):Loop step (s 0)=some r:=FV s n h he
theorem uE (P:Nat→X→Prop) (Q:R→Prop): ∀(n k:Nat) (x:X),(∀i,k≤i→i<k+n→∀x,P i x→∃y,step x=some (.inl y)∧P (i+1) y)→(∀x,P (k+n) x→∃r,step x=some (.inr r)∧Q r)→P k x→∃r,Loop step x=some r∧Q r
 | 0,k,x,_,he,hx=>by
  obtain ⟨r,h1,h2⟩:=he x hx;exact ⟨r,di h1,h2⟩
 | n+1,k,x,h,he,hx=>by
  obtain ⟨y,h1,h2⟩:=h k (az _) (by omega) x hx;obtain ⟨r,h3,h4⟩:=uE P Q n (k+1) y (fun i hi hn=>h i (by omega) (by omega)) (by rw[show k+1+n=k+(n+1) by omega];exact he) h2;exact ⟨r,(ga h1).trans h3,h4⟩
end
def aeH (C:ae) (x n:Int):Option LV:=
 bif decide (n<1) then
  some [V.int .i64 0]
 else
  bif !decide (n=0) then
  bif decide (((Int.tmod x n):Int)<0) then
   some [V.int .i64 (wrap .i64 ((Int.tmod x n)+n))]
  else
   some [V.int .i64 (Int.tmod x n)]
  else none
theorem aoB {x n:Int} {r:Option LV} (h:aeH CC x n=r):CC F4 [V.int .i64 x,V.int .i64 n]=r:=bj (L:=bm) an h
def VY (C:ae) (l:LV):Option LV:=
 bif decide ((l.length:Int)>80) then
  bif decide (80≤(l.length:Int)) then
  some [.list aF ((l.drop 0).take (80-0)),V.int .i64 0]
  else none
 else
  some [.list aF l,V.int .i64 0]
theorem aeI {l:LV} {r:Option LV} (h:VY CC l=r):CC Mu [.list aF l]=r:=bj (L:=bm) an h
def VZ (C:ae) (n:Int) (gj:LV) (gk:Int):Option LV:=
 bif decide (gk≥(gj.length:Int)) then
  some [V.int .i64 0,.list aF gj,V.int .i64 gk]
 else
  (idx gj (wrap .i64 ((wrap .i64 (gk+1))-1))).bind fun x1=>
  (C F4 [V.int .i64 x1.toInt,V.int .i64 n]).bind fun r2=>
  some [V.int .i64 ((V.nth r2 0).toInt),.list aF gj,V.int .i64 (wrap .i64 (gk+1))]
theorem aeJ {n:Int} {gj:LV} {gk:Int} {r:Option LV} (h:VZ CC n gj gk=r):CC vV [V.int .i64 n,.list aF gj,V.int .i64 gk]=r:=bj (L:=bm) an h
def CN (C:ae) (ay n i:Int) (t25:Bool) (gj:LV) (gk s7 gs oj om lT mH:Int) (bQ cx:LV) {β:Type} (kr:(Int)→Option β):Option β:=
 bif t25 then
  (C F4 [V.int .i64 oj,V.int .i64 4]).bind fun r3=>
  kr (wrap .i64 (1+((V.nth r3 0).toInt)))
 else
  kr oj
def CO (C:ae) (ay n i:Int) (t33:Bool) (gj:LV) (gk s7 gs oj om lT mH:Int) (bQ cx:LV) {β:Type} (kr:(LV×Int×Int)→Option β):Option β:=
 bif t33 then
  (C vV [V.int .i64 ay,.list aF gj,V.int .i64 gk]).bind fun r5=>
  kr ((V.nth (r5.drop 1) 0).toList,(V.nth ((r5.drop 1).drop 1) 0).toInt,(V.nth r5 0).toInt)
 else
  kr (gj,gk,om)
def CP (C:ae) (ay n i:Int) (t40:Bool) (gj:LV) (gk s7 gs oj om lT mH:Int) (bQ cx:LV) {β:Type} (kr:(LV×Int×Int)→Option β):Option β:=
 bif t40 then
  (C vV [V.int .i64 i,.list aF gj,V.int .i64 gk]).bind fun r9=>
  kr ((V.nth (r9.drop 1) 0).toList,(V.nth ((r9.drop 1).drop 1) 0).toInt,(V.nth r9 0).toInt)
 else
  kr (gj,gk,lT)
def Am (C:ae) (ay n i:Int) (t52:Bool) (gj:LV) (gk s7 gs oj om lT mH:Int) (bQ cx:LV) {β:Type} (kr:(LV×Int×Int)→Option β):Option β:=
 bif t52 then
  (C vV [V.int .i64 i,.list aF gj,V.int .i64 gk]).bind fun qE=>
  kr ((V.nth (qE.drop 1) 0).toList,(V.nth ((qE.drop 1).drop 1) 0).toInt,(V.nth qE 0).toInt)
 else
  kr (gj,gk,mH)
def He (C:ae) (ay n s7 gs:Int) (bC:LV) (i:Int) (gj:LV) (gk:Int) (bQ:LV) {β:Type} (kn:(Int×LV×Int×LV)→Option β) (kr:(Int×Bool×LV×Int×LV)→Option β):Option β:=
 bif decide (i<n) then
  (C vV [V.int .i64 8,.list aF gj,V.int .i64 gk]).bind fun r2=>
  CN C ay n i (i==0) ((V.nth (r2.drop 1) 0).toList) ((V.nth ((r2.drop 1).drop 1) 0).toInt) s7 gs (wrap .i64 (1+((V.nth r2 0).toInt))) 0 0 0 bC bQ (fun rJ=>
   CO C ay n i (rJ==3) ((V.nth (r2.drop 1) 0).toList) ((V.nth ((r2.drop 1).drop 1) 0).toInt) s7 gs rJ 0 0 0 bC bQ (un fun (aoC:LV)=>un fun (aoD:Int) (An:Int)=>
    CP C ay n i (decide (rJ≥5)) aoC aoD s7 gs rJ An 0 0 bC bQ (un fun (aeK:LV)=>un fun (aeL:Int) (CQ:Int)=>
     bif decide (rJ≥5) then
     Am C ay n i (rJ != 8) aeK aeL s7 gs rJ An CQ 0 bC bQ (un fun (aoE:LV)=>un fun (aoF:Int) (aeM:Int)=>
      bif Nat.ble ((bQ.length+([.agg [V.int .i64 rJ,V.int .i64 An,V.int .i64 CQ,V.int .i64 aeM]]:LV).length)*32) aX then
       kn (wrap .i64 (i+1),aoE,aoF,bQ++([.agg [V.int .i64 rJ,V.int .i64 An,V.int .i64 CQ,V.int .i64 aeM]]:LV))
      else none)
     else
     Am C ay n i false aeK aeL s7 gs rJ An CQ 0 bC bQ (un fun (aoG:LV)=>un fun (aoH:Int) (aeN:Int)=>
      bif Nat.ble ((bQ.length+([.agg [V.int .i64 rJ,V.int .i64 An,V.int .i64 CQ,V.int .i64 aeN]]:LV).length)*32) aX then
       kn (wrap .i64 (i+1),aoG,aoH,bQ++([.agg [V.int .i64 rJ,V.int .i64 An,V.int .i64 CQ,V.int .i64 aeN]]:LV))
      else none))))
 else
  kr (i,decide (i<n),gj,gk,bQ)
def NT (C:ae) (ay n s7 gs:Int) (bC:LV):=un fun i=>un fun gj=>un fun gk bQ=>He C ay n s7 gs bC i gj gk bQ (fun y=>some (Sum.inl y)) (fun r=>some (Sum.inr r))
def Hf (C:ae):cE:=gH 415 Tr [[1,2,3,5,6,7,8,0,10,11,12,13,14]] (@CN C) (gH 543 Ts [[1,2,3,0,0,7,8,9,0,11,12,13,14]] (@CO C) (gH 655 Tt [[1,2,3,0,0,7,8,9,10,0,12,13,14]] (@CP C) (gH 847 Tu [[1,2,3,0,0,7,8,9,10,11,0,13,14]] (@Am C) (bG 65 Tv [EQ,EQ,H1,H1,H1,EQ,EQ,EQ,H1] [[1,2,0,0,0,0,6,7,8,0]] (@He C) bm))))
theorem aoI (C:ae):aW C (Hf C) 6 (Cd 25 [1,1,1,0,1,0,0,1,0,0,1,0,1,0] [1,1,1,0,1,0,0,1,0,0,1,0,1,1] 6):=gG Tr [[1,2,3,5,6,7,8,0,10,11,12,13,14]] (@CN C) (aG an) (aG an)
theorem aoJ (C:ae):aW C (Hf C) 6 (Cd 33 [1,1,1,0,1,0,0,1,0,0,1,1,0,1,0] [1,1,1,0,1,0,0,1,0,0,1,1,0,1,1] 6):=gG Ts [[1,2,3,0,0,7,8,9,0,11,12,13,14]] (@CO C) (aG an) (aG an)
theorem aoK (C:ae):aW C (Hf C) 6 (Cd 40 [1,1,1,0,1,0,0,1,0,0,1,1,1,0,1,0] [1,1,1,0,1,0,0,1,0,0,1,1,1,0,1,1] 6):=gG Tt [[1,2,3,0,0,7,8,9,10,0,12,13,14]] (@CP C) (aG an) (aG an)
theorem aoL (C:ae):aW C (Hf C) 6 (Cd 52 [1,1,1,0,1,0,0,1,0,0,1,1,1,1,0,1,0] [1,1,1,0,1,0,0,1,0,0,1,1,1,1,0,1,1] 6):=gG Tu [[1,2,3,0,0,7,8,9,10,11,0,13,14]] (@Am C) (aG an) (aG an)
theorem aoM (C:ae):aW C (Hf C) 6 (Lp [1,1,1,0,1,0,0] 6):=bE Tv [EQ,EQ,H1,H1,H1,EQ,EQ,EQ,H1] [[1,2,0,0,0,0,6,7,8,0]] (@He C) (aG (aU (aoI C) (aU (aoJ C) (aU (aoK C) (aU (aoL C) an)))))
def aeO (C:ae) (ay cU:Int) (gj:LV) (gk:Int):Option LV:=
 (C vV [V.int .i64 cU,.list aF gj,V.int .i64 gk]).bind fun r1=>
 (Loop (NT C ay (wrap .i64 (1+((V.nth r1 0).toInt))) 0 0 ([]:LV)) (0,(V.nth (r1.drop 1) 0).toList,(V.nth ((r1.drop 1).drop 1) 0).toInt,([]:LV))).bind (un fun ay7=>un fun (NU:Bool)=>un fun (aoN:LV)=>un fun (aoO:Int) (Ao:LV)=>
  some [V.int .i64 (wrap .i64 ((wrap .i64 (1+((V.nth r1 0).toInt)))-1)),.list aF aoN,V.int .i64 aoO,.list jy Ao])
theorem aoP {ay cU:Int} {gj:LV} {gk:Int} {r:Option LV} (h:aeO CC ay cU gj gk=r):CC Mv [V.int .i64 ay,V.int .i64 cU,.list aF gj,V.int .i64 gk]=r:=bj (aU (aoM CC) an) h
theorem aeP {x:Int} {n:Nat} (hn:1≤n) (hm:n≤1000000): ∃v:Nat,v<n∧CC F4 [.int .i64 x,.int .i64 (n:Int)]=some [.int .i64 (v:Int)]:=by
 have h1:x %n<n:=Int.emod_lt_of_pos _ (by omega);have h2:0≤x %n:=Int.emod_nonneg _ (by omega);have e:((x %n).toNat:Int)=x %n:=Int.toNat_of_nonneg h2;have h0:Int.tmod x n=x %n∨Int.tmod x n=x %n-n:=by
  rw[Int.tmod_eq_emod];split<;>simp
 refine ⟨(x %n).toNat,by omega,aoB ?_⟩;unfold aeH;refine bF (by simp;omega) (bT (by simp;omega) ?_);rw[e];by_cases h:Int.tmod x n<0
 ·refine bT (bU h) ?_;have h3:Int.tmod x n+n=x %n:=by omega
  rw[h3,dM (by omega) (by omega)]
 ·refine bF (cJ h) ?_;have h3:Int.tmod x n=x %n:=by omega
  rw[h3]
structure Tp where
 l:List Int
 k:Nat
 h:l.length≤80
 hk:k≤80
def Tp.L (t:Tp):V:= .list aF (t.l.map iV)
def Tp.K (t:Tp):V:= .int .i64 (t.k:Int)
theorem aoQ (l:List Int): ∃t:Tp,CC Mu [.list aF (l.map iV)]=some [t.L,t.K]:=by
 by_cases h:80<l.length
 ·refine ⟨⟨l.take 80,0,by simp;omega,by omega⟩,aeI ?_⟩;unfold VY;refine bT (by simp;omega) (bT (by simp;omega) ?_);simp[Tp.L,Tp.K,List.map_take]
 ·refine ⟨⟨l,0,by omega,by omega⟩,aeI ?_⟩;unfold VY;exact bF (by simp;omega) rfl
theorem CR (t:Tp) {n:Nat} (hn:1≤n) (hm:n≤1000000): ∃(v:Nat) (u:Tp),v<n∧CC vV [.int .i64 (n:Int),t.L,t.K]=some [.int .i64 (v:Int),u.L,u.K]:=by
 have hh:=t.h;have hk:=t.hk;by_cases h:t.l.length≤t.k
 ·refine ⟨0,t,by omega,aeJ ?_⟩;unfold VZ;exact bT (by simp;omega) rfl
 ·obtain ⟨v,hv,e⟩:=aeP (x:=t.l.getD t.k 0) hn hm;refine ⟨v,⟨t.l,t.k+1,t.h,by omega⟩,hv,aeJ ?_⟩;unfold VZ;refine bF (by simp;omega) ?_;rw[cG (by omega),dM (by omega) (by omega),show ((t.k+1:Nat):Int)-1=(t.k:Int) by omega];refine bs (Hc (z:=0) (by omega)) ?_;refine bs (by rw[V.toInt_int];exact e) ?_;rfl
structure Nd where
 op:Nat
 x:Nat
 a:Nat
 b:Nat
deriving DecidableEq
def Nd.v (d:Nd):V:= .agg [.int .i64 (d.op:Int),.int .i64 (d.x:Int),.int .i64 (d.a:Int),.int .i64 (d.b:Int)]
structure Nd.Ok (d:Nd) (L i:Nat):Prop where
 o1:1≤d.op
 o8:d.op≤8
 x1:d.op=3→d.x<L
 x0:d.op≠3→d.x=0
 a1:5≤d.op→d.a<i
 a0:d.op<5→d.a=0
 b1:5≤d.op→d.op≠8→d.b<i
 b0:d.op<5∨d.op=8→d.b=0
structure xU (g:List Nd) (L:Nat):Prop where
 l1:1≤L
 l2:L≤6
 n1:1≤g.length
 n2:g.length≤100
 nd: ∀i (h:i<g.length),g[i].Ok L i
theorem xU.get {g:List Nd} {L i:Nat} (h:xU g L) (hi:i<g.length):idx (g.map Nd.v) (i:Int)=some g[i].v:=by
 rw[ab7 rfl hi]
theorem aoR (t:Tp) {L m:Nat} (h1:1≤L) (h2:L≤6) (hm:1≤m) (lf:m≤50): ∃(g:List Nd) (u:Tp),xU g L∧g.length≤m∧
  CC Mv [.int .i64 (L:Int),.int .i64 (m:Int),t.L,t.K]=some [.int .i64 ((g.length:Int)-1),u.L,u.K,.list jy (g.map Nd.v)]:=by
 obtain ⟨v,t1,hv,e1⟩:=CR t hm (by omega);have hn:wrap .i64 (1+(v:Int))=((v+1:Nat):Int):=by rw[dM];omega
 suffices hl: ∃r:Int×Bool×List V×Int×List V,Loop (NT CC (L:Int) ((v+1:Nat):Int) 0 0 ([]:LV)) (0,t1.l.map iV,(t1.k:Int),([]:LV))=some r∧
   ∃(g:List Nd) (u:Tp),g.length=v+1∧(∀i (h:i<g.length),g[i].Ok L i)∧r.2.2=(u.l.map iV,(u.k:Int),g.map Nd.v) by
  obtain ⟨⟨r1,r2,r3⟩,e2,g,u,h3,h4,h5⟩:=hl;simp only at h5;subst h5;refine ⟨g,u,⟨h1,h2,by omega,by omega,h4⟩,by omega,aoP ?_⟩;unfold aeO;refine bs e1 ?_;simp only[V.ct,V.toInt_int,mq,jZ,Tp.L,Tp.K,V.ki,hn];refine bs e2 ?_;simp only[un,Tp.L,Tp.K,h3];rw[dM (by omega) (by omega)]
 refine uE (fun i x=> ∃(g:List Nd) (u:Tp),g.length=i∧(∀i (h:i<g.length),g[i].Ok L i)∧x=((i:Int),u.l.map iV,(u.k:Int),g.map Nd.v)) _ (v+1) 0 _ ?_ ?_ ⟨[],t1,rfl,fun i h=>by simp at h,rfl⟩
 ·rintro i _ hi x ⟨g,u,h3,h4,rfl⟩;obtain ⟨o,u1,ho,e2⟩:=CR u (n:=8) (by omega) (by omega);obtain ⟨op,FM,e3⟩: ∃op:Nat,(1≤op∧op≤8∧(i=0→op≤4))∧∀{β:Type} (k1 k2 k3 k4:Int) (l0 l1 l2:LV) (b1 b2 b3 b4:Int) (kr:Int→Option β),CN CC b1 b2 (i:Int) ((i:Int)==0) l0 b3 k1 k2 (wrap .i64 (1+(o:Int))) k3 k4 b4 l1 l2 kr=kr (op:Int):=by
   have hw:wrap .i64 (1+(o:Int))=((o+1:Nat):Int):=by rw[dM];omega
   by_cases h0:i=0
   ·subst h0;obtain ⟨w,hw4,e4⟩:=aeP (x:=((o+1:Nat):Int)) (n:=4) (by omega) (by omega);refine ⟨w+1,⟨by omega,by omega,fun _=>by omega⟩,fun {β} k1 k2 k3 k4 l0 l1 l2 b1 b2 b3 b4 kr=> ?_⟩;unfold CN;refine bT rfl ?_;rw[hw];refine bs e4 ?_;simp only[V.ct,V.toInt_int];rw[dM (by omega) (by omega),show (1:Int)+w=((w+1:Nat):Int) by omega]
   ·refine ⟨o+1,⟨by omega,by omega,fun h=>absurd h h0⟩,fun {β} k1 k2 k3 k4 l0 l1 l2 b1 b2 b3 b4 kr=> ?_⟩;unfold CN;refine bF (by simp;omega) ?_;rw[hw]
  obtain ⟨x,u2,hx,e4⟩: ∃(x:Nat) (u2:Tp),((op=3→x<L)∧(op≠3→x=0))∧∀{β:Type} (k1 k2 k3 k4:Int) (l1 l2:LV) (b2:Int) (kr:LV×Int×Int→Option β),CO CC (L:Int) b2 (i:Int) ((op:Int)==3) (u1.l.map iV) (u1.k:Int) k1 k2 (op:Int) 0 k3 k4 l1 l2 kr=kr (u2.l.map iV,(u2.k:Int),(x:Int)):=by
   by_cases h0:op=3
   ·obtain ⟨x,u2,hx,e4⟩:=CR u1 (n:=L) h1 (by omega);refine ⟨x,u2,⟨fun _=>hx,fun h=>absurd h0 h⟩,fun {β} k1 k2 k3 k4 l1 l2 b2 kr=> ?_⟩;unfold CO;refine bT (by simp[h0]) (bs e4 ?_);simp[Tp.L,Tp.K]
   ·refine ⟨0,u1,⟨fun h=>absurd h h0,fun _=>rfl⟩,fun {β} k1 k2 k3 k4 l1 l2 b2 kr=> ?_⟩;unfold CO;exact bF (by simp;omega) rfl
  obtain ⟨a,u3,ha,e5⟩: ∃(a:Nat) (u3:Tp),((5≤op→a<i)∧(op<5→a=0))∧∀{β:Type} (k1 k2 k4:Int) (l1 l2:LV) (b1 b2:Int) (kr:LV×Int×Int→Option β),CP CC b1 b2 (i:Int) (decide ((op:Int)≥5)) (u2.l.map iV) (u2.k:Int) k1 k2 (op:Int) (x:Int) 0 k4 l1 l2 kr=kr (u3.l.map iV,(u3.k:Int),(a:Int)):=by
   by_cases h0:5≤op
   ·obtain ⟨a,u3,ha,e5⟩:=CR u2 (n:=i) (by omega) (by omega);refine ⟨a,u3,⟨fun _=>ha,fun h=>by omega⟩,fun {β} k1 k2 k4 l1 l2 b1 b2 kr=> ?_⟩;unfold CP;refine bT (by simp;omega) (bs e5 ?_);simp[Tp.L,Tp.K]
   ·refine ⟨0,u2,⟨fun h=>absurd h h0,fun _=>rfl⟩,fun {β} k1 k2 k4 l1 l2 b1 b2 kr=> ?_⟩;unfold CP;exact bF (by simp;omega) rfl
  obtain ⟨b,u4,hb,e6⟩: ∃(b:Nat) (u4:Tp),((5≤op→op≠8→b<i)∧(op<5∨op=8→b=0))∧∀{β:Type} (q:Bool) (hq:q=decide (5≤op∧op≠8)) (k1 k2:Int) (l1 l2:LV) (b1 b2:Int) (kr:LV×Int×Int→Option β),Am CC b1 b2 (i:Int) q (u3.l.map iV) (u3.k:Int) k1 k2 (op:Int) (x:Int) (a:Int) 0 l1 l2 kr=kr (u4.l.map iV,(u4.k:Int),(b:Int)):=by
   by_cases h0:5≤op∧op≠8
   ·obtain ⟨a,u3,ha,e5⟩:=CR u3 (n:=i) (by omega) (by omega);refine ⟨a,u3,⟨fun _ _=>ha,fun h=>by omega⟩,fun {β} q hq k1 k2 l1 l2 b1 b2 kr=> ?_⟩;unfold Am;refine bT (by rw[hq];exact bU h0) (bs e5 ?_);simp[Tp.L,Tp.K]
   ·refine ⟨0,u3,⟨fun h h'=>absurd ⟨h,h'⟩ h0,fun _=>rfl⟩,fun {β} q hq k1 k2 l1 l2 b1 b2 kr=> ?_⟩;unfold Am;exact bF (by rw[hq];exact cJ h0) rfl
  refine ⟨_,?_,g++[⟨op,x,a,b⟩],u4,by simp[h3],fun j hj=> ?_,rfl⟩
  ·have cg:Nat.ble (((g.map Nd.v).length+([.agg [V.int .i64 (op:Int),V.int .i64 (x:Int),V.int .i64 (a:Int),V.int .i64 (b:Int)]]:LV).length)*32) aX=true:=cap (by simp;omega) (by omega);simp only[NT,un];unfold He;refine bT (cO (by omega)) (bs e2 ?_);simp only[V.ct,V.toInt_int,mq,jZ,Tp.L,Tp.K,V.ki,e3,e4,un,e5];by_cases h5:5≤op
   ·refine bT (by simp;omega) ?_;have hq:((op:Int) != 8)=decide (5≤op∧op≠8):=by
     by_cases h8:op=8
     ·simp[h8]
     ·rw[bU ⟨h5,h8⟩];simp;omega
    rw[e6 _ hq];refine bT cg ?_;rw[cG (by omega)];simp[Nd.v]
   ·refine bF (by simp;omega) ?_;rw[e6 false (by rw[cJ (by omega)])];refine bT cg ?_;rw[cG (by omega)];simp[Nd.v]
  ·rcases fI j g.length with cS|cS
   ·rw[Ku cS];exact h4 j cS
   ·have:j=g.length:=by simp at hj;omega
    subst this;rw[List.getElem_append_right (az _)];simp only[Nat.sub_self,List.getElem_singleton];rw[h3];exact ⟨FM.1,FM.2.1,hx.1,hx.2,ha.1,ha.2,hb.1,hb.2⟩
 ·rintro x ⟨g,u,h3,h4,rfl⟩;refine ⟨(((0+(v+1):Nat):Int),decide (((0+(v+1):Nat):Int)<((v+1:Nat):Int)),u.l.map iV,(u.k:Int),g.map Nd.v),?_,g,u,by omega,h4,rfl⟩;simp only[NT,un];unfold He;exact bF (bt (by omega)) rfl
def aoS (C:ae) (op:Int):Option LV:=
 bif op==5 then
  bif op==5 then
  some [V.int .i64 2]
  else
  bif op==8 then
   some [V.int .i64 1]
  else
   some [V.int .i64 0]
 else
  bif op==6 then
  bif op==6 then
   some [V.int .i64 2]
  else
   bif op==8 then
   some [V.int .i64 1]
   else
   some [V.int .i64 0]
  else
  bif op==7 then
   some [V.int .i64 2]
  else
   bif op==8 then
   some [V.int .i64 1]
   else
   some [V.int .i64 0]
theorem aoT {op:Int} {r:Option LV} (h:aoS CC op=r):CC zV [V.int .i64 op]=r:=bj (L:=bm) an h
def aeQ (C:ae) (part i:Int) (NV:Bool):Option LV:=
 bif NV then
  bif decide (part≥0) then
  some [.bool (decide (part<i))]
  else
  some [.bool false]
 else
  some [.bool (part==0)]
theorem aoU {part i:Int} {NV:Bool} {r:Option LV} (h:aeQ CC part i NV=r):CC Gb [V.int .i64 part,V.int .i64 i,.bool NV]=r:=bj (L:=bm) an h
def Hg (C:ae) (i ay:Int) (t17:Bool) (bn aY bh aS:Int) {β:Type} (kr:((Bool) ⊕ (Unit))→Option β):Option β:=
 bif t17 then
  bif decide (aY<0) then
  kr (.inl false)
  else
  bif decide (aY≥ay) then
   kr (.inl false)
  else
   kr (.inr ())
 else
  bif aY != 0 then
  kr (.inl false)
  else
  kr (.inr ())
def aoV (C:ae):cE:=gH 287 Uf [[0],[1,4,5,6,7]] (@Hg C) bm
theorem aoW (C:ae):aW C (aoV C) 35 (Cd 17 [1,1,0,1,0] [1,1,0,1,1] 35):=gG Uf [[0],[1,4,5,6,7]] (@Hg C) (aG an) (aG an)
def aeR (C:ae) (cl cQ cv cW i ay:Int):Option LV:=
 bif decide (cl<1) then
  some [.bool false]
 else
  bif decide (cl>8) then
  some [.bool false]
  else
  Hg C i ay (cl==3) cl cQ cv cW (bN (fun (t_1:Bool)=>
   some [.bool t_1]) (fun _=>
   (C zV [V.int .i64 cl]).bind fun r2=>
   (C Gb [V.int .i64 cv,V.int .i64 i,.bool (decide ((((V.nth r2 0).toInt):Int)≥1))]).bind fun r3=>
   bif (V.nth r3 0).toBool then
    (C zV [V.int .i64 cl]).bind fun r4=>
    (C Gb [V.int .i64 cW,V.int .i64 i,.bool ((((V.nth r4 0).toInt):Int)==2)]).bind fun r5=>
    some [.bool ((V.nth r5 0).toBool)]
   else
    some [.bool false]))
theorem aoX {cl cQ cv cW i ay:Int} {r:Option LV} (h:aeR CC cl cQ cv cW i ay=r):CC MD [V.int .i64 cl,V.int .i64 cQ,V.int .i64 cv,V.int .i64 cW,V.int .i64 i,V.int .i64 ay]=r:=bj (aU (aoW CC) an) h
def Hh (C:ae) (ay:Int) (t18:LV) (t19:Int) (fw:LV) (fx t20:Int) {β:Type} (kn:Int→Option β) (kr:((Int) ⊕ (Int×Bool))→Option β):Option β:=
 bif decide (t20<t19) then
  (idx t18 t20).bind fun x1=>
  (C MD [V.int .i64 ((x1.cell 0).toInt),V.int .i64 ((x1.cell 1).toInt),V.int .i64 ((x1.cell 2).toInt),V.int .i64 ((x1.cell 3).toInt),V.int .i64 t20,V.int .i64 ay]).bind fun r2=>
  bif !((V.nth r2 0).toBool) then
  kr (.inl 22)
  else
  kn (wrap .i64 (t20+1))
 else
  kr (.inr (t20,decide (t20<t19)))
def V0 (C:ae) (ay:Int) (t18:LV) (t19:Int) (fw:LV) (fx:Int):=fun t20=>Hh C ay t18 t19 fw fx t20 (fun y=>some (Sum.inl y)) (fun r=>some (Sum.inr r))
def aoY (C:ae):cE:=bG 97 TU [EQ,EQ,EQ,H1,EQ,EQ] [[0],[1,2,3,0,0,5,6]] (@Hh C) bm
theorem aoZ (C:ae):aW C (aoY C) 21 (Lp [1,1,1,0,1,0,0] 21):=bE TU [EQ,EQ,EQ,H1,EQ,EQ] [[0],[1,2,3,0,0,5,6]] (@Hh C) (aG an)
def aeS (C:ae) (eS:LV) (jT ay:Int):Option LV:=
 bif decide (ay<1) then
  some [V.int .i64 1]
 else
  bif decide (ay>6) then
  some [V.int .i64 1]
  else
  bif decide ((eS.length:Int)>20000) then
   some [V.int .i64 3]
  else
   (Loop (V0 C ay eS (eS.length:Int) eS jT) 0).bind (bN (fun lr=>
    some [V.int .i64 lr]) (un fun (kK:Int) (og:Bool)=>
    bif decide (jT<0) then
    some [V.int .i64 22]
    else
    bif decide (jT≥(eS.length:Int)) then
     some [V.int .i64 22]
    else
     some [V.int .i64 0]))
theorem ao0 {eS:LV} {jT ay:Int} {r:Option LV} (h:aeS CC eS jT ay=r):CC Mz [.list jy eS,V.int .i64 jT,V.int .i64 ay]=r:=bj (aU (aoZ CC) an) h
def uF (C:ae) (ay i:Int) (a b':Bool) (t17:LV) (t18 t19:Int) (t64:Bool) (fw:LV) (fx bn aY bh aS:Int) {β:Type} (kr:((Int) ⊕ (Unit))→Option β):Option β:=
 bif t64 then
  kr (.inl 22)
 else
  bif a then
  bif decide (bh<0) then
   kr (.inl 22)
  else
   bif decide (bh≥i) then
   kr (.inl 22)
   else
   bif !a then
    bif bh != 0 then
    kr (.inl 22)
    else
    bif b' then
     bif decide (aS<0) then
     kr (.inl 22)
     else
     bif decide (aS≥i) then
      kr (.inl 22)
     else
      bif !b' then
      bif aS != 0 then
       kr (.inl 22)
      else
       kr (.inr ())
      else
      kr (.inr ())
    else
     bif !b' then
     bif aS != 0 then
      kr (.inl 22)
     else
      kr (.inr ())
     else
     kr (.inr ())
   else
    bif b' then
    bif decide (aS<0) then
     kr (.inl 22)
    else
     bif decide (aS≥i) then
     kr (.inl 22)
     else
     bif !b' then
      bif aS != 0 then
      kr (.inl 22)
      else
      kr (.inr ())
     else
      kr (.inr ())
    else
    bif !b' then
     bif aS != 0 then
     kr (.inl 22)
     else
     kr (.inr ())
    else
     kr (.inr ())
  else
  bif !a then
   bif bh != 0 then
   kr (.inl 22)
   else
   bif b' then
    bif decide (aS<0) then
    kr (.inl 22)
    else
    bif decide (aS≥i) then
     kr (.inl 22)
    else
     bif !b' then
     bif aS != 0 then
      kr (.inl 22)
     else
      kr (.inr ())
     else
     kr (.inr ())
   else
    bif !b' then
    bif aS != 0 then
     kr (.inl 22)
    else
     kr (.inr ())
    else
    kr (.inr ())
  else
   bif b' then
   bif decide (aS<0) then
    kr (.inl 22)
   else
    bif decide (aS≥i) then
    kr (.inl 22)
    else
    bif !b' then
     bif aS != 0 then
     kr (.inl 22)
     else
     kr (.inr ())
    else
     kr (.inr ())
   else
   bif !b' then
    bif aS != 0 then
    kr (.inl 22)
    else
    kr (.inr ())
   else
    kr (.inr ())
def iv (C:ae) (ay i:Int) (a b':Bool) (t17:LV) (t18 t19:Int) (t55:Bool) (fw:LV) (fx bn aY bh aS:Int) {β:Type} (kr:((Int) ⊕ (Unit))→Option β):Option β:=
 bif t55 then
  kr (.inl 22)
 else
  bif bn==3 then
  bif decide (aY<0) then
   uF C ay i a b' t17 t18 t19 true fw fx bn aY bh aS (bN (fun lr=>
    kr (.inl lr)) (fun _=>
    kr (.inr ())))
  else
   bif decide (aY≥ay) then
   uF C ay i a b' t17 t18 t19 true fw fx bn aY bh aS (bN (fun kK=>
    kr (.inl kK)) (fun _=>
    kr (.inr ())))
   else
   bif bn != 3 then
    uF C ay i a b' t17 t18 t19 (aY != 0) fw fx bn aY bh aS (bN (fun og=>
     kr (.inl og)) (fun _=>
     kr (.inr ())))
   else
    uF C ay i a b' t17 t18 t19 false fw fx bn aY bh aS (bN (fun qC=>
     kr (.inl qC)) (fun _=>
     kr (.inr ())))
  else
  bif bn != 3 then
   uF C ay i a b' t17 t18 t19 (aY != 0) fw fx bn aY bh aS (bN (fun kL=>
    kr (.inl kL)) (fun _=>
    kr (.inr ())))
  else
   uF C ay i a b' t17 t18 t19 false fw fx bn aY bh aS (bN (fun oh=>
    kr (.inl oh)) (fun _=>
    kr (.inr ())))
def Hi (C:ae) (ay:Int) (t17:LV) (t18:Int) (fw:LV) (fx t19:Int) {β:Type} (kn:Int→Option β) (kr:((Int) ⊕ (Int×Bool))→Option β):Option β:=
 bif decide (t19<t18) then
  (idx t17 t19).bind fun x2=>
  bif (((x2.cell 0).toInt):Int)==5 then
  bif (((x2.cell 0).toInt):Int)==5 then
   bif decide ((((x2.cell 0).toInt):Int)<1) then
   iv C ay t19 true true t17 t18 t19 true fw fx ((x2.cell 0).toInt) ((x2.cell 1).toInt) ((x2.cell 2).toInt) ((x2.cell 3).toInt) (bN (fun rI=>
    kr (.inl rI)) (fun _=>
    kn (wrap .i64 (t19+1))))
   else
   iv C ay t19 true true t17 t18 t19 (decide ((((x2.cell 0).toInt):Int)>8)) fw fx ((x2.cell 0).toInt) ((x2.cell 1).toInt) ((x2.cell 2).toInt) ((x2.cell 3).toInt) (bN (fun xV=>
    kr (.inl xV)) (fun _=>
    kn (wrap .i64 (t19+1))))
  else
   bif (((x2.cell 0).toInt):Int)==6 then
   bif decide ((((x2.cell 0).toInt):Int)<1) then
    iv C ay t19 true true t17 t18 t19 true fw fx ((x2.cell 0).toInt) ((x2.cell 1).toInt) ((x2.cell 2).toInt) ((x2.cell 3).toInt) (bN (fun xW=>
     kr (.inl xW)) (fun _=>
     kn (wrap .i64 (t19+1))))
   else
    iv C ay t19 true true t17 t18 t19 (decide ((((x2.cell 0).toInt):Int)>8)) fw fx ((x2.cell 0).toInt) ((x2.cell 1).toInt) ((x2.cell 2).toInt) ((x2.cell 3).toInt) (bN (fun xX=>
     kr (.inl xX)) (fun _=>
     kn (wrap .i64 (t19+1))))
   else
   bif decide ((((x2.cell 0).toInt):Int)<1) then
    iv C ay t19 true ((((x2.cell 0).toInt):Int)==7) t17 t18 t19 true fw fx ((x2.cell 0).toInt) ((x2.cell 1).toInt) ((x2.cell 2).toInt) ((x2.cell 3).toInt) (bN (fun oY=>
     kr (.inl oY)) (fun _=>
     kn (wrap .i64 (t19+1))))
   else
    iv C ay t19 true ((((x2.cell 0).toInt):Int)==7) t17 t18 t19 (decide ((((x2.cell 0).toInt):Int)>8)) fw fx ((x2.cell 0).toInt) ((x2.cell 1).toInt) ((x2.cell 2).toInt) ((x2.cell 3).toInt) (bN (fun Ap=>
     kr (.inl Ap)) (fun _=>
     kn (wrap .i64 (t19+1))))
  else
  bif (((x2.cell 0).toInt):Int)==6 then
   bif (((x2.cell 0).toInt):Int)==5 then
   bif decide ((((x2.cell 0).toInt):Int)<1) then
    iv C ay t19 true true t17 t18 t19 true fw fx ((x2.cell 0).toInt) ((x2.cell 1).toInt) ((x2.cell 2).toInt) ((x2.cell 3).toInt) (bN (fun Aq=>
     kr (.inl Aq)) (fun _=>
     kn (wrap .i64 (t19+1))))
   else
    iv C ay t19 true true t17 t18 t19 (decide ((((x2.cell 0).toInt):Int)>8)) fw fx ((x2.cell 0).toInt) ((x2.cell 1).toInt) ((x2.cell 2).toInt) ((x2.cell 3).toInt) (bN (fun wh=>
     kr (.inl wh)) (fun _=>
     kn (wrap .i64 (t19+1))))
   else
   bif (((x2.cell 0).toInt):Int)==6 then
    bif decide ((((x2.cell 0).toInt):Int)<1) then
    iv C ay t19 true true t17 t18 t19 true fw fx ((x2.cell 0).toInt) ((x2.cell 1).toInt) ((x2.cell 2).toInt) ((x2.cell 3).toInt) (bN (fun aeT=>
     kr (.inl aeT)) (fun _=>
     kn (wrap .i64 (t19+1))))
    else
    iv C ay t19 true true t17 t18 t19 (decide ((((x2.cell 0).toInt):Int)>8)) fw fx ((x2.cell 0).toInt) ((x2.cell 1).toInt) ((x2.cell 2).toInt) ((x2.cell 3).toInt) (bN (fun NW=>
     kr (.inl NW)) (fun _=>
     kn (wrap .i64 (t19+1))))
   else
    bif decide ((((x2.cell 0).toInt):Int)<1) then
    iv C ay t19 true ((((x2.cell 0).toInt):Int)==7) t17 t18 t19 true fw fx ((x2.cell 0).toInt) ((x2.cell 1).toInt) ((x2.cell 2).toInt) ((x2.cell 3).toInt) (bN (fun V1=>
     kr (.inl V1)) (fun _=>
     kn (wrap .i64 (t19+1))))
    else
    iv C ay t19 true ((((x2.cell 0).toInt):Int)==7) t17 t18 t19 (decide ((((x2.cell 0).toInt):Int)>8)) fw fx ((x2.cell 0).toInt) ((x2.cell 1).toInt) ((x2.cell 2).toInt) ((x2.cell 3).toInt) (bN (fun Hj=>
     kr (.inl Hj)) (fun _=>
     kn (wrap .i64 (t19+1))))
  else
   bif (((x2.cell 0).toInt):Int)==7 then
   bif (((x2.cell 0).toInt):Int)==5 then
    bif decide ((((x2.cell 0).toInt):Int)<1) then
    iv C ay t19 true true t17 t18 t19 true fw fx ((x2.cell 0).toInt) ((x2.cell 1).toInt) ((x2.cell 2).toInt) ((x2.cell 3).toInt) (bN (fun NU=>
     kr (.inl NU)) (fun _=>
     kn (wrap .i64 (t19+1))))
    else
    iv C ay t19 true true t17 t18 t19 (decide ((((x2.cell 0).toInt):Int)>8)) fw fx ((x2.cell 0).toInt) ((x2.cell 1).toInt) ((x2.cell 2).toInt) ((x2.cell 3).toInt) (bN (fun V2=>
     kr (.inl V2)) (fun _=>
     kn (wrap .i64 (t19+1))))
   else
    bif (((x2.cell 0).toInt):Int)==6 then
    bif decide ((((x2.cell 0).toInt):Int)<1) then
     iv C ay t19 true true t17 t18 t19 true fw fx ((x2.cell 0).toInt) ((x2.cell 1).toInt) ((x2.cell 2).toInt) ((x2.cell 3).toInt) (bN (fun Hk=>
      kr (.inl Hk)) (fun _=>
      kn (wrap .i64 (t19+1))))
    else
     iv C ay t19 true true t17 t18 t19 (decide ((((x2.cell 0).toInt):Int)>8)) fw fx ((x2.cell 0).toInt) ((x2.cell 1).toInt) ((x2.cell 2).toInt) ((x2.cell 3).toInt) (bN (fun aeU=>
      kr (.inl aeU)) (fun _=>
      kn (wrap .i64 (t19+1))))
    else
    bif decide ((((x2.cell 0).toInt):Int)<1) then
     iv C ay t19 true ((((x2.cell 0).toInt):Int)==7) t17 t18 t19 true fw fx ((x2.cell 0).toInt) ((x2.cell 1).toInt) ((x2.cell 2).toInt) ((x2.cell 3).toInt) (bN (fun Hl=>
      kr (.inl Hl)) (fun _=>
      kn (wrap .i64 (t19+1))))
    else
     iv C ay t19 true ((((x2.cell 0).toInt):Int)==7) t17 t18 t19 (decide ((((x2.cell 0).toInt):Int)>8)) fw fx ((x2.cell 0).toInt) ((x2.cell 1).toInt) ((x2.cell 2).toInt) ((x2.cell 3).toInt) (bN (fun NX=>
      kr (.inl NX)) (fun _=>
      kn (wrap .i64 (t19+1))))
   else
   bif (((x2.cell 0).toInt):Int)==5 then
    bif decide ((((x2.cell 0).toInt):Int)<1) then
    iv C ay t19 ((((x2.cell 0).toInt):Int)==8) true t17 t18 t19 true fw fx ((x2.cell 0).toInt) ((x2.cell 1).toInt) ((x2.cell 2).toInt) ((x2.cell 3).toInt) (bN (fun V3=>
     kr (.inl V3)) (fun _=>
     kn (wrap .i64 (t19+1))))
    else
    iv C ay t19 ((((x2.cell 0).toInt):Int)==8) true t17 t18 t19 (decide ((((x2.cell 0).toInt):Int)>8)) fw fx ((x2.cell 0).toInt) ((x2.cell 1).toInt) ((x2.cell 2).toInt) ((x2.cell 3).toInt) (bN (fun V4=>
     kr (.inl V4)) (fun _=>
     kn (wrap .i64 (t19+1))))
   else
    bif (((x2.cell 0).toInt):Int)==6 then
    bif decide ((((x2.cell 0).toInt):Int)<1) then
     iv C ay t19 ((((x2.cell 0).toInt):Int)==8) true t17 t18 t19 true fw fx ((x2.cell 0).toInt) ((x2.cell 1).toInt) ((x2.cell 2).toInt) ((x2.cell 3).toInt) (bN (fun V5=>
      kr (.inl V5)) (fun _=>
      kn (wrap .i64 (t19+1))))
    else
     iv C ay t19 ((((x2.cell 0).toInt):Int)==8) true t17 t18 t19 (decide ((((x2.cell 0).toInt):Int)>8)) fw fx ((x2.cell 0).toInt) ((x2.cell 1).toInt) ((x2.cell 2).toInt) ((x2.cell 3).toInt) (bN (fun ao1=>
      kr (.inl ao1)) (fun _=>
      kn (wrap .i64 (t19+1))))
    else
    bif decide ((((x2.cell 0).toInt):Int)<1) then
     iv C ay t19 ((((x2.cell 0).toInt):Int)==8) ((((x2.cell 0).toInt):Int)==7) t17 t18 t19 true fw fx ((x2.cell 0).toInt) ((x2.cell 1).toInt) ((x2.cell 2).toInt) ((x2.cell 3).toInt) (bN (fun ao2=>
      kr (.inl ao2)) (fun _=>
      kn (wrap .i64 (t19+1))))
    else
     iv C ay t19 ((((x2.cell 0).toInt):Int)==8) ((((x2.cell 0).toInt):Int)==7) t17 t18 t19 (decide ((((x2.cell 0).toInt):Int)>8)) fw fx ((x2.cell 0).toInt) ((x2.cell 1).toInt) ((x2.cell 2).toInt) ((x2.cell 3).toInt) (bN (fun V6=>
      kr (.inl V6)) (fun _=>
      kn (wrap .i64 (t19+1))))
 else
  kr (.inr (t19,decide (t19<t18)))
def V7 (C:ae) (ay:Int) (t17:LV) (t18:Int) (fw:LV) (fx:Int):=fun t19=>Hi C ay t17 t18 fw fx t19 (fun y=>some (Sum.inl y)) (fun r=>some (Sum.inr r))
def V8 (C:ae):cE:=gH 1039 TK [[0],[1,5,6,7,9,10]] (@uF C) (gH 895 TL [[0],[1,5,6,7,9,10]] (@iv C) (bG 97 TM [EQ,EQ,EQ,H1,EQ,EQ] [[0],[1,2,3,0,0,5,6]] (@Hi C) bm))
theorem ao3 (C:ae):aW C (V8 C) 12 (Cd 64 [1,1,1,0,1,0,0,1,1,0,0,1,1,0,1,1,1,0] [1,1,1,0,1,0,0,1,1,0,0,1,1,0,1,1,1,1] 12):=gG TK [[0],[1,5,6,7,9,10]] (@uF C) (aG an) (aG an)
theorem ao4 (C:ae):aW C (V8 C) 12 (Cd 55 [1,1,1,0,1,0,0,1,1,0,0,1,1,0,1,0] [1,1,1,0,1,0,0,1,1,0,0,1,1,0,1,1] 12):=gG TL [[0],[1,5,6,7,9,10]] (@iv C) (aG an) (aG (aU (ao3 C) an))
theorem ao5 (C:ae):aW C (V8 C) 12 (Lp [1,1,1,0,1,0,0] 12):=bE TM [EQ,EQ,EQ,H1,EQ,EQ] [[0],[1,2,3,0,0,5,6]] (@Hi C) (aG (aU (ao4 C) an))
def aeV (C:ae) (eS:LV) (jT ay:Int):Option LV:=
 (C zW [V.int .i64 ay]).bind fun r1=>
 bif !((V.nth r1 0).toBool) then
  some [V.int .i64 1]
 else
  bif decide ((eS.length:Int)>20000) then
  some [V.int .i64 3]
  else
  (Loop (V7 C ay eS (eS.length:Int) eS jT) 0).bind (bN (fun aeW=>
   some [V.int .i64 aeW]) (un fun (ao6:Int) (ay8:Bool)=>
   bif decide (jT<0) then
    some [V.int .i64 22]
   else
    bif decide (jT≥(eS.length:Int)) then
    some [V.int .i64 22]
    else
    some [V.int .i64 0]))
theorem ao7 {eS:LV} {jT ay:Int} {r:Option LV} (h:aeV CC eS jT ay=r):CC Mx [.list jy eS,V.int .i64 jT,V.int .i64 ay]=r:=bj (aU (ao5 CC) an) h
def s8 (op:Nat):Nat:=if 5≤op then (if op=8 then 1 else 2) else 0
theorem NY {op:Nat} (h:op≤8):CC zV [.int .i64 (op:Int)]=some [.int .i64 (s8 op:Int)]:=by
 refine aoT ?_;rcases (by omega:op=0∨op=1∨op=2∨op=3∨op=4∨op=5∨op=6∨op=7∨op=8) with rfl|rfl|rfl|rfl|rfl|rfl|rfl|rfl|rfl<;>rfl
theorem aeX {p i:Nat} {b:Bool} (h1:b=true→p<i) (h2:b=false→p=0):CC Gb [.int .i64 (p:Int),.int .i64 (i:Int),.bool b]=some [.bool true]:=by
 refine aoU ?_;unfold aeQ;cases b with
 | true=>
  refine bT rfl (bT (bU (by omega)) ?_);rw[bU (by have:=h1 rfl;omega)]
 | false=>
  refine bF rfl ?_;rw[h2 rfl];rfl
theorem ao8 {d:Nd} {L i:Nat} (h:d.Ok L i):CC MD [.int .i64 (d.op:Int),.int .i64 (d.x:Int),.int .i64 (d.a:Int),.int .i64 (d.b:Int),.int .i64 (i:Int),.int .i64 (L:Int)]=some [.bool true]:=by
 have o1:=h.o1;have o8:=h.o8;refine aoX ?_;unfold aeR;refine bF (cJ (by omega)) (bF (cJ (by omega)) ?_);have key: ∀{β:Type} (K:Bool ⊕ Unit→Option β),Hg CC (i:Int) (L:Int) ((d.op:Int)==3) (d.op:Int) (d.x:Int) (d.a:Int) (d.b:Int) K=K (.inr ()):=by
  intro β K;unfold Hg;by_cases h3:d.op=3
  ·have:=h.x1 h3;exact bT (by simp[h3]) (bF (cJ (by omega)) (bF (cJ (by omega)) rfl))
  ·have:=h.x0 h3;exact bF (by simp;omega) (bF (by simp[this]) rfl)
 rw[key];simp only[bN];refine bs (NY o8) ?_;rw[V.ct,V.toInt_int];have e1:decide ((s8 d.op:Int)≥1)=decide (5≤d.op):=by
  unfold s8;by_cases h5:5≤d.op
  ·rw[ah h5,bU h5];by_cases h8:d.op=8<;>simp[h8]
  ·rw[ag h5,cJ h5];simp
 have e2:((s8 d.op:Int)==2)=decide (5≤d.op∧d.op≠8):=by
  unfold s8;by_cases h5:5≤d.op
  ·rw[ah h5];by_cases h8:d.op=8<;>simp[h5,h8]
  ·rw[ag h5,cJ (fun h=>h5 h.1)];rfl
 rw[e1];refine bs (aeX (fun hb=>h.a1 (D2 hb)) (fun hb=>h.a0 (by have:=of_decide_eq_false hb;omega))) (bT rfl ?_);refine bs (NY o8) ?_;rw[V.ct,V.toInt_int,e2];refine bs (aeX (fun hb=>h.b1 (D2 hb).1 (D2 hb).2) (fun hb=>h.b0 (by have:=of_decide_eq_false hb;omega))) ?_;rfl
theorem Nd.cells {d:Nd}:(d.v.cell 0).toInt=(d.op:Int)∧(d.v.cell 1).toInt=(d.x:Int)∧(d.v.cell 2).toInt=(d.a:Int)∧(d.v.cell 3).toInt=(d.b:Int):=⟨rfl,rfl,rfl,rfl⟩
section
variable {g:List Nd} {L r:Nat} (h:xU g L) (hr:r<g.length)
include h hr
theorem ao9:CC Mz [.list jy (g.map Nd.v),.int .i64 (r:Int),.int .i64 (L:Int)]=some [.int .i64 0]:=by
 have l1:=h.l1;have l2:=h.l2;have n1:=h.n1;have n2:=h.n2;refine ao0 ?_;unfold aeS;rw[cH];refine bF (cJ (by omega)) (bF (cJ (by omega)) (bF (cJ (by omega)) ?_));refine bs (eh g.length (fun i=>(i:Int)) (.inr ((g.length:Int),false)) (fun i hi=> ?_) ?_) ?_
 ·simp only[V0,Hh];refine bT (cO hi) ?_;refine bs (h.get hi) ?_;simp only[Nd.cells];refine bs (ao8 (h.nd i hi)) (bF rfl ?_);rw[cG (by omega)]
 ·simp only[V0,Hh];refine bF (bt (az _)) ?_;rw[bt (az _)]
 ·simp only[bN,un];exact bF (cJ (by omega)) (bF (cJ (by omega)) rfl)
end
theorem apa {L:Nat} (l1:1≤L) (l2:L≤6):CC zW [.int .i64 (L:Int)]=some [.bool true]:=by
 refine aeB ?_;rcases (by omega:L=1∨L=2∨L=3∨L=4∨L=5∨L=6) with rfl|rfl|rfl|rfl|rfl|rfl<;>rfl
theorem aeY {i a b:Nat} {A B:Bool} (ha:A=true→a<i) (zp:A=false→a=0) (hb:B=true→b<i) (eG:B=false→b=0) {β:Type} {l1 l2:LV} {k1 k2 k3 k4 k5 k6:Int} (K:Int ⊕ Unit→Option β):
  uF CC k1 (i:Int) A B l1 k2 k3 false l2 k4 k5 k6 (a:Int) (b:Int) K=K (.inr ()):=by
 unfold uF;cases A<;>cases B
 ·have:=zp rfl;have:=eG rfl;subst a;subst b;rfl
 ·have h1:=zp rfl;have h2:=hb rfl;subst a
  have e1:decide ((b:Int)<0)=false:=cJ (by omega);have e2:decide ((b:Int)≥(i:Int))=false:=cJ (by omega);simp[e1,e2];omega
 ·have h1:=ha rfl;have h2:=eG rfl;subst b
  have e1:decide ((a:Int)<0)=false:=cJ (by omega);have e2:decide ((a:Int)≥(i:Int))=false:=cJ (by omega);simp[e1,e2];omega
 ·have h1:=ha rfl;have h2:=hb rfl
  have e1:decide ((a:Int)<0)=false:=cJ (by omega);have e2:decide ((a:Int)≥(i:Int))=false:=cJ (by omega);have e3:decide ((b:Int)<0)=false:=cJ (by omega);have e4:decide ((b:Int)≥(i:Int))=false:=cJ (by omega);simp only[e1,e2,e3,e4,cond_true,cond_false,D6]
theorem apb {L i op x a b:Nat} {A B:Bool} (ha:A=true→a<i) (zp:A=false→a=0) (hb:B=true→b<i) (eG:B=false→b=0) (hx:op=3→x<L) (sH:op≠3→x=0) {β:Type} {l1 l2:LV} {k2 k3 k4:Int} (K:Int ⊕ Unit→Option β):
  iv CC (L:Int) (i:Int) A B l1 k2 k3 false l2 k4 (op:Int) (x:Int) (a:Int) (b:Int) K=K (.inr ()):=by
 unfold iv;refine bF rfl ?_;by_cases h3:op=3
 ·have:=hx h3;refine bT (by simp[h3]) (bF (cJ (by omega)) (bF (cJ (by omega)) (bF (by simp[h3]) ?_)));rw[aeY ha zp hb eG];rfl
 ·have h4:=sH h3;refine bF (by simp;omega) (bT (by simp;omega) ?_);rw[show ((x:Int) != 0)=false by simp[h4],aeY ha zp hb eG];rfl
section
variable {g:List Nd} {L r:Nat} (h:xU g L) (hr:r<g.length)
include h hr
theorem apc:CC Mx [.list jy (g.map Nd.v),.int .i64 (r:Int),.int .i64 (L:Int)]=some [.int .i64 0]:=by
 have l1:=h.l1;have l2:=h.l2;have n1:=h.n1;have n2:=h.n2;refine ao7 ?_;unfold aeV;refine bs (apa l1 l2) (bF rfl ?_);rw[cH];refine bF (cJ (by omega)) ?_;refine bs (eh g.length (fun i=>(i:Int)) (.inr ((g.length:Int),false)) (fun i hi=> ?_) ?_) ?_
 ·simp only[V7,Hi];refine bT (cO hi) ?_;refine bs (h.get hi) ?_;simp only[Nd.cells];have hd:=h.nd i hi;generalize g[i]=d at hd;obtain ⟨op,x,a,b⟩:=d;obtain ⟨o1,o8,x1,x0,a1,a0,b1,b0⟩:=hd;simp only at o1 o8 x1 x0 a1 a0 b1 b0⊢;have hw:wrap .i64 ((i:Int)+1)=((i+1:Nat):Int):=cG (by omega);have bq: ∀k:Nat,((op:Int)==(k:Int))=decide (op=k):=fun k=>by rw[nL];simp;omega
  have b5:((op:Int)==5)=decide (op=5):=bq 5;have b6:((op:Int)==6)=decide (op=6):=bq 6;have b7:((op:Int)==7)=decide (op=7):=bq 7;have b8:((op:Int)==8)=decide (op=8):=bq 8;have bl:decide ((op:Int)<1)=false:=cJ (by omega);have bg:decide ((op:Int)>8)=false:=cJ (by omega);simp only[b5,b6,b7,b8,bl,bg,cond_false];rcases (by omega:op=1∨op=2∨op=3∨op=4∨op=5∨op=6∨op=7∨op=8) with rfl|rfl|rfl|rfl|rfl|rfl|rfl|rfl
  all_goals
   simp only[Nat.reduceEqDiff,wO,decide_false,cond_true,cond_false];rw[apb (L:=L) (by first|exact fun _=>a1 (by omega)|exact fun h=>by cases h) (by first|exact fun _=>a0 (by omega)|exact fun h=>by cases h) (by first|exact fun _=>b1 (by omega) (by omega)|exact fun h=>by cases h) (by first|exact fun _=>b0 (by omega)|exact fun h=>by cases h) x1 x0];simp only[bN,hw]
 ·simp only[V7,Hi];refine bF (bt (az _)) ?_;rw[bt (az _)]
 ·simp only[bN,un];exact bF (cJ (by omega)) (bF (cJ (by omega)) rfl)
end
def Hm (w:List UInt8) (i:Nat):Int:=((w.getD i 0).toNat:Int)-97
def Hn (w:List UInt8) (L:Int):Prop:=1≤L∧L≤6∧w.length≤2048∧∀i,i<w.length→0≤Hm w i∧Hm w i<L
instance (w:List UInt8) (L:Int):Decidable (Hn w L):=by unfold Hn;infer_instance
def ew (L:Nat) (f:Nat→Nat):V:= .list aF (tab L fun x=>iV (f x))
def Da.bI (a:Da):List V:=tab a.n fun q=>V.bool (a.fin q)
def Da.bz (a:Da):List V:=tab a.n fun q=>ew a.L (a.nx q)
@[simp] theorem Da.pN {a:Da}:a.bI.length=a.n:=by simp[Da.bI]
@[simp] theorem Da.V9 {a:Da}:a.bz.length=a.n:=by simp[Da.bz]
@[simp] theorem kj {L:Nat} {f:Nat→Nat}:(ew L f).toList=tab L fun x=>iV (f x):=by simp[ew]
def dN (a:Da) (l:List V):List V:= .int .i64 a.L:: .int .i64 a.st:: .list ao a.bI:: .list ar a.bz::l
def dh (a:Da):List V:=dN a []
theorem Da.Ok.leaves {a:Da} (h:a.Ok) (l:List V):CL a.df l=dN a l:=by
 unfold CL dN;have e1:a.df.F.map V.bool=a.bI:=CM _ false;have e2:a.df.N.map qD=a.bz:=by
  unfold Da.bz;rw[CM _ [],show a.df.N.length=a.n by simp[Da.df,h.nN]];refine dR fun q hq=> ?_;have dz:q<a.N.length:=by rw[h.nN];exact hq
  unfold qD ew;rw[show a.df.N.getD q []=uC (a.N.getD q []) by simp[Da.df,dz],CM _ 0];have hl:(uC (a.N.getD q [])).length=a.L:=by simp only[uC,cH];exact Da.G2 h hq
  rw[hl];exact congrArg _ (dR fun x _=>by rw[aeG];rfl)
 rw[e1,e2];rfl
theorem Da.nt {a:Da} {q:Nat} (hq:q<a.n):idx a.bI (q:Int)=some (.bool (a.fin q)):=nr hq
theorem Da.jU {a:Da} {q:Nat} (hq:q<a.n):idx a.bz (q:Int)=some (ew a.L (a.nx q)):=nr hq
theorem mI {L x:Nat} {f:Nat→Nat} (hx:x<L):idx (tab L fun x=>iV (f x)) (x:Int)=some (iV (f x)):=nr hx
theorem uG {a:Da} (h:a.Ok):CC rA (dh a)=some [.int .i64 0]:=by
 have:=aov h.VV;rwa [h.val,h.leaves] at this
def lets (w:List UInt8):List Nat:=w.map fun b=>b.toNat-97
theorem aeZ {w:List UInt8}:(lets w).length=w.length:=by simp[lets]
theorem apd {w:List UInt8} {i:Nat} (hi:i<w.length) (h:0≤Hm w i):(((lets w).getD i 0:Nat):Int)=Hm w i:=by
 unfold lets Hm at*
 rw[fH (by simpa using hi),fH hi] at*
 simp only[List.getElem_map];omega
theorem Hn.WL {w:List UInt8} {L:Nat} (h:Hn w (L:Int)):WL L (lets w):=fun x hx=>by
 obtain ⟨i,hi,rfl⟩:=Ej hx;rw[aeZ] at hi;obtain ⟨h1,h2⟩:=h.2.2.2 i hi;have:=apd hi h1;rw[fH (by rw[aeZ];exact hi)] at this;omega
section
variable {a:Da} (h:a.Ok) {w:List UInt8} (hw:Hn w (a.L:Int)) {q:Nat} (hq:q<a.n)
include h hw hq
end
section
variable {α:Type} (ke:α→V)
def gL (i:Nat):List α→List V
 | []=>[]
 | a::S=> .bK [ke a,iV (i:Int)]::gL (i+1) S
where iV (n:Int):V:= .int .i64 n
end
theorem CS {α:Type} {ke:α→V}: ∀(S:List α) (i:Nat),(gL ke i S).length=S.length
 | [],_=>rfl
 | a::S,i=>by simp[gL,CS S (i+1)]
section
variable {α:Type} [DecidableEq α] {ke:α→V}
variable (hk: ∀a b,il (ke a) (ke b)=decide (a=b))
include hk
theorem qG (x:α): ∀(S:List α) (i:Nat),eB (ke x) (gL ke i S)=decide (x∈S)
 | [],_=>by simp[gL,eB]
 | a::S,i=>by
  have c: ∀(p q:V),(V.bK [p,q]).comp 0=p:=fun p q=>rfl;rw[gL,eB,c,hk,qG x S (i+1)];rw[nL];simp
theorem uH (x:α) (z:V): ∀(S:List α) (i:Nat),x∈S→fP (ke x) (gL ke i S) z= .int .i64 ((i+S.idxOf x:Nat):Int)
 | [],_,h=>by cases h
 | a::S,i,h=>by
  have c: ∀(p q:V),(V.bK [p,q]).comp 0=p:=fun p q=>rfl;have c1: ∀(p q:V),(V.bK [p,q]).comp 1=q:=fun p q=>rfl;rw[gL,fP,c,c1,hk];by_cases e:x=a
  ·subst e;rw[bU rfl];simp[gL.iV]
  ·rw[cJ e,cond_false,uH x z S (i+1) ((iR.1 h).resolve_left e),show (a::S).idxOf x=S.idxOf x+1 from by rw[List.idxOf_cons,show (a==x)=false from beq_eq_false_iff_ne.2 fun h=>e h.symm];rfl];congr 2;omega
theorem uI (x:α): ∀(S:List α) (i:Nat),x∉S→eC (ke x) (.int .i64 ((i+S.length:Nat):Int)) (gL ke i S)=gL ke i (S++[x])
 | [],i,_=>by simp[gL,eC,gL.iV]
 | a::S,i,h=>by
  have c: ∀(p q:V),(V.bK [p,q]).comp 0=p:=fun p q=>rfl;have e:x≠a:=fun e=>h (by simp[e]);rw[gL,eC,c,hk,cJ e,cond_false,List.cons_append,gL];congr 1;have:=uI x S (i+1) fun hx=>h (by simp[hx]);rw[←this];simp only[List.length_cons];congr 3;omega
end
theorem ape (a b:Nat):il (.int .i64 (a:Int)) (.int .i64 (b:Int))=decide (a=b):=by
 simp only[il,V.cells,nP,sg,yH];rw[nL];simp;omega
theorem apf (a b:Nat):il (.int .u64 (a:Int)) (.int .u64 (b:Int))=decide (a=b):=by
 simp only[il,V.cells,nP,sg,yH];rw[nL];simp;omega
theorem apg (a b:Nat×Nat):il (.agg [.int .i64 (a.1:Int),.int .i64 (a.2:Int)]) (.agg [.int .i64 (b.1:Int),.int .i64 (b.2:Int)])=decide (a=b):=by
 simp only[il,V.cells,nP,sg,yH];rw[nL];simp[Prod.ext_iff];omega
theorem km {n:Nat} (h:n≤1000000000000):cw .i64 (n:Int)=true:=by
 have e1:IntKind.min .i64= -9223372036854775808:=by decide
 have e2:IntKind.max .i64=9223372036854775807:=by decide
 unfold cw;rw[e1,e2];exact lH.2 ⟨bU (by omega),bU (by omega)⟩
theorem CT {n:Nat} (h:n<2^64):cw .u64 (n:Int)=true:=by
 have e1:IntKind.min .u64=0:=by decide
 have e2:IntKind.max .u64=18446744073709551615:=by decide
 unfold cw;rw[e1,e2];exact lH.2 ⟨bU (by omega),bU (by omega)⟩
theorem CU {α:Type} [DecidableEq α] {S:List α} {a:α}:(dj S a).idxOf a=if a∈S then S.idxOf a else S.length:=by
 unfold dj;split
 ·rfl
 ·rename_i h;rw[yN,ag h];simp
def ae0 (C:ae) (q x cy cz:Int) (iD iw:LV):Option LV:=
 (idx iw q).bind fun x1=>
 (idx x1.toList x).bind fun x2=>
 some [V.int .i64 x2.toInt,V.int .i64 cy,V.int .i64 cz,.list ao iD,.list ar iw]
theorem aph {q x cy cz:Int} {iD iw:LV} {r:Option LV} (h:ae0 CC q x cy cz iD iw=r):CC v7 [V.int .i64 q,V.int .i64 x,V.int .i64 cy,V.int .i64 cz,.list ao iD,.list ar iw]=r:=bj (L:=bm) an h
def ae1 (C:ae) (q oo oq:Int) (mJ nu:LV):Option LV:=
 (idx mJ q).bind fun x1=>
 some [.bool x1.toBool,V.int .i64 oo,V.int .i64 oq,.list ao mJ,.list ar nu]
theorem api {q oo oq:Int} {mJ nu:LV} {r:Option LV} (h:ae1 CC q oo oq mJ nu=r):CC v8 [V.int .i64 q,V.int .i64 oo,V.int .i64 oq,.list ao mJ,.list ar nu]=r:=bj (L:=bm) an h
def ae2 (C:ae) (x:Int) (aR:LV):Option LV:=
 bif cw .i64 x&&true then
  bif cw .i64 x&&true then
  bif Nat.ble ((aR.length+([V.int .i64 x]:LV).length)*8) aX then
   some [V.int .i64 (aR.length:Int),.list aF (aR++([V.int .i64 x]:LV)),.list iP (eC (V.int .i64 x) (V.int .i64 (aR.length:Int)) ([]:LV))]
  else none
  else none
 else none
theorem apj {x:Int} {aR:LV} {r:Option LV} (h:ae2 CC x aR=r):CC GC [V.int .i64 x,.list aF aR]=r:=bj (L:=bm) an h
def ae3 (C:ae) (x:Int) (aR ca:LV):Option LV:=
 bif cw .i64 x&&true then
  bif !(eB (V.int .i64 x) ca) then
  bif cw .i64 x&&true then
   bif Nat.ble ((aR.length+([V.int .i64 x]:LV).length)*8) aX then
   some [V.int .i64 (aR.length:Int),.list iP (eC (V.int .i64 x) (V.int .i64 (aR.length:Int)) ca),.list aF (aR++([V.int .i64 x]:LV))]
   else none
  else none
  else
  some [V.int .i64 ((fP (V.int .i64 x) ca (V.int .i64 0)).toInt),.list iP ca,.list aF aR]
 else none
theorem apk {x:Int} {aR ca:LV} {r:Option LV} (h:ae3 CC x aR ca=r):CC SW [V.int .i64 x,.list aF aR,.list iP ca]=r:=bj (L:=bm) an h
def Ho (C:ae) (ay i state t36 ly lz aP aT:Int) (cx bJ cN dO:LV) (t37 gW gZ:Int) (g9 hG rows cd bS:LV) {β:Type} (kn:(Int×Int×Int×LV×LV×LV×LV×LV)→Option β) (kr:(Int×Bool×Int×Int×LV×LV×LV×LV×LV)→Option β):Option β:=
 bif decide (t37<t36) then
  (C v7 [V.int .i64 state,V.int .i64 t37,V.int .i64 gW,V.int .i64 gZ,.list ao g9,.list ar hG]).bind fun r3=>
  (C SW [V.int .i64 ((V.nth r3 0).toInt),.list aF cd,.list iP bS]).bind fun r4=>
  aq rows t37 fun x5=>
  kn (wrap .i64 (t37+1),(V.nth (r3.drop 1) 0).toInt,(V.nth ((r3.drop 1).drop 1) 0).toInt,(V.nth (((r3.drop 1).drop 1).drop 1) 0).toList,(V.nth ((((r3.drop 1).drop 1).drop 1).drop 1) 0).toList,aI rows t37 (V.int .i64 ((V.nth r4 0).toInt)),(V.nth ((r4.drop 1).drop 1) 0).toList,(V.nth (r4.drop 1) 0).toList)
 else
  kr (t37,decide (t37<t36),gW,gZ,g9,hG,rows,cd,bS)
def NZ (C:ae) (ay i state t36 ly lz aP aT:Int) (cx bJ cN dO:LV):=un fun t37=>un fun gW=>un fun gZ=>un fun g9=>un fun hG=>un fun rows=>un fun cd bS=>Ho C ay i state t36 ly lz aP aT cx bJ cN dO t37 gW gZ g9 hG rows cd bS (fun y=>some (Sum.inl y)) (fun r=>some (Sum.inr r))
def Hp (C:ae) (ay ly lz aP aT:Int) (bQ cx:LV) (i gW gZ:Int) (g9 hG bJ cd bS cN:LV) {β:Type} (kn:(Int×Int×Int×LV×LV×LV×LV×LV×LV)→Option β) (kr:((Int×Int×Int×LV×LV×Int×Int×LV×LV×LV) ⊕ (Int×Bool×Int×Int×LV×LV×LV×LV×LV×LV))→Option β):Option β:=
 bif decide (i<(bJ.length:Int)) then
  aq bJ i fun x2=>
  bif (decide (0≤ay))&&((decide (ay≤ay))&&(Nat.ble ((ay.toNat)*8) aX)) then
  (Loop (NZ C ay i x2.toInt ((List.replicate (ay.toNat) (V.int .i64 0)).length:Int) ly lz aP aT bQ cx bS cN) (0,gW,gZ,g9,hG,List.replicate (ay.toNat) (V.int .i64 0),bJ,cd)).bind (un fun qC=>un fun (kL:Bool)=>un fun xY=>un fun Hq=>un fun (Hr:LV)=>un fun (Hs:LV)=>un fun (ae4:LV)=>un fun (xZ:LV) (wi:LV)=>
   bif decide ((xZ.length:Int)>512) then
    kr (.inl (3,xY,Hq,Hr,Hs,0,0,([]:LV),([]:LV),([]:LV)))
   else
    bif Nat.ble ((cN.length+([.list aF ae4]:LV).length)*24) aX then
    (C v8 [V.int .i64 x2.toInt,V.int .i64 xY,V.int .i64 Hq,.list ao Hr,.list ar Hs]).bind fun fy=>
    bif Nat.ble ((bS.length+([.bool ((V.nth fy 0).toBool)]:LV).length)*1) aX then
     kn (wrap .i64 (i+1),(V.nth (fy.drop 1) 0).toInt,(V.nth ((fy.drop 1).drop 1) 0).toInt,(V.nth (((fy.drop 1).drop 1).drop 1) 0).toList,(V.nth ((((fy.drop 1).drop 1).drop 1).drop 1) 0).toList,xZ,wi,bS++([.bool ((V.nth fy 0).toBool)]:LV),cN++([.list aF ae4]:LV))
    else none
    else none)
  else none
 else
  kr (.inr (i,decide (i<(bJ.length:Int)),gW,gZ,g9,hG,bJ,cd,bS,cN))
def N0 (C:ae) (ay ly lz aP aT:Int) (bQ cx:LV):=un fun i=>un fun gW=>un fun gZ=>un fun g9=>un fun hG=>un fun bJ=>un fun cd=>un fun bS cN=>Hp C ay ly lz aP aT bQ cx i gW gZ g9 hG bJ cd bS cN (fun y=>some (Sum.inl y)) (fun r=>some (Sum.inr r))
def ae5 (C:ae):cE:=bG 161 U5 [EQ,EQ,EQ,EQ,H1,H1,H1,H1,H1,EQ,EQ,EQ,EQ,H1,EQ,EQ,H1,H1,EQ,EQ] [[1,2,3,4,0,0,0,0,0,0,10,11,12,13,0,15,16,0,0,19,20]] (@Ho C) (bG 81 U6 [EQ,H1,H1,H1,H1,H1,EQ,EQ,EQ,EQ,EQ,EQ,H1,H1,H1,H1] [[0,0,0,0,0,0,0,0,0,0],[1,0,0,0,0,0,0,7,8,9,10,11,12,0,0,0,0]] (@Hp C) bm)
theorem apl (C:ae):aW C (ae5 C) 103 (Lp [1,1,1,1,0,1,0,0,1,0,0,1,1,0,1,0,0] 103):=bE U5 [EQ,EQ,EQ,EQ,H1,H1,H1,H1,H1,EQ,EQ,EQ,EQ,H1,EQ,EQ,H1,H1,EQ,EQ] [[1,2,3,4,0,0,0,0,0,0,10,11,12,13,0,15,16,0,0,19,20]] (@Ho C) (aG an)
theorem apm (C:ae):aW C (ae5 C) 103 (Lp [1,1,1,1,0,1,0,0] 103):=bE U6 [EQ,H1,H1,H1,H1,H1,EQ,EQ,EQ,EQ,EQ,EQ,H1,H1,H1,H1] [[0,0,0,0,0,0,0,0,0,0],[1,0,0,0,0,0,0,7,8,9,10,11,12,0,0,0,0]] (@Hp C) (aG (aU (apl C) an))
def ae6 (C:ae) (ay start gW gZ:Int) (g9 hG:LV):Option LV:=
 (C GC [V.int .i64 start,.list aF ([]:LV)]).bind fun r1=>
 (Loop (N0 C ay 0 0 ay 0 ([]:LV) ([]:LV)) (0,gW,gZ,g9,hG,(V.nth (r1.drop 1) 0).toList,(V.nth ((r1.drop 1).drop 1) 0).toList,([]:LV),([]:LV))).bind (bN (un fun wh=>un fun qH=>un fun Ar=>un fun (Ht:LV)=>un fun (ae7:LV)=>un fun Wa=>un fun apn=>un fun (Hu:LV)=>un fun (Ao:LV) (apo:LV)=>
  some [V.int .i64 Wa,V.int .i64 apn,V.int .i64 wh,V.int .i64 qH,V.int .i64 Ar,.list ao Ht,.list ar ae7,.list ao Hu,.list ar Ao,.list aF apo]) (un fun uJ=>un fun (V3:Bool)=>un fun apq=>un fun apr=>un fun (aps:LV)=>un fun (apt:LV)=>un fun (Hv:LV)=>un fun (N3:LV)=>un fun (ae8:LV) (Hw:LV)=>
  some [V.int .i64 ay,V.int .i64 0,V.int .i64 0,V.int .i64 apq,V.int .i64 apr,.list ao aps,.list ar apt,.list ao ae8,.list ar Hw,.list aF Hv]))
theorem apu {ay start gW gZ:Int} {g9 hG:LV} {r:Option LV} (h:ae6 CC ay start gW gZ g9 hG=r):CC MZ [V.int .i64 ay,V.int .i64 start,V.int .i64 gW,V.int .i64 gZ,.list ao g9,.list ar hG]=r:=bj (aU (apm CC) an) h
def Hy (C:ae) (t31 cy cz gj gk:Int) (gy bQ cx bJ cd:LV) (t32:Int) (numbers:LV) {β:Type} (kn:(Int×LV)→Option β) (kr:(Int×Bool×LV)→Option β):Option β:=
 bif decide (t32<t31) then
  aq numbers t32 fun x3=>
  kn (wrap .i64 (t32+1),aI numbers t32 (V.int .i64 (-1)))
 else
  kr (t32,decide (t32<t31),numbers)
def N4 (C:ae) (t31 cy cz gj gk:Int) (gy bQ cx bJ cd:LV):=un fun t32 numbers=>Hy C t31 cy cz gj gk gy bQ cx bJ cd t32 numbers (fun y=>some (Sum.inl y)) (fun r=>some (Sum.inr r))
def Hz (C:ae) (t40 cy cz gj gk:Int) (Wb bQ cx bJ cd:LV) (t41:Int) (numbers:LV) {β:Type} (kn:(Int×LV)→Option β) (kr:(Int×Bool×LV)→Option β):Option β:=
 bif decide (t41<t40) then
  aq Wb t41 fun x7=>
  bif (decide (0≤x7.toInt))&&(decide (x7.toInt<(numbers.length:Int))) then
  (numbers[(x7.toInt:Int).toNat]?).bind fun x8=>
  kn (wrap .i64 (t41+1),aI numbers (x7.toInt) (V.int .i64 t41))
  else none
 else
  kr (t41,decide (t41<t40),numbers)
def N5 (C:ae) (t40 cy cz gj gk:Int) (Wb bQ cx bJ cd:LV):=un fun t41 numbers=>Hz C t40 cy cz gj gk Wb bQ cx bJ cd t41 numbers (fun y=>some (Sum.inl y)) (fun r=>some (Sum.inr r))
def ae9 (C:ae):cE:=bG 97 UQ [EQ,H1,EQ,EQ,EQ,EQ,EQ,H1,EQ,EQ,EQ,EQ] [[1,0,0,3,4,5,6,7,0,9,10,11,12]] (@Hy C) (bG 177 UR [EQ,H1,EQ,EQ,EQ,EQ,H1,EQ,EQ,EQ,EQ,EQ] [[1,0,0,3,4,5,6,0,8,9,10,11,12]] (@Hz C) bm)
theorem apv (C:ae):aW C (ae9 C) 92 (Lp [1,1,1,1,0,1,0,0] 92):=bE UQ [EQ,H1,EQ,EQ,EQ,EQ,EQ,H1,EQ,EQ,EQ,EQ] [[1,0,0,3,4,5,6,7,0,9,10,11,12]] (@Hy C) (aG an)
theorem apw (C:ae):aW C (ae9 C) 92 (Lp [1,1,1,1,1,0,1,0,0] 92):=bE UR [EQ,H1,EQ,EQ,EQ,EQ,H1,EQ,EQ,EQ,EQ,EQ] [[1,0,0,3,4,5,6,0,8,9,10,11,12]] (@Hz C) (aG an)
def afa (C:ae) (bO bP:Int) (bw bY:LV):Option LV:=
 (C rA [V.int .i64 bO,V.int .i64 bP,.list ao bw,.list ar bY]).bind fun r1=>
 bif (((V.nth r1 0).toInt):Int) != 0 then
  some [V.int .i64 0,V.int .i64 0,.list ao ([]:LV),.list ar ([]:LV),.list aF ([]:LV)]
 else
  (C MZ [V.int .i64 bO,V.int .i64 bP,V.int .i64 bO,V.int .i64 bP,.list ao bw,.list ar bY]).bind fun r2=>
  bif (decide (0≤(((V.nth (((r2.drop 3).drop 1).drop 1) 0).toList).length:Int)))&&((decide ((((V.nth (((r2.drop 3).drop 1).drop 1) 0).toList).length:Int)≤(((V.nth (((r2.drop 3).drop 1).drop 1) 0).toList).length:Int)))&&(Nat.ble ((((((V.nth (((r2.drop 3).drop 1).drop 1) 0).toList).length:Int):Int).toNat)*8) aX)) then
  (Loop (N4 C ((List.replicate (((((V.nth (((r2.drop 3).drop 1).drop 1) 0).toList).length:Int):Int).toNat) (V.int .i64 0)).length:Int) 0 0 ((V.nth r2 0).toInt) ((V.nth (r2.drop 1) 0).toInt) ((V.nth ((((r2.drop 3).drop 4).drop 1).drop 1) 0).toList) ([]:LV) ([]:LV) ((V.nth ((r2.drop 3).drop 4) 0).toList) ((V.nth (((r2.drop 3).drop 4).drop 1) 0).toList)) (0,List.replicate (((((V.nth (((r2.drop 3).drop 1).drop 1) 0).toList).length:Int):Int).toNat) (V.int .i64 0))).bind (un fun kK=>un fun (og:Bool) (apx:LV)=>
   (Loop (N5 C (((V.nth ((((r2.drop 3).drop 4).drop 1).drop 1) 0).toList).length:Int) 0 0 ((V.nth r2 0).toInt) ((V.nth (r2.drop 1) 0).toInt) ((V.nth ((((r2.drop 3).drop 4).drop 1).drop 1) 0).toList) ([]:LV) ([]:LV) ((V.nth ((r2.drop 3).drop 4) 0).toList) ((V.nth (((r2.drop 3).drop 4).drop 1) 0).toList)) (0,apx)).bind (un fun rI=>un fun (xV:Bool) (apy:LV)=>
    some [V.int .i64 ((V.nth r2 0).toInt),V.int .i64 ((V.nth (r2.drop 1) 0).toInt),.list ao ((V.nth ((r2.drop 3).drop 4) 0).toList),.list ar ((V.nth (((r2.drop 3).drop 4).drop 1) 0).toList),.list aF apy]))
  else none
theorem apz {bO bP:Int} {bw bY:LV} {r:Option LV} (h:afa CC bO bP bw bY=r):CC Cx [V.int .i64 bO,V.int .i64 bP,.list ao bw,.list ar bY]=r:=bj (aU (apv CC) (aU (apw CC) an)) h
def nV (q:Nat):V:= .int .i64 (q:Int)
def nS (S:List Nat):List V:=S.map nV
def mS (S:List Nat):List V:=gL nV 0 S
theorem CV (a b:Nat):il (nV a) (nV b)=decide (a=b):=ape a b
theorem s9 {S:List Nat}:(nS S).length=S.length:=by simp[nS]
theorem CW {S:List Nat} {i:Nat} (h:i<S.length):(nS S)[i]? =some (nV S[i]):=by simp[nS,h]
theorem apA {x:Nat} (hx:x≤1000000):CC GC [nV x,.list aF []]=some [nV 0,.list aF (nS [x]),.list iP (mS [x])]:=by
 refine apj ?_;unfold ae2;rw[km (by omega)];exact bT rfl (bT rfl (bT (cap (by simp) (by omega)) rfl))
theorem apB {S:List Nat} {x:Nat} (hx:x≤1000000) (hl:S.length≤1000000):CC SW [nV x,.list aF (nS S),.list iP (mS S)]=some [nV ((dj S x).idxOf x),.list iP (mS (dj S x)),.list aF (nS (dj S x))]:=by
 refine apk ?_;unfold ae3;have e1:=qG CV x S 0;rw[km (by omega)];refine bT rfl ?_;rw[CU];by_cases h:x∈S
 ·refine bF (by rw[show eB (.int .i64 (x:Int)) (mS S)=true from e1.trans (bU h)];rfl) ?_;have e2:=uH CV x (.int .i64 0) S 0 h;rw[show fP (.int .i64 (x:Int)) (mS S) (.int .i64 0)=_ from e2,ah h,ed,show dj S x=S by unfold dj;rw[ah h]];rfl
 ·refine bT (by rw[show eB (.int .i64 (x:Int)) (mS S)=false from e1.trans (cJ h)];rfl) ?_;refine bT rfl ?_;refine bT (cap (by rw[s9];simp;omega) (by omega)) ?_;have e2:=uI CV x S 0 h;rw[ed] at e2;rw[s9,show eC (.int .i64 (x:Int)) (.int .i64 (S.length:Int)) (mS S)=_ from e2,ag h,show dj S x=S++[x] by unfold dj;rw[ag h]];simp[nS,nV,mS]
theorem apC {a:Da} {q x:Nat} (hq:q<a.n) (hx:x<a.L):CC v7 (nV q::nV x::dh a)=some (nV (a.nx q x)::dh a):=by
 refine aph ?_;unfold ae0;refine bs (Da.jU hq) ?_;rw[kj];exact bs (mI hx) rfl
theorem apD {a:Da} {q:Nat} (hq:q<a.n):CC v8 (nV q::dh a)=some (.bool (a.fin q)::dh a):=by
 refine api ?_;unfold ae1;exact bs (Da.nt hq) rfl
section
variable {a:Da} (h:a.Ok)
include h
theorem apE {S U:List Nat} {q:Nat} (hq:q<a.n) (hS: ∀s∈S,s<a.n) (hSn:S.length≤1000) (hp:aJ a.nx S q a.L <+: U) {i c1 c2:Int} {l1 l2 l3 l4:List V}:
  Loop (NZ CC (a.L:Int) i (q:Int) ((List.replicate (((a.L:Nat):Int).toNat) (V.int .i64 0)).length:Int) c1 c2 (a.L:Int) 0 l1 l2 l3 l4) (0,(a.L:Int),(a.st:Int),a.bI,a.bz,List.replicate (((a.L:Nat):Int).toNat) (V.int .i64 0),nS S,mS S)=
   some ((a.L:Int),false,(a.L:Int),(a.st:Int),a.bI,a.bz,(tab a.L fun x=>nV (U.idxOf (a.nx q x))),nS (aJ a.nx S q a.L),mS (aJ a.nx S q a.L)):=by
 have h6:=h.l6;rw[Int.toNat_natCast,lx,db];refine (eh a.L (fun x=>((x:Int),(a.L:Int),(a.st:Int),a.bI,a.bz,(tab a.L fun j=>if j<x then nV (U.idxOf (a.nx q j)) else nV 0),nS (aJ a.nx S q x),mS (aJ a.nx S q x))) _ (fun x hx=> ?_) ?_)
 ·simp only[NZ,Ho,un,aq,aI];refine bT (cO hx) ?_;refine bs (apC hq hx) ?_;have hT:(aJ a.nx S q x).length≤1000000:=by
   have: ∀x,(aJ a.nx S q x).length≤S.length+x:=by
    intro x
    induction x with
    | zero=>exact az _
    | succ x ih=>rw[aJ,qz];split<;>omega
   have:=this x;omega
  refine bs (apB (S:=aJ a.nx S q x) (by have:=h.fN hq hx;have:=h.cU;omega) hT) ?_;refine (fv hx).trans ?_;rw[cG (by omega),Int.toNat_natCast,nq];have e:(dj (aJ a.nx S q x) (a.nx q x)).idxOf (a.nx q x)=U.idxOf (a.nx q x):=(uB ((rH S q (show x+1≤a.L by omega)).trans hp) uA).symm;show some (Sum.inl _)=some (Sum.inl _);refine congrArg (fun x=>some (Sum.inl x)) ?_;refine gm rfl (gm rfl (gm rfl (gm rfl (gm rfl (gm ?_ (gm rfl rfl))))));refine dR fun j _=> ?_;by_cases hj:j=x
  ·rw[ah hj,bp,hj,←e];rfl
  ·rw[ag hj];by_cases cS:j<x
   ·rw[ah cS,bp]
   ·rw[ag cS,cf]
 ·simp only[NZ,Ho,un,aq,aI];refine bF (bt (az _)) ?_;rw[bt (az _)];have:(tab a.L fun j=>if j<a.L then nV (U.idxOf (a.nx q j)) else nV 0)=tab a.L fun j=>nV (U.idxOf (a.nx q j)):=dR fun j hj=>ah hj;rw[this]
theorem apF:CC MZ ([nV a.L,nV a.st]++dh a)=some ([nV a.L,nV 0,.int .i64 0]++(dh a++[.list ao a.trim.bI,.list ar a.trim.bz,.list aF (nS (aj a.L a.nx a.st a.n))])):=by
 have h6:=h.l6;have hm:=h.cU;have hd:=h.qA a.n;refine apu ?_;unfold ae6;refine bs (apA (by have:=h.s;omega)) ?_;have key:Loop (N0 CC (a.L:Int) 0 0 (a.L:Int) 0 ([]:List V) ([]:List V)) (0,(a.L:Int),(a.st:Int),a.bI,a.bz,nS [a.st],mS [a.st],([]:List V),([]:List V))=
   some (.inr (((aj a.L a.nx a.st a.n).length:Int),false,(a.L:Int),(a.st:Int),a.bI,a.bz,nS (aj a.L a.nx a.st a.n),mS (aj a.L a.nx a.st a.n),a.trim.bI,a.trim.bz)):=by
  refine (eh (aj a.L a.nx a.st a.n).length (fun i=>((i:Int),(a.L:Int),(a.st:Int),a.bI,a.bz,nS (aj a.L a.nx a.st i),mS (aj a.L a.nx a.st i),(tab i fun j=>V.bool (a.trim.fin j)),(tab i fun j=>ew a.L (a.trim.nx j)))) _ (fun i hi=> ?_) ?_)
  ·have eQ:=xS hd hi;have ta:(aj a.L a.nx a.st i)[i]=(aj a.L a.nx a.st a.n)[i]:=(lq (show i≤a.n by omega)).getElem eQ;have hq:(aj a.L a.nx a.st a.n)[i]<a.n:=h.Al _ _ (ff hi);have hlen:(aj a.L a.nx a.st i).length≤512:=kR (h.qA i) hm;have ay9:(aj a.L a.nx a.st (i+1)).length≤512:=kR (h.qA (i+1)) hm;have gT:=Ai hd hi;simp only[N0,Hp,un,aq];refine bT (bU (by rw[s9];omega)) ?_;refine (eu (CW eQ)).trans ?_;refine bT (mG (by omega) (by omega)) ?_;rw[ta];refine bs (apE h hq (h.Al i) (by omega) (U:=aj a.L a.nx a.st a.n) (by rw[←gT];exact lq (by omega))) ?_;rw[←gT];refine bF (cJ (by rw[s9];omega)) ?_;refine bT (cap (by rw[db];simp;omega) (by omega)) ?_;refine bs (apD hq) ?_;refine bT (cap (by rw[db];simp;omega) (by omega)) ?_;rw[cG (by omega),gi,gi];have e1:a.trim.fin i=a.fin (aj a.L a.nx a.st a.n)[i]:=Aj hi;have e2:ew a.L (a.trim.nx i)= .list aF (tab a.L fun x=>nV ((aj a.L a.nx a.st a.n).idxOf (a.nx (aj a.L a.nx a.st a.n)[i] x))):=by
    unfold ew;refine congrArg _ (dR fun x hx=> ?_);rw[show a.trim.nx i x=_ from we hi hx];rfl
   rw[e1,e2];rfl
  ·simp only[N0,Hp,un,aq];rw[Ak hd,s9];refine bF (bt (az _)) ?_;rw[bt (az _)];have e3:a.trim.n=(aj a.L a.nx a.st a.n).length:=np;unfold Da.bI Da.bz;rw[e3];rfl
 refine bs key ?_;rfl
end
def lU (U:List Nat) (n:Nat):List V:=tab n fun q=>if q∈U then nV (U.idxOf q) else .int .i64 (-1)
theorem afb {U:List Nat} {n i:Nat} (hU:U.Nodup) (hi:i<U.length):(tab n fun q=>if q∈U.take i then nV (U.idxOf q) else V.int .i64 (-1)).set U[i] (.int .i64 (i:Int))=tab n fun q=>if q∈U.take (i+1) then nV (U.idxOf q) else V.int .i64 (-1):=by
 rw[nq];refine dR fun q _=> ?_;have e:q∈U.take (i+1)↔q∈U.take i∨q=U[i]:=by rw[Kv hi,eW,jF]
 by_cases hq:q=U[i]
 ·rw[ah hq,ah (e.2 (.inr hq)),hq,hU.idxOf_getElem i hi];rfl
 ·rw[ag hq];by_cases h2:q∈U.take i
  ·rw[ah h2,ah (e.2 (.inl h2))]
  ·rw[ag h2,ag fun h3=>(e.1 h3).elim h2 hq]
theorem afc {a:Da} (h:a.Ok):CC Cx (dh a)=some (dh a.trim++[.list aF (lU (aj a.L a.nx a.st a.n) a.n)]):=by
 have hm:=h.cU;have hU:=h.Al a.n;have hle:=h.qA a.n;refine apz ?_;unfold afa;refine bs (uG h) ?_;refine bF rfl ?_;refine bs (apF h) ?_;have e0:((V.nth (((([nV a.L,nV 0,V.int .i64 0]++(dh a++[V.list ao a.trim.bI,V.list ar a.trim.bz,V.list aF (nS (aj a.L a.nx a.st a.n))])).drop 3).drop 1).drop 1) 0).toList)=a.bI:=rfl;rw[e0,Da.pN];refine bT (mG (by omega) (by omega)) ?_;rw[Int.toNat_natCast,lx,db];generalize hUd:aj a.L a.nx a.st a.n=U at*
 have l1: ∀{c1 c2 c3 c4:Int} {s1 s2 s3 s4 s5:List V},Loop (N4 CC (a.n:Int) c1 c2 c3 c4 s1 s2 s3 s4 s5) (0,tab a.n fun _=>V.int .i64 0)=some ((a.n:Int),false,tab a.n fun q=>if q∈U.take 0 then nV (U.idxOf q) else V.int .i64 (-1)):=by
  intro c1 c2 c3 c4 s1 s2 s3 s4 s5;refine (eh a.n (fun i=>((i:Int),(tab a.n fun j=>if j<i then V.int .i64 (-1) else V.int .i64 0))) _ (fun i hi=> ?_) ?_)
  ·simp only[N4,Hy,un,aq,aI];refine bT (cO hi) ?_;refine (fv hi).trans ?_;rw[cG (by omega),Int.toNat_natCast,nq];refine congrArg (fun x=>some (Sum.inl (((i+1:Nat):Int),x))) (dR fun j _=> ?_);by_cases hj:j=i
   ·rw[ah hj,bp]
   ·rw[ag hj];by_cases cS:j<i
    ·rw[ah cS,bp]
    ·rw[ag cS,cf]
  ·simp only[N4,Hy,un,aq,aI];refine bF (bt (az _)) ?_;rw[bt (az _)];refine congrArg (fun x=>some (Sum.inr ((a.n:Int),false,x))) (dR fun j hj=> ?_);rw[ah hj,List.take_zero,ag (by simp)]
 refine bs l1 ?_;simp only[un];have Wc:U.Nodup:=by rw[←hUd];exact Ah _
 have l2: ∀{c1 c2 c3 c4:Int} {s2 s3 s4 s5:List V},Loop (N5 CC ((nS U).length:Int) c1 c2 c3 c4 (nS U) s2 s3 s4 s5) (0,tab a.n fun q=>if q∈U.take 0 then nV (U.idxOf q) else V.int .i64 (-1))=some ((U.length:Int),false,lU U a.n):=by
  intro c1 c2 c3 c4 s2 s3 s4 s5;rw[s9];refine (eh U.length (fun i=>((i:Int),(tab a.n fun q=>if q∈U.take i then nV (U.idxOf q) else V.int .i64 (-1)))) _ (fun i hi=> ?_) ?_)
  ·have hq:=hU U[i] (ff hi);simp only[N5,Hz,un,aq,aI];refine bT (cO hi) ?_;refine (eu (CW hi)).trans ?_;refine (fv (i:=U[i]) hq).trans ?_;rw[cG (by omega)];refine congrArg (fun x=>some (Sum.inl (((i+1:Nat):Int),x))) ?_;exact afb Wc hi
  ·simp only[N5,Hz,un,aq,aI];refine bF (bt (az _)) ?_;rw[bt (az _),u6];rfl
 refine bs l2 ?_;rfl
end Go.AM
set_option maxRecDepth 100000
namespace Go.AM
open Go.IntKind (wrap)
section
variable {β:Type} [DecidableEq β]
def bA (g:Nat→β):Nat→List β
 | 0=>[]
 | n+1=>dj (bA g n) (g n)
theorem Wd (g:Nat→β): ∀n,(bA g n).Nodup
 | 0=>List.nodup_nil
 | n+1=>aen (Wd g n)
theorem lV {g:Nat→β} {v:β}: ∀{n},v∈bA g n↔∃q,q<n∧g q=v
 | 0=>⟨fun h=>(by cases h),fun ⟨q,h,_⟩=>(by omega)⟩
 | n+1=>by
  have ih:=lV (g:=g) (v:=v) (n:=n);rw[bA];unfold dj;constructor
  ·intro h;split at h
   ·obtain ⟨q,h1,h2⟩:=ih.1 h;exact ⟨q,by omega,h2⟩
   ·rcases eW.1 h with h|h
    ·obtain ⟨q,h1,h2⟩:=ih.1 h;exact ⟨q,by omega,h2⟩
    ·exact ⟨n,by omega,(jF.1 h).symm⟩
  ·rintro ⟨q,h1,h2⟩;rcases fI q n with c|c
   ·exact (NN (bA g n) (g n)).subset (ih.2 ⟨q,c,h2⟩)
   ·obtain rfl:q=n:=by omega
    rw[←h2];exact uA
theorem apG {g:Nat→β} {m n:Nat} (h:m≤n):bA g m <+: bA g n:=by
 induction n with
 | zero=>rw[tA.1 h];exact lG _
 | succ n ih=>
  rcases fI m (n+1) with c|c
  ·exact (ih (by omega)).trans (NN _ _)
  ·rw[show m=n+1 by omega];exact lG _
theorem wj (g:Nat→β): ∀n,(bA g n).length≤n
 | 0=>az _
 | n+1=>by
  have:=wj g n;rw[bA,qz];split<;>omega
def dF (g:Nat→β) (n q:Nat):Nat:=(bA g n).idxOf (g q)
theorem HA {g:Nat→β} {n q:Nat} (h:q<n):dF g n q<(bA g n).length:=yO (lV.2 ⟨q,h,rfl⟩)
theorem HB {g:Nat→β} {n p q:Nat} (hp:p<n) (hq:q<n):dF g n p=dF g n q↔g p=g q:=by
 constructor
 ·intro h;have h1:=Kt (HA (g:=g) hp);have h2:=Kt (HA (g:=g) hq);rw[←h1,←h2];exact getElem_congr_idx h
 ·intro h;unfold dF;rw[h]
theorem HC {g:Nat→β} {m n q:Nat} (h:q<m) (hm:m≤n):dF g n q=dF g m q:=uB (apG hm) (lV.2 ⟨q,h,rfl⟩)
theorem We {g:Nat→β} {q:Nat} (h:g q∈bA g q):bA g (q+1)=bA g q:=by rw[bA];unfold dj;rw[ah h]
theorem N6 {g:Nat→β} {q:Nat} (h:g q∉bA g q):bA g (q+1)=bA g q++[g q]:=by rw[bA];unfold dj;rw[ag h]
theorem afd {g:Nat→β} {n q:Nat} (hq:q<n) (h:g q∈bA g q):dF g n q=(bA g q).idxOf (g q):=by
 rw[HC (show q<q+1 by omega) (by omega)];unfold dF;rw[We h]
theorem afe {g:Nat→β} {n q:Nat} (hq:q<n) (h:g q∉bA g q):dF g n q=(bA g q).length:=by
 rw[HC (show q<q+1 by omega) (by omega)];unfold dF;rw[N6 h,yN,ag h];simp
def rK (p:Nat→Nat) (n:Nat):Prop:= ∀m,m≤n→bA p m=List.range (bA p m).length
theorem aff (g:Nat→β) (n:Nat): ∀m,m≤n→bA (dF g n) m=List.range (bA g m).length:=by
 intro m
 induction m with
 | zero=>intro _;rfl
 | succ m ih=>
  intro hm;have ih:=ih (by omega);have e1:dF g n m=dF g (m+1) m:=HC (by omega) hm;have e2:dF g (m+1) m=if g m∈bA g m then (bA g m).idxOf (g m) else (bA g m).length:=by
   unfold dF;rw[bA];unfold dj;split
   ·rfl
   ·rename_i h;rw[yN,ag h];simp
  rw[bA,ih,bA,qz];unfold dj;by_cases h:g m∈bA g m
  ·have:=yO h;rw[ah h] at e2;rw[ah h,ah (by rw[e1,e2];exact jG.2 this)]
  ·rw[ag h] at e2;rw[ag h,ag (by rw[e1,e2];simp),e1,e2,yP]
theorem Wf (g:Nat→β) (n:Nat):rK (dF g n) n:=fun m hm=>by
 rw[aff g n m hm,List.length_range]
theorem Wg {γ:Type} [DecidableEq γ] {f:Nat→β} {c:Nat→γ} {n:Nat} (hr: ∀q q',q<n→q'<n→f q=f q'→c q=c q') (hl:(bA f n).length≤(bA c n).length):
  ∀q q',q<n→q'<n→c q=c q'→f q=f q':=by
 intro q q' hq dz hc;refine Decidable.byContradiction fun hf=> ?_;have rep: ∀v∈bA f n,∃q,q<n∧f q=v:=fun v hv=>lV.1 hv;have: ∃R:β→Nat,∀v∈bA f n,R v<n∧f (R v)=v:=by
  classical
  refine ⟨fun v=>if h:v∈bA f n then Classical.choose (rep v h) else 0,fun v hv=> ?_⟩;simp only[hv,rX];exact Classical.choose_spec (rep v hv)
 obtain ⟨R,hR⟩:=this;have lh:bA c n ⊆ ((bA f n).filter fun v=>decide (v≠f q')).map fun v=>c (R v):=by
  intro u hu;obtain ⟨s,hs,rfl⟩:=lV.1 hu;by_cases h:f s=f q'
  ·refine j5.2 ⟨f q,List.mem_filter.2 ⟨lV.2 ⟨q,hq,rfl⟩,bU hf⟩,?_⟩;have h1:=hR (f q) (lV.2 ⟨q,hq,rfl⟩);rw[hr _ _ h1.1 hq h1.2,hc,hr _ _ hs dz h]
  ·refine j5.2 ⟨f s,List.mem_filter.2 ⟨lV.2 ⟨s,hs,rfl⟩,bU h⟩,?_⟩;have h1:=hR (f s) (lV.2 ⟨s,hs,rfl⟩);exact hr _ _ h1.1 hs h1.2
 have h1:=List.Nodup.length_le_of_subset (Wd c n) lh;rw[cH] at h1;have h2:((bA f n).filter fun v=>decide (v≠f q')).length<(bA f n).length:=by
  have hm:f q'∈bA f n:=lV.2 ⟨q',dz,rfl⟩;have bf:=List.length_filter_lt_length_iff_exists (p:=fun v=>decide (v≠f q')) (l:=bA f n);exact bf.2 ⟨f q',hm,by simp⟩
 omega
theorem afg {γ:Type} [DecidableEq γ] {f:Nat→β} {c:Nat→γ} {n:Nat} (hr: ∀q q',q<n→q'<n→f q=f q'→c q=c q'):(bA c n).length≤(bA f n).length:=by
 rcases fI (bA f n).length (bA c n).length with h|h
 ·have:=Wg hr (by omega);have rep: ∀v∈bA f n,∃q,q<n∧f q=v:=fun v hv=>lV.1 hv;have: ∃R:β→Nat,∀v∈bA f n,R v<n∧f (R v)=v:=by
   classical
   refine ⟨fun v=>if h:v∈bA f n then Classical.choose (rep v h) else 0,fun v hv=> ?_⟩;simp only[hv,rX];exact Classical.choose_spec (rep v hv)
  obtain ⟨R,hR⟩:=this;have lh:bA c n ⊆ (bA f n).map fun v=>c (R v):=by
   intro u hu;obtain ⟨s,hs,rfl⟩:=lV.1 hu;have h1:=hR (f s) (lV.2 ⟨s,hs,rfl⟩);exact j5.2 ⟨f s,lV.2 ⟨s,hs,rfl⟩,hr _ _ h1.1 hs h1.2⟩
  have h1:=List.Nodup.length_le_of_subset (Wd c n) lh;rw[cH] at h1;omega
 ·exact h
theorem apH {γ:Type} [DecidableEq γ] {f:Nat→β} {c:Nat→γ} {n:Nat} (h: ∀q q',q<n→q'<n→(f q=f q'↔c q=c q')): ∀q,q<n→dF f n q=dF c n q:=by
 have key: ∀m,m≤n→(bA f m).length=(bA c m).length∧∀q,q<m→dF f m q=dF c m q:=by
  intro m
  induction m with
  | zero=>intro _;exact ⟨rfl,fun q hq=>by omega⟩
  | succ m ih=>
   intro hm;obtain ⟨i1,i2⟩:=ih (by omega);have oO:f m∈bA f m↔c m∈bA c m:=by
    rw[lV,lV];exact ⟨fun ⟨q,h1,h2⟩=>⟨q,h1,(h q m (by omega) (by omega)).1 h2⟩,fun ⟨q,h1,h2⟩=>⟨q,h1,(h q m (by omega) (by omega)).2 h2⟩⟩
   refine ⟨?_,fun q hq=> ?_⟩
   ·rw[bA,bA,qz,qz,i1];by_cases hx:f m∈bA f m
    ·rw[ah hx,ah (oO.1 hx)]
    ·rw[ag hx,ag fun h=>hx (oO.2 h)]
   ·rcases fI q m with c1|c1
    ·exact (HC (g:=f) c1 (by omega)).trans ((i2 q c1).trans (HC (g:=c) c1 (by omega)).symm)
    ·obtain rfl:q=m:=by omega
     unfold dF;rw[bA,bA];by_cases hx:f q∈bA f q
     ·obtain ⟨r,h1,h2⟩:=lV.1 hx;have h3:=(h r q (by omega) (by omega)).1 h2;have:=i2 r h1;unfold dF at this;unfold dj;rw[ah hx,ah (oO.1 hx),←h2,←h3,this]
     ·unfold dj;rw[ag hx,ag fun h=>hx (oO.2 h),yN,yN,ag hx,ag fun h=>hx (oO.2 h)];simp[i1]
 exact (key n (az _)).2
end
namespace Da
structure Part (a:Da) (c:Nat→Nat):Prop where
 coarse: ∀q q',q<a.n→q'<a.n→a.rE q a q'→c q=c q'
 fin: ∀q q',q<a.n→q'<a.n→c q=c q'→a.fin q=a.fin q'
def sig (a:Da) (c:Nat→Nat) (q:Nat):List Nat:=c q::(List.range a.L).map fun x=>c (a.nx q x)
theorem As {a:Da} {c:Nat→Nat} {q q':Nat}:a.sig c q=a.sig c q'↔c q=c q'∧∀x,x<a.L→c (a.nx q x)=c (a.nx q' x):=by
 unfold sig;rw[yG];refine and_congr Iff.rfl ⟨fun h x hx=> ?_,fun h=>sa fun x hx=>h x (jG.1 hx)⟩;have:=congrArg (fun l=>l.getD x 0) h;simpa[hx] using this
def N7 (a:Da) (c f:Nat→Nat):Prop:= ∀q q',q<a.n→q'<a.n→(f q=f q'↔a.sig c q=a.sig c q')
theorem N7.part {a:Da} {c f:Nat→Nat} (h:a.N7 c f) (ha:a.Ok) (hc:a.Part c):a.Part f where
 coarse q q' hq dz he:=(h q q' hq dz).2 (As.2 ⟨hc.coarse q q' hq dz he,fun x hx=>hc.coarse _ _ (ha.fN hq hx) (ha.fN dz hx) (he.nx hx)⟩)
 fin q q' hq dz he:=hc.fin q q' hq dz (As.1 ((h q q' hq dz).1 he)).1
def Au (a:Da) (p:Nat→Nat):Prop:=(∀q q',q<a.n→q'<a.n→(p q=p q'↔a.rE q a q'))∧rK p a.n
theorem Part.afh {a:Da} {c:Nat→Nat} (hc:a.Part c) (ha:a.Ok) (hs: ∀q q',q<a.n→q'<a.n→c q=c q'→a.sig c q=a.sig c q'): ∀q q',q<a.n→q'<a.n→(c q=c q'↔a.rE q a q'):=by
 intro q q' hq dz;refine ⟨fun h w=> ?_,hc.coarse q q' hq dz⟩
 induction w generalizing q q' with
 | nil=>intro _;rw[rF,rF];exact hc.fin q q' hq dz h
 | cons x w ih=>
  intro hw;rw[NM,NM];exact ih _ _ (ha.fN hq hw.head) (ha.fN dz hw.head) ((As.1 (hs q q' hq dz h)).2 x hw.head) hw.tail
def fA (p:Nat→Nat):Nat→List Nat
 | 0=>[]
 | n+1=>if p n∈bA p n then fA p n else fA p n++[n]
theorem N8 {p:Nat→Nat}: ∀n,(fA p n).map p=bA p n
 | 0=>rfl
 | n+1=>by
  rw[fA,bA];unfold dj;split
  ·exact N8 n
  ·rw[qV,N8 n];rfl
theorem CX {p:Nat→Nat} {n:Nat}:(fA p n).length=(bA p n).length:=by rw[←N8,cH]
theorem Av {p:Nat→Nat}: ∀{n q},q∈fA p n→q<n
 | 0,q,h=>by cases h
 | n+1,q,h=>by
  rw[fA] at h;split at h
  ·have:=Av h;omega
  ·rcases eW.1 h with h|h
   ·have:=Av h;omega
   ·rw[jF.1 h];omega
theorem CY {p:Nat→Nat} {n:Nat} (ho:rK p n) {c:Nat} (hc:c<(fA p n).length):p (fA p n)[c]=c:=by
 have h1:=ho n (az _);have h2:((fA p n).map p)[c]? =some c:=by rw[N8,h1,Ei (by rw[CX] at hc;exact hc)]
 rw[gE,cp hc] at h2;exact eo h2
theorem HD {p:Nat→Nat} {n q:Nat} (ho:rK p n) (hq:q<n):p q<(fA p n).length:=by
 have h1:p q∈bA p n:=lV.2 ⟨q,hq,rfl⟩;rw[ho n (az _),jG] at h1;rw[CX];exact h1
def quo (a:Da) (p:Nat→Nat):Da where
 L:=a.L
 st:=p a.st
 F:=(fA p a.n).map a.fin
 N:=(fA p a.n).map fun q=>tab a.L fun x=>p (a.nx q x)
theorem wk {a:Da} {p:Nat→Nat}:(a.quo p).n=(fA p a.n).length:=by simp[quo,n]
theorem afi {a:Da} {p:Nat→Nat} {c:Nat} (hc:c<(fA p a.n).length):(a.quo p).fin c=a.fin (fA p a.n)[c]:=by
 show ((fA p a.n).map a.fin).getD c false=_;rw[fH (by simpa using hc),List.getElem_map]
theorem afj {a:Da} {p:Nat→Nat} {c x:Nat} (hc:c<(fA p a.n).length) (hx:x<a.L):(a.quo p).nx c x=p (a.nx (fA p a.n)[c] x):=by
 show (((fA p a.n).map fun q=>tab a.L fun x=>p (a.nx q x)).getD c []).getD x 0=_;rw[fH (l:=(fA p a.n).map fun q=>tab a.L fun x=>p (a.nx q x)) (by simpa using hc),List.getElem_map,xT hx]
section
variable {a:Da} {p:Nat→Nat} (ha:a.Ok) (hp:a.Au p)
include ha hp
theorem N9:(a.quo p).Ok where
 l1:=ha.l1
 l6:=ha.l6
 nN:=by rw[wk];simp[quo]
 row r hr:=by
  rw[wk];obtain ⟨q,hq,rfl⟩:=j5.1 (show r∈(fA p a.n).map _ from hr);refine ⟨by simp[quo],fun s hs=> ?_⟩;obtain ⟨x,hx,rfl⟩:=uD.1 hs;exact HD hp.2 (ha.fN (Av hq) hx)
 s:=by rw[wk];exact HD hp.2 ha.s
 cU:=by
  rw[wk,CX];have:=wj p a.n;have:=ha.cU;omega
theorem Oa: ∀(w:List Nat) {q:Nat},q<a.n→WL a.L w→(a.quo p).acc (p q) w=a.acc q w
 | [],q,hq,_=>by
  have hc:=HD hp.2 hq;rw[rF,rF,afi hc];have h1:=(hp.1 _ _ (Av (ff hc)) hq).1 (CY hp.2 hc);have:=h1 [] WL.nil;rwa [rF,rF] at this
 | x::w,q,hq,hw=>by
  have hc:=HD hp.2 hq;have hr:=Av (ff hc);have h1:=(hp.1 _ _ hr hq).1 (CY hp.2 hc);have h2:=(hp.1 _ _ (ha.fN hr hw.head) (ha.fN hq hw.head)).2 (h1.nx hw.head);rw[NM,NM,afj hc hw.head,h2];exact Oa w (ha.fN hq hw.head) hw.tail
theorem apI: ∀c d,c<(a.quo p).n→d<(a.quo p).n→(a.quo p).rE c (a.quo p) d→c=d:=by
 intro c d hc hd he;rw[wk] at hc hd;have r1:=Av (ff hc);have r2:=Av (ff hd);rw[←CY hp.2 hc,←CY hp.2 hd];refine (hp.1 _ _ r1 r2).2 fun w hw=> ?_;rw[←Oa ha hp w r1 hw,←Oa ha hp w r2 hw,CY hp.2 hc,CY hp.2 hd];exact he w hw
theorem Wh:(a.quo p).trim.Canon a.L (a.acc a.st):=by
 have h:=(N9 ha hp).aom (apI ha hp);exact ⟨h.ok,h.hL,h.st,h.num,h.red,fun w hw=>(h.rG w hw).trans (Oa ha hp w ha.s hw)⟩
end
end Da
end Go.AM
