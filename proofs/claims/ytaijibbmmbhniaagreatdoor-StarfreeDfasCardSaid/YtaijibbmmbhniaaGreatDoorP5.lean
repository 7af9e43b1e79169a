/-
  Functions of the program, lifted to plain data.
-/
import Derived.Test.YtaijibbmmbhniaaGreatDoorProg
import Derived.Tactics
import Derived.Tactics2
import Derived.StillTactics
import Derived.Laws.Pointers
import Derived.Lib.LazyBuf
import Derived.RegionTactic
import Derived.LoopTactic
import Derived.WalkKit
import Derived.Test.YtaijibbmmbhniaaGreatDoorRows
import Derived.Lib.LaidTab
import Derived.LaidHandle
import Derived.LaidSub
import Derived.MakeChecks
import Derived.Lay
import Derived.Test.YtaijibbmmbhniaaGreatDoorP4
set_option linter.unusedVariables false
set_option linter.unusedSimpArgs false
set_option linter.unusedSectionVars false
set_option maxRecDepth 100000
namespace Go.AM
open Go.IntKind (wrap)
open Go.Proofs
abbrev Cr:List UInt8:=[0,1,2,2,3,3,3,3,4,4,4,4,4,4,4,4,5,5,5,5,5,5,5,5,5,5,5,5,5,5,5,5,6,6,6,6,6,6,6,6,6,6,6,6,6,6,6,6,6,6,6,6,6,6,6,6,6,6,6,6,6,6,6,6,7,7,7,7,7,7,7,7,7,7,7,7,7,7,7,7,7,7,7,7,7,7,7,7,7,7,7,7,7,7,7,7,7,7,7,7,7,7,7,7,7,7,7,7,7,7,7,7,7,7,7,7,7,7,7,7,7,7,7,7,7,7,7,7,8,8,8,8,8,8,8,8,8,8,8,8,8,8,8,8,8,8,8,8,8,8,8,8,8,8,8,8,8,8,8,8,8,8,8,8,8,8,8,8,8,8,8,8,8,8,8,8,8,8,8,8,8,8,8,8,8,8,8,8,8,8,8,8,8,8,8,8,8,8,8,8,8,8,8,8,8,8,8,8,8,8,8,8,8,8,8,8,8,8,8,8,8,8,8,8,8,8,8,8,8,8,8,8,8,8,8,8,8,8,8,8,8,8,8,8,8,8,8,8,8,8,8,8,8,8,8,8]
abbrev pA:List UInt8:=[48,48,48,49,48,50,48,51,48,52,48,53,48,54,48,55,48,56,48,57,49,48,49,49,49,50,49,51,49,52,49,53,49,54,49,55,49,56,49,57,50,48,50,49,50,50,50,51,50,52,50,53,50,54,50,55,50,56,50,57,51,48,51,49,51,50,51,51,51,52,51,53,51,54,51,55,51,56,51,57,52,48,52,49,52,50,52,51,52,52,52,53,52,54,52,55,52,56,52,57,53,48,53,49,53,50,53,51,53,52,53,53,53,54,53,55,53,56,53,57,54,48,54,49,54,50,54,51,54,52,54,53,54,54,54,55,54,56,54,57,55,48,55,49,55,50,55,51,55,52,55,53,55,54,55,55,55,56,55,57,56,48,56,49,56,50,56,51,56,52,56,53,56,54,56,55,56,56,56,57,57,48,57,49,57,50,57,51,57,52,57,53,57,54,57,55,57,56,57,57]
abbrev SC:FuncId:=3
abbrev Mt:FuncId:=4
abbrev vS:FuncId:=5
abbrev Mu:FuncId:=6
abbrev FW:FuncId:=7
abbrev FX:FuncId:=8
abbrev Mv:FuncId:=9
abbrev FY:FuncId:=10
abbrev FZ:FuncId:=11
abbrev Mw:FuncId:=12
abbrev F0:FuncId:=13
abbrev Cs:FuncId:=14
abbrev F3:FuncId:=15
abbrev Mx:FuncId:=16
abbrev pB:FuncId:=17
abbrev amG:FuncId:=18
abbrev amH:FuncId:=19
abbrev amI:FuncId:=20
abbrev My:FuncId:=21
abbrev zS:FuncId:=22
abbrev F4:FuncId:=23
abbrev zT:FuncId:=24
abbrev F5:FuncId:=25
abbrev Ct:FuncId:=26
abbrev xD:FuncId:=27
abbrev Mz:FuncId:=28
abbrev MA:FuncId:=29
abbrev MB:FuncId:=30
abbrev amJ:FuncId:=31
abbrev amK:FuncId:=32
abbrev amL:FuncId:=33
abbrev amM:FuncId:=34
abbrev MC:FuncId:=35
abbrev MD:FuncId:=36
abbrev ME:FuncId:=37
abbrev zU:FuncId:=38
abbrev MF:FuncId:=39
abbrev MG:FuncId:=40
abbrev F6:FuncId:=41
abbrev F7:FuncId:=42
abbrev MH:FuncId:=43
abbrev MI:FuncId:=44
abbrev MJ:FuncId:=45
abbrev amN:FuncId:=46
abbrev amO:FuncId:=47
abbrev amP:FuncId:=48
abbrev amQ:FuncId:=49
abbrev amR:FuncId:=50
abbrev F8:FuncId:=51
abbrev F9:FuncId:=52
abbrev MK:FuncId:=53
abbrev ML:FuncId:=54
abbrev Cu:FuncId:=55
abbrev Ga:FuncId:=56
abbrev MM:FuncId:=57
abbrev Gb:FuncId:=58
abbrev Gc:FuncId:=59
abbrev Ge:FuncId:=60
abbrev MN:FuncId:=61
abbrev xE:FuncId:=62
abbrev vT:FuncId:=63
abbrev vU:FuncId:=64
abbrev Gf:FuncId:=65
abbrev Gg:FuncId:=66
abbrev Gh:FuncId:=67
abbrev Gi:FuncId:=68
abbrev MO:FuncId:=69
abbrev Gj:FuncId:=70
abbrev Gk:FuncId:=71
abbrev Gl:FuncId:=72
abbrev rz:FuncId:=73
abbrev Gm:FuncId:=75
abbrev MP:FuncId:=76
abbrev MQ:FuncId:=77
abbrev MR:FuncId:=78
abbrev Gn:FuncId:=79
abbrev vV:FuncId:=80
abbrev vW:FuncId:=81
abbrev Gp:FuncId:=82
abbrev MS:FuncId:=84
abbrev Gq:FuncId:=85
abbrev cR:FuncId:=86
abbrev Gr:FuncId:=87
abbrev vX:FuncId:=88
abbrev MT:FuncId:=89
abbrev Gs:FuncId:=90
abbrev Gt:FuncId:=91
abbrev Cv:FuncId:=92
abbrev MU:FuncId:=93
abbrev Gu:FuncId:=94
abbrev SD:FuncId:=95
abbrev Gv:FuncId:=96
abbrev Gw:FuncId:=97
abbrev Gx:FuncId:=98
abbrev MV:FuncId:=99
abbrev MW:FuncId:=100
abbrev MX:FuncId:=101
abbrev MY:FuncId:=103
abbrev vY:FuncId:=104
abbrev vZ:FuncId:=105
abbrev SF:FuncId:=106
abbrev SG:FuncId:=107
abbrev SH:FuncId:=108
abbrev SI:FuncId:=109
abbrev SJ:FuncId:=110
abbrev SK:FuncId:=111
abbrev SM:FuncId:=112
abbrev SN:FuncId:=113
abbrev Gy:FuncId:=115
abbrev MZ:FuncId:=116
abbrev zV:FuncId:=117
abbrev M0:FuncId:=118
abbrev v5:FuncId:=119
abbrev M1:FuncId:=120
abbrev SO:FuncId:=121
abbrev Gz:FuncId:=124
abbrev SP:FuncId:=125
abbrev M3:FuncId:=126
abbrev M4:FuncId:=127
abbrev SQ:FuncId:=128
abbrev SR:FuncId:=129
abbrev M5:FuncId:=130
abbrev M6:FuncId:=131
abbrev GA:FuncId:=132
abbrev ur:FuncId:=133
abbrev M7:FuncId:=134
abbrev M8:FuncId:=136
abbrev SS:FuncId:=137
abbrev M9:FuncId:=138
abbrev Na:FuncId:=139
abbrev GB:FuncId:=140
abbrev aF:TypeId:=3
abbrev ao:TypeId:=4
abbrev fF:TypeId:=5
abbrev GC:TypeId:=9
abbrev ar:TypeId:=22
abbrev dA:TypeId:=39
abbrev jy:TypeId:=45
abbrev dX:TypeId:=56
abbrev dY:TypeId:=57
abbrev dp:TypeId:=63
abbrev bt:TypeId:=69
abbrev Nb:TypeId:=80
abbrev SU:TypeId:=83
abbrev jz:TypeId:=89
abbrev jP:TypeId:=91
abbrev gv:TypeId:=94
abbrev kH:TypeId:=115
abbrev iO:TypeId:=117
abbrev GD:TypeId:=153
abbrev SV:Nat:=164
abbrev SW:Nat:=165
abbrev SX:Nat:=166
abbrev SY:Nat:=167
def Nc:List V:=[.int .u64 1,.int .u64 10,.int .u64 100,.int .u64 1000,.int .u64 10000,.int .u64 100000,.int .u64 1000000,.int .u64 10000000,.int .u64 100000000,.int .u64 1000000000,.int .u64 10000000000,.int .u64 100000000000,.int .u64 1000000000000,.int .u64 10000000000000,.int .u64 100000000000000,.int .u64 1000000000000000,.int .u64 10000000000000000,.int .u64 100000000000000000,.int .u64 1000000000000000000,.int .u64 10000000000000000000]
def SZ:List V:=[.int .u8 0,.int .u8 1,.int .u8 28,.int .u8 2,.int .u8 29,.int .u8 14,.int .u8 24,.int .u8 3,.int .u8 30,.int .u8 22,.int .u8 20,.int .u8 15,.int .u8 25,.int .u8 17,.int .u8 4,.int .u8 8,.int .u8 31,.int .u8 27,.int .u8 13,.int .u8 23,.int .u8 21,.int .u8 19,.int .u8 16,.int .u8 7,.int .u8 26,.int .u8 12,.int .u8 18,.int .u8 6,.int .u8 11,.int .u8 5,.int .u8 10,.int .u8 9]
def Cw:List V:=[.int .u8 0,.int .u8 1,.int .u8 56,.int .u8 2,.int .u8 57,.int .u8 49,.int .u8 28,.int .u8 3,.int .u8 61,.int .u8 58,.int .u8 42,.int .u8 50,.int .u8 38,.int .u8 29,.int .u8 17,.int .u8 4,.int .u8 62,.int .u8 47,.int .u8 59,.int .u8 36,.int .u8 45,.int .u8 43,.int .u8 51,.int .u8 22,.int .u8 53,.int .u8 39,.int .u8 33,.int .u8 30,.int .u8 24,.int .u8 18,.int .u8 12,.int .u8 5,.int .u8 63,.int .u8 55,.int .u8 48,.int .u8 27,.int .u8 60,.int .u8 41,.int .u8 37,.int .u8 16,.int .u8 46,.int .u8 35,.int .u8 44,.int .u8 21,.int .u8 52,.int .u8 32,.int .u8 23,.int .u8 11,.int .u8 54,.int .u8 26,.int .u8 40,.int .u8 15,.int .u8 34,.int .u8 20,.int .u8 31,.int .u8 10,.int .u8 25,.int .u8 14,.int .u8 19,.int .u8 9,.int .u8 13,.int .u8 8,.int .u8 7,.int .u8 6]
abbrev aa:VS:= .one (.int .i64)
abbrev dq:VS:= .one (.int .u64)
abbrev aV:VS:= .one (.dk 0 0 0)
abbrev aC:VS:= .one (.bool)
abbrev pC:VS:= .one (.list ar)
abbrev zW:VS:= .one (.list ao)
abbrev cY:VS:= .one (.dk 1 0 0)
abbrev fT:VS:= .one (.list aF)
abbrev cP:VS:= .one (.whole bt 0)
abbrev dQ:VS:= .one (.dk 2 0 0)
abbrev jQ:VS:= .one (.list jy)
abbrev oa:VS:= .one (.list bt)
abbrev gT:VS:= .one (.dk 3 0 0)
abbrev ll:VS:= .one (.whole aF 1)
abbrev amS:VS:= .one (.whole ao 6)
abbrev amT:VS:= .one (.whole ar 7)
abbrev mD:VS:= .one (.dk 4 0 0)
abbrev rA:VS:= .one (.whole aF 3)
abbrev oS:VS:= .one (.str)
abbrev S3:VS:= .one (.whole ao 3)
abbrev amU:VS:= .one (.whole ao 8)
abbrev amV:VS:= .one (.whole ar 9)
abbrev pD:VS:= .one (.whole dA 0)
abbrev amW:VS:= .one (.whole ao 5)
abbrev amX:VS:= .one (.whole ar 6)
abbrev v7:VS:= .one (.whole aF 2)
abbrev amY:VS:= .one (.whole ar 4)
abbrev uu:VS:= .one (.whole aF 4)
abbrev sV:VS:= .one (.dk 5 0 0)
abbrev xF:VS:= .one (.whole aF 0)
abbrev amZ:VS:= .one (.whole ao 4)
abbrev am0:VS:= .one (.whole ar 5)
abbrev acu:VS:= .one (.whole bt 2)
abbrev xG:VS:= .one (.list Nb)
abbrev Ng:VS:= .one (.cD dX 2)
abbrev Nh:VS:= .one (.cD dY 3)
abbrev zX:VS:= .one (.whole SU 1)
abbrev am1:VS:= .one (.whole ao 7)
abbrev am2:VS:= .one (.whole ar 8)
abbrev am3:VS:= .one (.whole ao 9)
abbrev am4:VS:= .one (.whole ar 10)
abbrev am5:VS:= .one (.whole ao 10)
abbrev am6:VS:= .one (.whole ar 11)
abbrev am7:VS:= .one (.whole jy 4)
abbrev Ni:VS:= .one (.whole ao 1)
abbrev zY:VS:= .one (.whole aF 5)
abbrev S4:VS:= .one (.whole bt 1)
abbrev am8:VS:= .one (.list gv)
abbrev zZ:VS:= .one (.whole fF 1)
abbrev z0:VS:= .one (.whole dp 2)
abbrev am9:VS:= .one (.whole jy 5)
abbrev acv:VS:= .one (.whole ao 2)
abbrev z7:VS:= .one (.whole aF 7)
abbrev S5:VS:= .one (.whole bt 3)
abbrev GF:VS:= .one (.list dp)
abbrev acw:VS:= .one (.whole dA 1)
abbrev GG:VS:= .one (.whole jz 3)
abbrev GH:VS:= .one (.cD kH 3)
abbrev ana:VS:= .one (.whole ar 3)
abbrev Nj:VS:= .one (.whole dA 2)
abbrev anb:VS:= .one (.whole bt 12)
abbrev Nk:VS:= .one (.cD jP 4)
abbrev GI:VS:= .one (.dk 6 0 0)
abbrev anc:VS:= .one (.whole ar 2)
abbrev ane:VS:= .one (.whole bt 4)
abbrev acx:VS:= .one (.whole dA 4)
abbrev acy:VS:= .one (.whole bt 5)
abbrev anf:VS:= .one (.whole dA 6)
abbrev Nl:VS:= .one (.sub fF 0)
abbrev ang:VS:= .one (.cD dX 5)
abbrev anh:VS:= .one (.cD dY 6)
abbrev ani:VS:= .one (.whole bt 11)
abbrev acz:VS:= .one (.whole dp 3)
abbrev acA:VS:= .one (.whole GC 2)
abbrev S6:VS:= .one (.whole aF 6)
abbrev acB:VS:= .one (.cD GD 2)
abbrev Nm:VS:= .one (.whole fF 0)
abbrev anj:VS:= .one (.whole ao 11)
abbrev ank:VS:= .one (.whole ar 12)
abbrev Cx:VS:= .agg [.int .i64,.int .i64,.list ao,.list ar]
abbrev Cy:VS:= .agg [.int .i64,.int .i64,.whole ao 0,.whole ar 1]
abbrev GJ:VS:= .agg [.int .u64,.int .u64]
abbrev acC:VS:= .agg [.int .i64,.int .i64,.int .u64,.int .u64,.list bt]
abbrev Nn:VS:= .agg [.list jy,.int .i64]
abbrev acD:VS:= .agg [.int .i64,.int .i64,.int .i64]
abbrev Cz:VS:= .agg [.int .i64,.int .i64]
abbrev No:VS:= .agg [.int .i64,.int .i64,.int .i64,.int .i64]
abbrev Np:VS:= .agg [.int .i64,.int .i64,.whole ao 4,.whole ar 5]
abbrev S7:VS:= .agg [.int .i64,.int .i64,.whole ao 2,.whole ar 3]
abbrev eE:BS:= .var 39 [aa,aa,zW,pC]
abbrev pE:BS:= .var 45 [aa,aa,aa,aa]
abbrev sW:BS:= .var 39 [aa,aa,amS,amT]
abbrev uv:BS:= .var 39 [aa,aa,amU,amV]
abbrev oT:BS:= .var 66 [aa,aa,dq,dq,oa]
abbrev xH:BS:= .var 3 [aa]
abbrev nj:BS:= .var 28 [jQ,aa]
abbrev xI:BS:= .var 39 [aa,aa,amW,amX]
abbrev CA:BS:= .var 39 [aa,aa,S3,amY]
abbrev xJ:BS:= .var 42 [fT,aa]
abbrev z8:BS:= .var 39 [aa,aa,amZ,am0]
abbrev anl:BS:= .var 134 [aa,aa,dq,dq,acu]
abbrev GK:BS:= .var 39 [aa,aa,am1,am2]
abbrev CB:BS:= .var 39 [aa,aa,am3,am4]
abbrev GL:BS:= .var 39 [aa,aa,am5,am6]
abbrev S8:BS:= .var 28 [am7,aa]
abbrev xK:BS:= .var 183 [am8]
abbrev CD:BS:= .var 89 [aa,aa]
abbrev anm:BS:= .var 28 [am9,aa]
abbrev ano:BS:= .var 134 [aa,aa,dq,dq,S4]
abbrev S9:BS:= .var 39 [aa,aa,acv,ana]
abbrev acE:BS:= .var 66 [aa,aa,dq,dq,anb]
abbrev acF:BS:= .var 39 [aa,aa,Ni,anc]
abbrev anp:BS:= .var 66 [aa,aa,dq,dq,S5]
abbrev anq:BS:= .var 66 [aa,aa,dq,dq,ane]
abbrev Ta:BS:= .var 175 [dq]
abbrev acG:BS:= .var 59 [aa,anf,Ng,Nh]
abbrev anr:BS:= .var 59 [aa,acw,Ng,Nh]
abbrev ans:BS:= .var 59 [aa,acx,ang,anh]
abbrev ant:BS:= .var 66 [aa,aa,dq,dq,ani]
abbrev Nq:BS:= .var 83 [dq,dq]
abbrev acH:BS:= .var 66 [aa,aa,dq,dq,acy]
abbrev acI:BS:= .var 39 [aa,aa,anj,ank]
abbrev anu:BS:= .var 59 [aa,.one (.whole dA 3),.one (.cD dX 4),.one (.cD dY 5)]
abbrev anv:BS:= .var 134 [aa,aa,dq,dq,.one (.whole bt 7)]
abbrev anw:BS:= .var 141 [.one (.whole jz 10),.one (.cD jP 11)]
abbrev anx:BS:= .var 39 [aa,aa,.one (.whole ao 12),.one (.whole ar 13)]
abbrev anz:BS:= .var 141 [.one (.whole jz 8),.one (.cD jP 9)]
abbrev anA:BS:= .var 182 [.one (.whole dp 8),.one (.cD kH 9)]
abbrev anB:BS:= .var 182 [.one (.whole dp 7),.one (.cD kH 8)]
abbrev ch:BS:= .arr ao false
abbrev cF:BS:= .arr ar false
abbrev jR:BS:= .arr bt false
abbrev dx:BS:= .arr aF false
abbrev jS:BS:= .arr dA false
abbrev xL:BS:= .arr jy false
abbrev qt:BS:= .arr dp false
abbrev GM:BS:= .arr fF false
abbrev sX:BS:= .arr jz false
abbrev acJ:BS:= .arr SU false
abbrev acK:BS:= .arr GC false
abbrev acL:BS:= .nest ar
abbrev Nr:BS:= .nest gv
abbrev cq:List BS:=[jR]
abbrev oc:List BS:=[eE]
abbrev pF:List BS:=[dx]
abbrev qu:List BS:=[ch,cF]
abbrev rB:List BS:=[pE,acJ]
abbrev rC:List BS:=[anl,.dead,jR]
abbrev uw:List BS:=[GM]
abbrev ux:List BS:=[xH]
abbrev xM:List BS:=[xJ,S8,anm,pE,xL,xL]
abbrev xN:List BS:=[eE,eE]
abbrev xO:List BS:=[ano,jR]
abbrev z9:List BS:=[eE,dx]
abbrev CE:List BS:=[jS,pE,CA,ch,acL]
abbrev CF:List BS:=[eE,CA,xI,ch,cF,ch,cF]
abbrev CG:List BS:=[eE,anp,anq,jR,jR]
abbrev CH:List BS:=[eE,GM]
abbrev GN:List BS:=[anr,jS,.map dX,.map dY]
abbrev Ns:List BS:=[jS,S9,ch,acL]
abbrev Nt:List BS:=[ans,dx,jS,pE,jS,.map dX,.map dY]
abbrev Nu:List BS:=[xI,GK,CB,ant,acE,ch,cF,ch,cF,ch,cF,jR,jR]
abbrev Nv:List BS:=[nj,dx,pE]
abbrev Nw:List BS:=[eE,z8,dx,dx,ch,cF]
abbrev Nx:List BS:=[oT,sW,qt,.map kH,uv,dx,ch,cF,ch,cF]
abbrev Ny:List BS:=[eE,dx,acK,ch]
abbrev Nz:List BS:=[z8,sW,dx,dx,ch,cF,ch,cF]
abbrev NA:List BS:=[jR,Ta]
abbrev NB:List BS:=[acG,.dead,.map dX,.map dY,ch,cF,jS]
abbrev Tb:List BS:=[acF,ch,cF]
abbrev Td:List BS:=[eE,eE,uv,sX,.map jP,GL,CD,dx,ch,cF,ch,cF]
abbrev Te:List BS:=[acF,ch,cF,qt]
abbrev Tf:List BS:=[eE,eE,xH]
abbrev Tg:List BS:=[ch,cF,dx]
abbrev acM:List BS:=[anu,dx,jS,jS,.map dX,.map dY]
abbrev acN:List BS:=[sW,uv,GL,acE,acH,jR,ch,cF,ch,cF,ch,cF,jR]
abbrev acO:List BS:=[eE,z8,sW,dx,ch,cF,ch,cF]
abbrev acP:List BS:=[eE,eE,sW,sX,.map jP,uv,ch,cF,ch,cF]
abbrev acQ:List BS:=[eE,sW,dx,uv,dx,dx,ch,cF,ch,cF]
abbrev acR:List BS:=[eE,xI,dx,GK,dx,ch,cF,ch,cF]
abbrev acS:List BS:=[oT,xI,qt,.map kH,GK,ch,cF,ch,cF]
abbrev acT:List BS:=[CA,xI,anv,ch,cF,ch,cF,jR]
abbrev acU:List BS:=[eE,GK,CB,dx,dx,acI,dx,ch,cF,ch,cF,ch,cF]
abbrev acV:List BS:=[eE,sW,uv,dx,dx,GL,ch,cF,ch,cF,ch,cF]
abbrev acW:List BS:=[sW,dx,uv,dx,dx,dx,ch,cF,ch,cF]
abbrev acX:List BS:=[eE,eE,xH,uv,anw,anx,CD,dx,ch,cF,sX,.map jP,ch,cF]
abbrev acY:List BS:=[eE,eE,xH,sW,anz,GL,ch,cF,sX,.map jP,ch,cF]
abbrev acZ:List BS:=[xK,oT,sW,anA,GL,dx,ch,cF,qt,.map kH,ch,cF]
abbrev ac0:List BS:=[xK,oT,xI,anB,CB,ch,cF,qt,.map kH,ch,cF]
abbrev eQ:List (Nat×VS):=[(0,aa)]
abbrev ln:List (Nat×VS):=[(0,aC)]
abbrev pG:List (Nat×VS):=[(0,Cx)]
abbrev pH:List (Nat×VS):=[(0,dq)]
abbrev xP:List (Nat×VS):=[(0,Cy),(1,aa)]
abbrev Aa:List (Nat×VS):=[(2,aa)]
abbrev Ab:List (Nat×VS):=[(0,aa),(1,aa)]
abbrev Ac:List (Nat×VS):=[(0,acC)]
abbrev CI:List (Nat×VS):=[(0,aV),(1,aa)]
abbrev GO:List (Nat×VS):=[(4,aC)]
abbrev GP:List (Nat×VS):=[(1,xG),(2,oS),(3,aV),(7,zX),(15,aa),(16,aa)]
abbrev GQ:List (Nat×VS):=[(0,fT)]
abbrev GR:List (Nat×VS):=[(0,Cx),(1,Cx)]
abbrev GS:List (Nat×VS):=[(0,Cy)]
abbrev GU:List (Nat×VS):=[(0,xF)]
abbrev GV:List (Nat×VS):=[(0,GJ)]
abbrev NC:List (Nat×VS):=[(0,aV),(1,aa),(6,cY),(7,dQ),(8,aa),(9,aa),(10,gT)]
abbrev ND:List (Nat×VS):=[(0,Nn),(1,aa)]
abbrev NF:List (Nat×VS):=[(0,Cx),(1,Cx),(2,aa)]
abbrev Th:List (Nat×VS):=[(1,aa),(2,aV),(17,jQ),(18,aa),(19,aa)]
abbrev Ti:List (Nat×VS):=[(6,aV),(7,aa)]
abbrev Tj:List (Nat×VS):=[(2,aV),(3,acz),(4,aa)]
abbrev Tk:List (Nat×VS):=[(0,GJ),(1,GJ)]
abbrev Tl:List (Nat×VS):=[(0,acD),(1,acD)]
abbrev Tm:List (Nat×VS):=[(0,Cy),(1,v7)]
abbrev ac1:List (Nat×VS):=[(7,aV),(8,ll),(9,Nj),(10,aa),(11,gT),(34,jQ),(35,aa),(36,aa)]
abbrev ac2:List (Nat×VS):=[(1,aV),(3,ll),(4,aa),(5,dQ),(18,jQ),(19,aa),(20,aa)]
abbrev ac3:List (Nat×VS):=[(1,aV),(3,aa),(38,pC),(39,aa),(40,aa),(49,fT),(50,aa),(51,aa)]
abbrev ac4:List (Nat×VS):=[(1,aV),(3,aa),(38,pC),(39,aa),(40,aa),(49,fT),(50,aa),(51,aa),(52,aC)]
abbrev ac5:List (Nat×VS):=[(1,aV),(3,aa),(38,pC),(39,aa),(40,aa),(41,aC)]
abbrev ac6:List (Nat×VS):=[(6,pD),(8,acw),(44,aa),(45,aa)]
def Tn:Shape×List (Out×Shape):=(⟨ac6,[jS,jS]⟩,[(.ret,⟨[(2,aC)],[]⟩),(.exit 0,⟨ac6++[(46,aC)],[jS,jS]⟩)])
def To:Shape×List (Out×Shape):=(⟨[(0,aV),(1,aa),(6,cY),(7,dQ),(8,aa),(9,aa),(10,gT),(25,aC)],xM⟩,[(.norm,⟨NC,xM⟩)])
def Tr:Shape×List (Out×Shape):=(⟨[(0,aV),(1,aa),(6,cY),(7,dQ),(8,aa),(9,aa),(10,gT),(33,aC)],xM⟩,[(.norm,⟨NC,xM⟩)])
def Ts:Shape×List (Out×Shape):=(⟨[(0,aV),(1,aa),(6,cY),(7,dQ),(8,aa),(9,aa),(10,gT),(40,aC)],xM⟩,[(.norm,⟨NC,xM⟩)])
def Tt:Shape×List (Out×Shape):=(⟨[(0,aV),(1,aa),(6,cY),(7,dQ),(8,aa),(9,aa),(10,gT),(52,aC)],xM⟩,[(.norm,⟨NC,xM⟩)])
abbrev ac7:List (Nat×VS):=[(0,aV),(1,aa),(6,cY),(7,dQ),(8,aa),(9,aa)]
def Tu:Shape×List (Out×Shape):=(⟨ac7,[xJ,.var 28 [.one (.whole jy 3),aa],S8,xL,xL]⟩,[(.exit 0,⟨ac7++[(17,aC)],[xJ,.var 28 [.one (.whole jy 3),aa],S8,xL,xL]⟩)])
abbrev ac8:List (Nat×VS):=[(1,aa),(7,pD),(10,cY),(11,aa),(12,aa),(13,aa),(24,jQ),(25,aa),(26,aa)]
def Tv:Shape×List (Out×Shape):=(⟨ac8,Ns⟩,[(.exit 5,⟨ac8++[(56,aC)],Ns⟩)])
abbrev ac9:List (Nat×VS):=[(1,aa),(7,pD),(10,cY),(11,aa),(12,aa),(24,jQ),(25,aa),(26,aa)]
def Tw:Shape×List (Out×Shape):=(⟨ac9,Ns⟩,[(.exit 3,⟨ac9++[(46,aC)],Ns⟩)])
def Tx:Shape×List (Out×Shape):=(⟨[(1,aa),(7,pD),(9,cY),(10,dQ),(11,aa),(14,aa),(15,aa),(16,aa),(24,jQ),(25,aa),(26,aa),(96,aC)],CE⟩,[(.norm,⟨[(1,aa),(7,pD),(9,cY),(10,dQ),(11,aa),(14,aa),(15,aa),(16,aa),(24,jQ),(25,aa),(26,aa)],CE⟩)])
abbrev ada:List (Nat×VS):=[(1,aa),(7,pD),(9,cY),(10,dQ),(11,aa),(14,aa),(15,aa),(24,jQ),(25,aa),(26,aa)]
def Tz:Shape×List (Out×Shape):=(⟨ada,CE⟩,[(.exit 9,⟨ada++[(86,aC)],CE⟩)])
abbrev adb:List (Nat×VS):=[(1,aa),(7,pD),(9,cY),(10,dQ),(11,aa),(14,aa),(24,jQ),(25,aa),(26,aa)]
def TA:Shape×List (Out×Shape):=(⟨adb,CE⟩,[(.exit 7,⟨adb++[(76,aC)],CE⟩)])
def TB:Shape×List (Out×Shape):=(⟨[(1,aa),(7,pD),(9,cY),(10,dQ),(11,aa),(24,jQ),(25,aa),(26,aa),(31,aa),(109,aC)],[jS,pE,CA,ch,cF]⟩,[(.norm,⟨[(1,aa),(7,pD),(10,cY),(11,aa),(24,jQ),(25,aa),(26,aa)],[jS,S9,ch,cF]⟩)])
abbrev ade:List (Nat×VS):=[(1,aa),(7,pD),(24,jQ),(25,aa),(26,aa)]
def TC:Shape×List (Out×Shape):=(⟨ade,[jS]⟩,[(.ret,⟨[(4,pD),(5,aa)],[jS]⟩),(.exit 0,⟨ade++[(27,aC)],[jS]⟩)])
def TD:Shape×List (Out×Shape):=(⟨[(7,aV),(8,ll),(9,Nj),(10,aa),(11,gT),(34,jQ),(35,aa),(36,aa),(44,aC)],Nt⟩,[(.norm,⟨ac1,Nt⟩)])
def TE:Shape×List (Out×Shape):=(⟨[(7,aV),(8,ll),(9,Nj),(10,aa),(11,gT),(34,jQ),(35,aa),(36,aa),(54,aC)],Nt⟩,[(.norm,⟨ac1,Nt⟩)])
abbrev adf:List (Nat×VS):=[(7,aV),(8,ll),(9,Nj),(34,jQ),(35,aa),(36,aa)]
def TF:Shape×List (Out×Shape):=(⟨adf,acM⟩,[(.ret,⟨[(4,pD),(5,aa)],[jS]⟩),(.exit 0,⟨adf++[(37,aC)],acM⟩)])
abbrev adg:List (Nat×VS):=[(2,aV),(3,cY),(40,aa),(41,aa)]
def TG:Shape×List (Out×Shape):=(⟨adg,xN⟩,[(.ret,⟨GO,[]⟩),(.exit 0,⟨adg++[(42,aC)],xN⟩)])
abbrev adh:List (Nat×VS):=[(2,aV),(3,cY),(6,aa),(58,aa),(59,aa),(80,aa),(81,aa)]
def TH:Shape×List (Out×Shape):=(⟨adh,xN⟩,[(.ret,⟨GO,[]⟩),(.exit 4,⟨adh++[(82,aC)],xN⟩)])
abbrev adi:List (Nat×VS):=[(2,aV),(3,cY),(58,aa),(59,aa)]
def TI:Shape×List (Out×Shape):=(⟨adi,xN⟩,[(.ret,⟨GO,[]⟩),(.exit 2,⟨adi++[(60,aC)],xN⟩)])
def TJ:Shape×List (Out×Shape):=(⟨[(1,aa),(2,aV),(5,aa),(6,cY),(7,aC),(8,aC),(17,jQ),(18,aa),(19,aa),(64,aC)],[nj,pE]⟩,[(.ret,⟨[(4,aa)],[]⟩),(.norm,⟨Th,[nj]⟩)])
def TK:Shape×List (Out×Shape):=(⟨[(1,aa),(2,aV),(5,aa),(6,cY),(7,aC),(8,aC),(17,jQ),(18,aa),(19,aa),(55,aC)],[nj,pE]⟩,[(.ret,⟨[(4,aa)],[]⟩),(.norm,⟨Th,[nj]⟩)])
def TL:Shape×List (Out×Shape):=(⟨Th,[nj]⟩,[(.ret,⟨[(4,aa)],[]⟩),(.exit 0,⟨[(1,aa),(2,aV),(17,jQ),(18,aa),(19,aa),(20,aC)],[nj]⟩)])
abbrev adj:List (Nat×VS):=[(2,aV),(3,cY),(4,dQ),(6,gT),(7,mD),(8,aa),(9,aa),(35,aa),(36,aa),(43,fT),(44,aa),(45,aa)]
def TM:Shape×List (Out×Shape):=(⟨adj,Nu⟩,[(.exit 2,⟨adj++[(46,aC)],Nu⟩)])
abbrev adk:List (Nat×VS):=[(2,aV),(3,cY),(4,dQ),(6,gT),(7,mD),(8,aa),(35,aa),(36,aa)]
def TN:Shape×List (Out×Shape):=(⟨adk,Nu⟩,[(.exit 0,⟨adk++[(37,aC)],Nu⟩)])
abbrev adl:List (Nat×VS):=[(2,aV),(3,cY),(4,dQ),(6,gT),(7,mD),(8,aa),(70,acy),(71,aa),(72,aa)]
def TO:Shape×List (Out×Shape):=(⟨adl,acN⟩,[(.exit 4,⟨adl++[(73,aC)],acN⟩)])
def TP:Shape×List (Out×Shape):=(⟨[(3,aV),(4,cY),(6,dQ),(7,gT),(8,aa),(98,aC)],[z8,sW,.var 66 [aa,aa,dq,dq,.one (.whole bt 8)],.var 66 [aa,aa,dq,dq,.one (.whole bt 9)],ch,cF,ch,cF,jR,jR]⟩,[(.norm,⟨[(4,aV),(6,cY),(7,dQ),(8,aa)],[CA,acH,.var 66 [aa,aa,dq,dq,.one (.whole bt 6)],ch,cF,jR,jR]⟩)])
abbrev adm:List (Nat×VS):=[(1,aV),(2,cY),(3,dQ),(12,aa),(13,aa)]
def TQ:Shape×List (Out×Shape):=(⟨adm,CF⟩,[(.exit 0,⟨adm++[(14,aC)],CF⟩)])
abbrev adn:List (Nat×VS):=[(1,aV),(2,cY),(3,fT),(4,dQ),(5,aa),(6,aa),(8,rA),(21,fT),(22,aa),(23,aa),(37,fT),(38,aa),(39,aa)]
def TR:Shape×List (Out×Shape):=(⟨adn,acO⟩,[(.exit 2,⟨adn++[(40,aC)],acO⟩)])
abbrev ado:List (Nat×VS):=[(1,aV),(2,cY),(3,fT),(4,dQ),(5,aa),(21,fT),(22,aa),(23,aa)]
def TS:Shape×List (Out×Shape):=(⟨ado,CF⟩,[(.exit 0,⟨ado++[(24,aC)],CF⟩)])
abbrev adp:List (Nat×VS):=[(1,oS),(2,aV),(5,.one (.whole Nb 1)),(26,acv),(27,aa),(28,aa)]
def anC:Shape×List (Out×Shape):=(⟨adp,[nj,.nest Nb,ch]⟩,[(.exit 0,⟨adp++[(29,aC)],[nj,.nest Nb,ch]⟩)])
def anD:Shape×List (Out×Shape):=(⟨[(1,aV),(3,ll),(4,aa),(5,dQ),(18,jQ),(19,aa),(20,aa),(28,aC)],Nv⟩,[(.norm,⟨ac2,Nv⟩)])
def anE:Shape×List (Out×Shape):=(⟨[(1,aV),(3,ll),(4,aa),(5,dQ),(18,jQ),(19,aa),(20,aa),(40,aC)],Nv⟩,[(.norm,⟨ac2,Nv⟩)])
abbrev adq:List (Nat×VS):=[(1,aV),(3,ll),(18,jQ),(19,aa),(20,aa)]
def anF:Shape×List (Out×Shape):=(⟨adq,[nj,dx]⟩,[(.exit 0,⟨adq++[(21,aC)],[nj,dx]⟩)])
abbrev adr:List (Nat×VS):=[(1,aa),(2,aV),(18,jQ),(19,aa),(20,aa)]
def TT:Shape×List (Out×Shape):=(⟨adr,[nj]⟩,[(.ret,⟨[(4,aa)],[]⟩),(.exit 0,⟨adr++[(21,aC)],[nj]⟩)])
def TU:Shape×List (Out×Shape):=(⟨[(0,aV),(3,mD),(8,sV),(10,oS),(11,aa),(45,aC)],[acG,.dead,.map dX,.map dY,pE,GK,jS,ch,cF]⟩,[(.norm,⟨[(0,aV),(3,mD),(11,aa)],[.var 59 [aa,.one (.whole dA 5),Ng,Nh],.dead,.map dX,.map dY,pE,jS]⟩)])
def TV:Shape×List (Out×Shape):=(⟨[(2,aa),(3,aV),(4,cY),(6,dQ),(9,GG),(10,Nk),(11,sV),(12,aa),(13,GI),(14,z7),(15,aa),(16,.one (.dk 8 0 0)),(17,aa),(91,aC)],[eE,eE,CB,sX,.map jP,acI,CD,dx,CD,ch,cF,ch,cF]⟩,[(.ret,⟨Ti,Tb⟩),(.norm,⟨[(2,aa),(3,aV),(4,cY),(6,dQ),(9,GG),(10,Nk),(11,sV),(12,aa),(13,GI),(14,z7),(15,aa),(17,aa)],Td⟩)])
abbrev ads:List (Nat×VS):=[(2,aa),(3,aV),(4,cY),(6,dQ),(9,GG),(10,Nk),(11,sV),(12,aa),(13,GI),(14,z7),(15,aa)]
def TW:Shape×List (Out×Shape):=(⟨ads,Td⟩,[(.ret,⟨Ti,Tb⟩),(.exit 2,⟨ads++[(62,aC)],Td⟩)])
abbrev adt:List (Nat×VS):=[(2,aa),(3,aV),(4,cY),(6,dQ),(9,GG),(10,Nk),(11,sV),(12,aa)]
def TX:Shape×List (Out×Shape):=(⟨adt,acP⟩,[(.ret,⟨Ti,Tb⟩),(.exit 0,⟨adt++[(52,aC)],acP⟩)])
def TY:Shape×List (Out×Shape):=(⟨[(1,aV),(2,cY),(3,dQ),(4,aa),(18,aa),(19,aa),(26,aC)],CG⟩,[(.norm,⟨[(1,aV),(2,cY),(3,dQ),(4,aa),(18,aa),(19,aa)],CG⟩)])
abbrev adu:List (Nat×VS):=[(1,aV),(2,cY),(3,dQ),(4,aa),(18,aa),(19,aa),(37,fT),(38,aa),(39,aa)]
def TZ:Shape×List (Out×Shape):=(⟨adu,CG⟩,[(.exit 2,⟨adu++[(40,aC)],CG⟩)])
abbrev adv:List (Nat×VS):=[(1,aV),(2,cY),(3,dQ),(18,aa),(19,aa)]
def T4:Shape×List (Out×Shape):=(⟨adv,CG⟩,[(.exit 0,⟨adv++[(20,aC)],CG⟩)])
abbrev adw:List (Nat×VS):=[(1,aV),(3,ll),(14,aa),(15,aa)]
def T6:Shape×List (Out×Shape):=(⟨adw,z9⟩,[(.exit 0,⟨adw++[(16,aC)],z9⟩)])
abbrev adx:List (Nat×VS):=[(1,aV),(3,fT),(5,fT),(6,aa),(7,ll),(37,aa),(38,aa)]
def T7:Shape×List (Out×Shape):=(⟨adx,z9⟩,[(.exit 6,⟨adx++[(39,aC)],z9⟩)])
abbrev ady:List (Nat×VS):=[(1,aV),(3,fT),(5,fT),(6,aa)]
def T8:Shape×List (Out×Shape):=(⟨ady,oc⟩,[(.exit 4,⟨ady++[(33,aC)],oc⟩)])
def T9:Shape×List (Out×Shape):=(⟨[(1,aV),(3,fT)],oc⟩,[(.ret,⟨[(2,fT)],[]⟩)])
abbrev adz:List (Nat×VS):=[(1,aV),(2,cY),(4,v7),(6,rA),(26,aa),(27,aa)]
def Ua:Shape×List (Out×Shape):=(⟨adz,Nw⟩,[(.exit 0,⟨adz++[(28,aC)],Nw⟩)])
abbrev adA:List (Nat×VS):=[(1,aV),(2,cY),(4,v7),(6,rA),(34,v7),(35,aa),(36,aa)]
def Ub:Shape×List (Out×Shape):=(⟨adA,Nw⟩,[(.exit 2,⟨adA++[(37,aC)],Nw⟩)])
abbrev adB:List (Nat×VS):=[(1,aV),(2,cY),(6,v7),(10,gT),(12,aa),(13,uu),(49,zY),(50,aa),(51,aa),(59,fT),(60,aa),(61,aa)]
def Uc:Shape×List (Out×Shape):=(⟨adB,acQ⟩,[(.exit 6,⟨adB++[(62,aC)],acQ⟩)])
abbrev adC:List (Nat×VS):=[(1,aV),(2,cY),(6,v7),(10,gT),(49,uu),(50,aa),(51,aa)]
def Ud:Shape×List (Out×Shape):=(⟨adC,acR⟩,[(.exit 4,⟨adC++[(52,aC)],acR⟩)])
abbrev adD:List (Nat×VS):=[(0,oS),(1,aa),(18,aa),(19,aa)]
def anG:Shape×List (Out×Shape):=(⟨adD,[]⟩,[(.ret,⟨GO,[]⟩),(.exit 0,⟨adD++[(20,aC)],[]⟩)])
def anH:Shape×List (Out×Shape):=(⟨[(1,aV),(3,Ni),(4,aa),(5,dQ),(33,aC)],[nj,ch,pE]⟩,[(.norm,⟨[(1,aV),(3,Ni),(4,aa),(5,dQ)],[nj,ch,pE]⟩)])
abbrev adE:List (Nat×VS):=[(1,aV),(3,Ni),(4,aa)]
def anI:Shape×List (Out×Shape):=(⟨adE,[nj,ch]⟩,[(.exit 0,⟨adE++[(17,aC)],[nj,ch]⟩)])
abbrev adF:List (Nat×VS):=[(1,xG),(2,oS),(3,aV),(7,zX),(8,aa),(9,aa),(15,aa),(16,aa)]
def anJ:Shape×List (Out×Shape):=(⟨adF,rB⟩,[(.exit 3,⟨adF++[(117,aC)],rB⟩)])
def anK:Shape×List (Out×Shape):=(⟨[(1,xG),(2,oS),(3,aV),(7,zX),(8,aa),(15,aa),(16,aa),(20,aa),(67,aC)],rB⟩,[(.norm,⟨GP,rB⟩)])
def anL:Shape×List (Out×Shape):=(⟨[(1,xG),(2,oS),(3,aV),(7,zX),(8,aa),(15,aa),(16,aa),(20,aa),(58,aC)],rB⟩,[(.norm,⟨GP,rB⟩)])
def anM:Shape×List (Out×Shape):=(⟨[(1,xG),(2,oS),(3,aV),(7,zX),(8,aa),(15,aa),(16,aa),(20,aa),(32,aC)],rB⟩,[(.norm,⟨GP,rB⟩)])
def anN:Shape×List (Out×Shape):=(⟨[(1,xG),(2,oS),(3,aV),(7,zX),(8,aa),(15,aa),(16,aa),(20,aa),(21,aC)],rB⟩,[(.norm,⟨GP,rB⟩)])
def anO:Shape×List (Out×Shape):=(⟨GP,rB⟩,[(.exit 0,⟨[(1,xG),(2,oS),(3,aV),(7,zX),(15,aa),(16,aa),(17,aC)],rB⟩)])
def Ue:Shape×List (Out×Shape):=(⟨[(1,aa),(2,aa),(3,aV),(17,aC)],[pE]⟩,[(.ret,⟨[(6,aC)],[]⟩),(.norm,⟨[(1,aa),(3,aV)],[pE]⟩)])
def Uf:Shape×List (Out×Shape):=(⟨[(1,aV),(3,zZ),(5,fT),(12,pC),(13,aa),(14,aa),(23,aC)],CH⟩,[(.norm,⟨[(1,aV),(3,zZ),(5,fT),(12,pC),(13,aa),(14,aa)],CH⟩)])
abbrev adG:List (Nat×VS):=[(1,aV),(3,zZ),(12,pC),(13,aa),(14,aa),(27,fT),(28,aa),(29,aa)]
def Ug:Shape×List (Out×Shape):=(⟨adG,CH⟩,[(.exit 2,⟨adG++[(30,aC)],CH⟩)])
abbrev adH:List (Nat×VS):=[(1,aV),(3,zZ),(12,pC),(13,aa),(14,aa)]
def Uh:Shape×List (Out×Shape):=(⟨adH,CH⟩,[(.exit 0,⟨adH++[(15,aC)],CH⟩)])
def Ui:Shape×List (Out×Shape):=(⟨[(0,aa),(2,aC),(7,aa),(8,aC)],[]⟩,[(.norm,⟨[(0,aa),(2,aC),(7,aa)],[]⟩)])
abbrev adI:List (Nat×VS):=[(3,cP),(5,cY),(6,aa),(7,oa),(8,aa),(9,aa)]
def Uj:Shape×List (Out×Shape):=(⟨adI,[jR,.var 69 [aa,aa,aa]]⟩,[(.exit 2,⟨adI++[(25,aC)],[jR,.var 69 [aa,aa,aa]]⟩)])
abbrev adJ:List (Nat×VS):=[(3,cP),(7,oa),(8,aa),(9,aa)]
def Uk:Shape×List (Out×Shape):=(⟨adJ,cq⟩,[(.exit 0,⟨adJ++[(10,aC)],cq⟩)])
def Ul:Shape×List (Out×Shape):=(⟨[(1,aV),(2,cY),(6,z0),(7,GH),(8,mD),(9,aa),(10,zY),(11,aa),(12,dq),(13,aa),(57,aC)],Nx⟩,[(.ret,⟨Tj,Te⟩),(.norm,⟨[(1,aV),(2,cY),(6,z0),(7,GH),(8,mD),(9,aa),(10,zY),(11,aa),(13,aa)],Nx⟩)])
abbrev adK:List (Nat×VS):=[(1,aV),(2,cY),(6,z0),(7,GH),(8,mD),(9,aa),(10,zY),(11,aa)]
def Um:Shape×List (Out×Shape):=(⟨adK,Nx⟩,[(.ret,⟨Tj,Te⟩),(.exit 2,⟨adK++[(40,aC)],Nx⟩)])
abbrev adL:List (Nat×VS):=[(1,aV),(2,cY),(6,z0),(7,GH),(8,mD),(9,aa)]
def Un:Shape×List (Out×Shape):=(⟨adL,acS⟩,[(.ret,⟨Tj,Te⟩),(.exit 0,⟨adL++[(34,aC)],acS⟩)])
abbrev adM:List (Nat×VS):=[(3,.one (.cD iO 0)),(4,ll),(13,fT),(14,aa),(15,aa)]
def Uo:Shape×List (Out×Shape):=(⟨adM,[.map iO,dx]⟩,[(.exit 0,⟨adM++[(16,aC)],[.map iO,dx]⟩)])
abbrev adN:List (Nat×VS):=[(0,fT),(1,fT),(5,xF),(11,aa),(12,aa)]
def Up:Shape×List (Out×Shape):=(⟨adN,pF⟩,[(.exit 0,⟨adN++[(13,aC)],pF⟩)])
abbrev adO:List (Nat×VS):=[(0,fT),(1,fT),(12,aa),(13,aa)]
def Uq:Shape×List (Out×Shape):=(⟨adO,[]⟩,[(.ret,⟨GO,[]⟩),(.exit 0,⟨adO++[(14,aC)],[]⟩)])
abbrev adP:List (Nat×VS):=[(1,aV),(4,ll),(5,acA),(6,S3),(7,aa),(8,aa)]
def Ur:Shape×List (Out×Shape):=(⟨adP,Ny⟩,[(.exit 2,⟨adP++[(31,aC)],Ny⟩)])
abbrev adQ:List (Nat×VS):=[(1,aV),(4,ll),(5,acA),(6,S3),(7,aa)]
def Us:Shape×List (Out×Shape):=(⟨adQ,Ny⟩,[(.exit 0,⟨adQ++[(25,aC)],Ny⟩)])
abbrev adR:List (Nat×VS):=[(1,aa),(4,aV),(5,cY),(6,aa)]
def anP:Shape×List (Out×Shape):=(⟨adR,[Nq,Nq]⟩,[(.exit 0,⟨adR++[(10,aC)],[Nq,Nq]⟩)])
def Ut:Shape×List (Out×Shape):=(⟨[(4,aV),(7,cY),(9,dQ),(10,aa),(66,aC)],acT⟩,[(.norm,⟨[(4,aV),(7,cY),(9,dQ),(10,aa)],acT⟩)])
abbrev adS:List (Nat×VS):=[(1,aV),(2,cY),(3,dQ),(16,zW),(17,aa),(18,aa)]
def Uu:Shape×List (Out×Shape):=(⟨adS,CF⟩,[(.exit 0,⟨adS++[(19,aC)],CF⟩)])
def Uv:Shape×List (Out×Shape):=(⟨ac3,oc⟩,[(.ret,⟨Aa,[]⟩),(.exit 2,⟨ac4,oc⟩)])
def Uw:Shape×List (Out×Shape):=(⟨[(1,aV),(3,aa),(38,pC),(39,aa),(40,aa)],oc⟩,[(.ret,⟨Aa,[]⟩),(.exit 0,⟨ac5,oc⟩)])
abbrev adT:List (Nat×VS):=[(1,aV),(38,oa),(39,aa),(40,aa)]
def Ux:Shape×List (Out×Shape):=(⟨adT,[oT]⟩,[(.ret,⟨Aa,[]⟩),(.exit 0,⟨adT++[(41,aC)],[oT]⟩)])
abbrev adU:List (Nat×VS):=[(1,dq),(2,aa),(7,dq),(11,oa),(12,aa),(13,aa)]
def Uy:Shape×List (Out×Shape):=(⟨adU,[]⟩,[(.exit 0,⟨adU++[(14,aC)],[]⟩)])
abbrev adV:List (Nat×VS):=[(1,aa),(5,xF),(13,aa),(14,aa)]
def Uz:Shape×List (Out×Shape):=(⟨adV,pF⟩,[(.exit 0,⟨adV++[(15,aC)],pF⟩)])
abbrev adW:List (Nat×VS):=[(0,aV),(2,aa),(6,aa),(11,pC),(12,aa),(13,aa),(18,fT),(19,aa),(20,aa)]
def UA:Shape×List (Out×Shape):=(⟨adW,rC⟩,[(.exit 2,⟨adW++[(21,aC)],rC⟩)])
abbrev adX:List (Nat×VS):=[(0,aV),(2,aa),(11,pC),(12,aa),(13,aa)]
def UB:Shape×List (Out×Shape):=(⟨adX,rC⟩,[(.exit 0,⟨adX++[(14,aC)],rC⟩)])
abbrev adY:List (Nat×VS):=[(0,aV),(1,zW),(2,aa),(13,acu),(14,aa),(15,aa)]
def UC:Shape×List (Out×Shape):=(⟨adY,[.var 134 [aa,aa,dq,dq,S5],.dead,jR,jR]⟩,[(.exit 0,⟨adY++[(16,aC)],[.var 134 [aa,aa,dq,dq,S5],.dead,jR,jR]⟩)])
abbrev adZ:List (Nat×VS):=[(0,aV),(2,aa),(8,zW),(9,aa),(10,aa)]
def UD:Shape×List (Out×Shape):=(⟨adZ,rC⟩,[(.exit 0,⟨adZ++[(11,aC)],rC⟩)])
def UE:Shape×List (Out×Shape):=(⟨ac3,oc⟩,[(.ret,⟨Aa,[]⟩),(.exit 2,⟨ac4,oc⟩)])
def UF:Shape×List (Out×Shape):=(⟨[(1,aV),(3,aa),(38,pC),(39,aa),(40,aa)],oc⟩,[(.ret,⟨Aa,[]⟩),(.exit 0,⟨ac5,oc⟩)])
abbrev ad0:List (Nat×VS):=[(1,aV),(2,cY),(4,dQ),(5,rA),(6,uu),(7,sV),(8,aa),(10,S6),(28,uu),(29,aa),(30,aa),(47,fT),(48,aa),(49,aa)]
def UG:Shape×List (Out×Shape):=(⟨ad0,acU⟩,[(.exit 2,⟨ad0++[(50,aC)],acU⟩)])
abbrev ad1:List (Nat×VS):=[(1,aV),(2,cY),(4,dQ),(5,rA),(6,uu),(7,sV),(28,uu),(29,aa),(30,aa)]
def UH:Shape×List (Out×Shape):=(⟨ad1,acV⟩,[(.exit 0,⟨ad1++[(31,aC)],acV⟩)])
abbrev ad2:List (Nat×VS):=[(2,aV),(6,ll),(13,dQ),(14,rA),(15,uu),(87,zY),(88,aa),(89,aa)]
def UI:Shape×List (Out×Shape):=(⟨ad2,acW⟩,[(.exit 4,⟨ad2++[(90,aC)],acW⟩)])
def UJ:Shape×List (Out×Shape):=(⟨[(0,aa),(2,.fn vV [] [.dk 0 0 0,.dk 1 0 0]),(3,.fn vW [] [.dk 0 0 0,.dk 1 0 0,.dk 2 0 0]),(8,gT),(11,mD),(12,sV),(13,aa),(14,GI),(15,z7),(36,aa),(37,aa)],acX⟩,[(.exit 2,⟨[(0,aa),(2,.fn vV [] [.dk 0 0 0,.dk 1 0 0]),(3,.fn vW [] [.dk 0 0 0,.dk 1 0 0,.dk 2 0 0]),(8,gT),(11,mD),(12,sV),(13,aa),(14,GI),(15,z7),(36,aa),(37,aa),(38,aC)],acX⟩)])
def UK:Shape×List (Out×Shape):=(⟨[(0,aa),(2,.fn vV [] [.dk 0 0 0,.dk 1 0 0]),(3,.fn vW [] [.dk 0 0 0,.dk 1 0 0,.dk 2 0 0]),(8,gT),(11,mD),(12,sV),(13,aa)],acY⟩,[(.ret,⟨[(8,gT),(9,.one (.whole jz 6)),(10,aa)],[eE,eE,xH,z8,ch,cF,sX]⟩),(.exit 0,⟨[(0,aa),(2,.fn vV [] [.dk 0 0 0,.dk 1 0 0]),(3,.fn vW [] [.dk 0 0 0,.dk 1 0 0,.dk 2 0 0]),(8,gT),(11,mD),(12,sV),(13,aa),(25,aC)],acY⟩)])
def UL:Shape×List (Out×Shape):=(⟨[(2,cY),(3,dQ),(4,gT),(6,aa),(12,aC)],[eE,eE,xH,CD]⟩,[(.norm,⟨[(2,cY),(3,dQ),(4,gT),(6,aa)],[eE,eE,xH,CD]⟩)])
abbrev ad3:List (Nat×VS):=[(3,aa),(6,fT),(7,aa),(8,aa)]
def UM:Shape×List (Out×Shape):=(⟨ad3,[]⟩,[(.ret,⟨Aa,[]⟩),(.exit 0,⟨ad3++[(9,aC)],[]⟩)])
abbrev ad4:List (Nat×VS):=[(0,cP),(3,aa),(4,.one (.sub bt 0)),(5,aa)]
def UN:Shape×List (Out×Shape):=(⟨ad4,cq⟩,[(.exit 2,⟨ad4++[(32,aC)],cq⟩)])
def UO:Shape×List (Out×Shape):=(⟨[(0,cP),(3,aa)],cq⟩,[(.ret,⟨[(2,S4)],[.dead,jR]⟩),(.exit 0,⟨[(0,cP),(3,aa),(13,aC)],cq⟩)])
abbrev ad5:List (Nat×VS):=[(2,aV),(4,cY),(5,v7),(7,rA),(31,aa),(32,aa)]
def UP:Shape×List (Out×Shape):=(⟨ad5,Nz⟩,[(.exit 0,⟨ad5++[(33,aC)],Nz⟩)])
abbrev ad6:List (Nat×VS):=[(2,aV),(4,cY),(7,v7),(39,rA),(40,aa),(41,aa)]
def UQ:Shape×List (Out×Shape):=(⟨ad6,Nz⟩,[(.exit 2,⟨ad6++[(42,aC)],Nz⟩)])
abbrev ad7:List (Nat×VS):=[(1,aV),(3,ll),(4,aa),(24,zW),(25,aa),(26,aa)]
def UR:Shape×List (Out×Shape):=(⟨ad7,z9⟩,[(.exit 0,⟨ad7++[(27,aC)],z9⟩)])
abbrev ad8:List (Nat×VS):=[(1,aV),(3,ll),(4,aa),(7,acB),(8,rA),(9,aa),(11,mD),(46,pC),(47,aa),(48,aa),(58,fT),(59,aa),(60,aa)]
def US:Shape×List (Out×Shape):=(⟨ad8,[eE,dx,.map GD,dx,.var 155 [aa,aa,aa,aa,aa,aa,aa]]⟩,[(.exit 6,⟨ad8++[(61,aC)],[eE,dx,.map GD,dx,.var 155 [aa,aa,aa,aa,aa,aa,aa]]⟩)])
abbrev ad9:List (Nat×VS):=[(1,aV),(3,ll),(4,aa),(7,acB),(8,rA),(46,pC),(47,aa),(48,aa)]
def UT:Shape×List (Out×Shape):=(⟨ad9,[eE,dx,.map GD,dx]⟩,[(.exit 4,⟨ad9++[(49,aC)],[eE,dx,.map GD,dx]⟩)])
def UU:Shape×List (Out×Shape):=(⟨[(1,aV),(3,ll),(4,aa)],z9⟩,[(.ret,⟨[(2,xF)],pF⟩)])
def UW:Shape×List (Out×Shape):=(⟨[(0,cP),(1,aa),(2,aa),(3,aa),(4,.fn cR [] []),(10,aC),(11,aC),(12,aa),(39,aC)],cq⟩,[(.norm,⟨[(0,cP),(1,aa),(2,aa),(3,aa),(4,.fn cR [] []),(10,aC),(11,aC),(12,aa)],cq⟩)])
def UX:Shape×List (Out×Shape):=(⟨[(0,cP),(1,aa),(2,aa),(3,aa),(4,.fn cR [] []),(10,aC),(11,aC),(12,aa),(13,aa),(14,aa),(56,aC)],cq⟩,[(.norm,⟨[(0,cP),(1,aa),(2,aa),(3,aa),(4,.fn cR [] []),(10,aC),(11,aC),(12,aa),(13,aa),(14,aa)],cq⟩)])
def UY:Shape×List (Out×Shape):=(⟨[(0,cP),(1,aa),(2,aa),(3,aa),(4,.fn cR [] []),(10,aC),(11,aC),(12,aa),(13,aa),(75,aC)],cq⟩,[(.ret,⟨[(0,cP),(1,aa),(2,aa),(3,aa),(4,.fn cR [] []),(10,aC),(11,aC),(12,aa),(13,aa),(80,aC)],cq⟩),(.norm,⟨[(0,cP),(1,aa),(2,aa),(3,aa),(4,.fn cR [] []),(10,aC),(11,aC),(12,aa),(13,aa)],cq⟩)])
def UZ:Shape×List (Out×Shape):=(⟨[(0,cP),(1,aa),(2,aa),(3,aa),(4,.fn cR [] []),(10,aC),(11,aC)],cq⟩,[(.ret,⟨[],cq⟩)])
abbrev aea:List (Nat×VS):=[(0,Nl),(1,dq),(4,aa)]
def U0:Shape×List (Out×Shape):=(⟨aea,uw⟩,[(.exit 0,⟨aea++[(20,aC)],uw⟩)])
def U3:Shape×List (Out×Shape):=(⟨[(0,Nl),(4,aa),(12,.one (.int .u32)),(99,aC)],uw⟩,[(.norm,⟨[(0,Nl),(4,aa),(12,.one (.int .u32))],uw⟩)])
def U4:Shape×List (Out×Shape):=(⟨[(0,aa),(2,.fn vY [] [.dk 0 0 0]),(3,.fn vZ [] [.dk 0 0 0]),(8,cY),(11,dQ),(12,gT),(13,aa),(14,aa),(15,uu),(36,aa),(37,aa)],[eE,xI,.var 174 [z7,.one (.cD iO 8)],CB,dx,ch,cF,dx,.map iO,ch,cF]⟩,[(.exit 2,⟨[(0,aa),(2,.fn vY [] [.dk 0 0 0]),(3,.fn vZ [] [.dk 0 0 0]),(8,cY),(11,dQ),(12,gT),(13,aa),(14,aa),(15,uu),(36,aa),(37,aa),(38,aC)],[eE,xI,.var 174 [z7,.one (.cD iO 8)],CB,dx,ch,cF,dx,.map iO,ch,cF]⟩)])
def U5:Shape×List (Out×Shape):=(⟨[(0,aa),(2,.fn vY [] [.dk 0 0 0]),(3,.fn vZ [] [.dk 0 0 0]),(8,cY),(11,dQ),(12,gT),(13,aa)],[eE,z8,.var 174 [S6,.one (.cD iO 7)],uv,ch,cF,dx,.map iO,ch,cF]⟩,[(.ret,⟨[(8,cY),(9,uu),(10,aa)],[eE,S9,ch,cF,dx]⟩),(.exit 0,⟨[(0,aa),(2,.fn vY [] [.dk 0 0 0]),(3,.fn vZ [] [.dk 0 0 0]),(8,cY),(11,dQ),(12,gT),(13,aa),(25,aC)],[eE,z8,.var 174 [S6,.one (.cD iO 7)],uv,ch,cF,dx,.map iO,ch,cF]⟩)])
def U6:Shape×List (Out×Shape):=(⟨[(0,cP),(1,aa),(2,aa),(3,.fn cR [] []),(8,aa),(9,aa)],cq⟩,[(.exit 2,⟨[(0,cP),(1,aa),(2,aa),(3,.fn cR [] []),(8,aa),(9,aa),(34,aC)],cq⟩)])
def U7:Shape×List (Out×Shape):=(⟨[(0,cP),(1,aa),(2,aa),(3,.fn cR [] []),(8,aa)],cq⟩,[(.exit 0,⟨[(0,cP),(1,aa),(2,aa),(3,.fn cR [] []),(8,aa),(14,aC)],cq⟩)])
def U8:Shape×List (Out×Shape):=(⟨[(0,cP),(3,.fn cR [] []),(8,aa),(9,aa),(10,aa),(11,aa)],cq⟩,[(.exit 0,⟨[(0,cP),(3,.fn cR [] []),(8,aa),(9,aa),(10,aa),(11,aa),(21,aC)],cq⟩)])
def U9:Shape×List (Out×Shape):=(⟨[(0,cP),(3,.fn cR [] []),(8,aa),(9,aa),(12,aa)],cq⟩,[(.exit 2,⟨[(0,cP),(3,.fn cR [] []),(8,aa),(9,aa),(12,aa),(33,aC)],cq⟩)])
def Va:Shape×List (Out×Shape):=(⟨[(0,cP),(1,aa),(8,aa),(9,cY),(10,dq),(11,aa),(12,aa),(45,aC)],NA⟩,[(.norm,⟨[(0,cP),(1,aa),(8,aa),(9,cY),(10,dq),(11,aa),(12,aa)],NA⟩)])
abbrev aeb:List (Nat×VS):=[(0,cP),(1,aa),(8,aa),(9,cY),(10,dq),(11,aa)]
def Vb:Shape×List (Out×Shape):=(⟨aeb,NA⟩,[(.exit 0,⟨aeb++[(35,aC)],NA⟩)])
def Vc:Shape×List (Out×Shape):=(⟨[(0,oa),(3,.fn cR [] []),(11,aV),(12,aa),(13,aa),(14,aa),(36,aC)],ux⟩,[(.norm,⟨[(0,oa),(3,.fn cR [] []),(11,aV),(12,aa),(13,aa),(14,aa)],ux⟩)])
def Vd:Shape×List (Out×Shape):=(⟨[(0,oa),(3,.fn cR [] []),(10,aa),(11,aV),(12,aa),(13,aa),(14,aa),(34,aC)],ux⟩,[(.norm,⟨[(11,aV),(13,aa)],ux⟩)])
abbrev aec:List (Nat×VS):=[(0,cP),(8,aa),(9,aa)]
def Ve:Shape×List (Out×Shape):=(⟨aec,cq⟩,[(.exit 0,⟨aec++[(15,aC)],cq⟩)])
def Vf:Shape×List (Out×Shape):=(⟨[(0,cP),(1,aa),(2,aa),(3,.fn cR [] []),(9,aa),(10,aa)],cq⟩,[(.exit 2,⟨[(0,cP),(1,aa),(2,aa),(3,.fn cR [] []),(9,aa),(10,aa),(36,aC)],cq⟩)])
def Vg:Shape×List (Out×Shape):=(⟨[(0,cP),(1,aa),(2,aa),(3,.fn cR [] []),(9,aa),(10,aa),(11,aa)],cq⟩,[(.exit 4,⟨[(0,cP),(1,aa),(2,aa),(3,.fn cR [] []),(9,aa),(10,aa),(11,aa)],cq⟩)])
def Vh:Shape×List (Out×Shape):=(⟨[(0,cP),(1,aa),(2,aa),(3,.fn cR [] []),(9,aa),(10,aa),(65,aC)],cq⟩,[(.norm,⟨[(0,cP),(1,aa),(2,aa),(3,.fn cR [] []),(9,aa),(10,aa)],cq⟩)])
def Vi:Shape×List (Out×Shape):=(⟨[(0,cP),(1,aa),(2,aa),(3,.fn cR [] []),(9,aa),(10,aa),(12,aa)],cq⟩,[(.exit 6,⟨[(0,cP),(1,aa),(2,aa),(3,.fn cR [] []),(9,aa),(10,aa),(12,aa)],cq⟩)])
def Vj:Shape×List (Out×Shape):=(⟨[(0,cP),(1,aa),(2,aa),(3,.fn cR [] []),(9,aa),(10,aa)],cq⟩,[(.ret,⟨[(8,aC)],cq⟩),(.exit 0,⟨[(0,cP),(1,aa),(2,aa),(3,.fn cR [] []),(9,aa),(10,aa),(16,aC)],cq⟩)])
def Vk:Shape×List (Out×Shape):=(⟨[(0,cP),(1,aa),(4,.fn cR [] []),(11,aa),(12,aa)],cq⟩,[(.exit 2,⟨[(0,cP),(1,aa),(4,.fn cR [] []),(11,aa),(12,aa),(47,aC)],cq⟩)])
def Vl:Shape×List (Out×Shape):=(⟨[(0,cP),(1,aa),(4,.fn cR [] []),(11,aa),(12,aa)],cq⟩,[(.exit 4,⟨[(0,cP),(1,aa),(4,.fn cR [] []),(11,aa),(12,aa),(65,aC)],cq⟩)])
def Vm:Shape×List (Out×Shape):=(⟨[(0,cP),(1,aa),(4,.fn cR [] []),(11,aa),(12,aa)],cq⟩,[(.exit 0,⟨[(0,cP),(1,aa),(4,.fn cR [] []),(11,aa),(12,aa),(70,aC)],cq⟩)])
def Vn:Shape×List (Out×Shape):=(⟨[(0,cP),(1,aa),(4,.fn cR [] []),(12,aa),(13,aa)],cq⟩,[(.exit 0,⟨[(0,cP),(1,aa),(4,.fn cR [] []),(12,aa),(13,aa),(47,aC)],cq⟩)])
def Vo:Shape×List (Out×Shape):=(⟨[(0,cP),(1,aa),(4,.fn cR [] []),(12,aa),(13,aa)],cq⟩,[(.exit 2,⟨[(0,cP),(1,aa),(4,.fn cR [] []),(12,aa),(13,aa),(66,aC)],cq⟩)])
def Vp:Shape×List (Out×Shape):=(⟨[(0,cP),(1,aa),(4,.fn cR [] []),(12,aa),(13,aa)],cq⟩,[(.exit 6,⟨[(0,cP),(1,aa),(4,.fn cR [] []),(12,aa),(13,aa),(120,aC)],cq⟩)])
def Vq:Shape×List (Out×Shape):=(⟨[(0,cP),(1,aa),(4,.fn cR [] []),(12,aa),(13,aa)],cq⟩,[(.exit 8,⟨[(0,cP),(1,aa),(4,.fn cR [] []),(12,aa),(13,aa),(139,aC)],cq⟩)])
def Vr:Shape×List (Out×Shape):=(⟨[(0,cP),(1,aa),(4,.fn cR [] []),(12,aa),(13,aa)],cq⟩,[(.exit 4,⟨[(0,cP),(1,aa),(4,.fn cR [] []),(12,aa),(13,aa),(144,aC)],cq⟩)])
def Vs:Shape×List (Out×Shape):=(⟨[(0,dq),(2,aa),(4,aC)],[]⟩,[(.norm,⟨[(0,dq),(2,aa)],[]⟩)])
def Vt:Shape×List (Out×Shape):=(⟨[(0,dq),(2,aa),(8,aC)],[]⟩,[(.norm,⟨[(0,dq),(2,aa)],[]⟩)])
abbrev aed:List (Nat×VS):=[(1,aV),(34,oa),(35,aa),(36,aa)]
def Vu:Shape×List (Out×Shape):=(⟨aed,[oT]⟩,[(.ret,⟨Aa,[]⟩),(.exit 0,⟨aed++[(37,aC)],[oT]⟩)])
def Vv:Shape×List (Out×Shape):=(⟨[(0,aa),(2,.fn ur [] [.dk 0 0 0]),(3,.fn v5 [] [.dk 1 0 0]),(8,dQ),(11,gT),(12,mD),(13,aa),(14,dq),(15,zY),(36,aa),(37,aa)],acZ⟩,[(.exit 2,⟨[(0,aa),(2,.fn ur [] [.dk 0 0 0]),(3,.fn v5 [] [.dk 1 0 0]),(8,dQ),(11,gT),(12,mD),(13,aa),(14,dq),(15,zY),(36,aa),(37,aa),(38,aC)],acZ⟩)])
def Vw:Shape×List (Out×Shape):=(⟨[(0,aa),(2,.fn ur [] [.dk 0 0 0]),(3,.fn v5 [] [.dk 1 0 0]),(8,dQ),(11,gT),(12,mD),(13,aa)],ac0⟩,[(.ret,⟨[(8,dQ),(9,.one (.whole dp 5)),(10,aa)],[xK,oT,CA,ch,cF,qt]⟩),(.exit 0,⟨[(0,aa),(2,.fn ur [] [.dk 0 0 0]),(3,.fn v5 [] [.dk 1 0 0]),(8,dQ),(11,gT),(12,mD),(13,aa),(25,aC)],ac0⟩)])
abbrev aee:List (Nat×VS):=[(1,aV),(3,cY),(11,aa),(12,aa)]
def Vx:Shape×List (Out×Shape):=(⟨aee,[oT,.var 183 [.one (.whole gv 2)],Nr]⟩,[(.exit 0,⟨aee++[(13,aC)],[oT,.var 183 [.one (.whole gv 2)],Nr]⟩)])
abbrev aef:List (Nat×VS):=[(3,aV),(23,oa),(24,aa),(25,aa)]
def Vy:Shape×List (Out×Shape):=(⟨aef,[.var 183 [.one (.whole gv 1)],Nr]⟩,[(.exit 2,⟨aef++[(26,aC)],[.var 183 [.one (.whole gv 1)],Nr]⟩)])
def Vz:Shape×List (Out×Shape):=(⟨[(0,cP),(2,aa),(3,aa),(4,.fn cR [] []),(10,aa),(11,aa),(40,aC)],cq⟩,[(.norm,⟨[(0,cP),(2,aa),(3,aa),(4,.fn cR [] []),(10,aa),(11,aa)],cq⟩)])
def VA:Shape×List (Out×Shape):=(⟨[(0,cP),(2,aa),(3,aa),(4,.fn cR [] []),(10,aa)],cq⟩,[(.exit 0,⟨[(0,cP),(2,aa),(3,aa),(4,.fn cR [] []),(10,aa),(11,aa),(18,aC)],cq⟩),(.ret,⟨[(0,cP),(2,aa),(3,aa),(4,.fn cR [] []),(10,aa),(11,aa),(58,aC)],cq⟩)])
abbrev aeg:List (Nat×VS):=[(0,GF),(5,dq),(16,xF),(17,aa),(18,aa)]
def VB:Shape×List (Out×Shape):=(⟨aeg,pF⟩,[(.exit 0,⟨aeg++[(19,aC)],pF⟩)])
abbrev aeh:List (Nat×VS):=[(0,GF),(8,GF),(9,aa),(10,aa)]
def VC:Shape×List (Out×Shape):=(⟨aeh,[]⟩,[(.ret,⟨[(2,aC)],[]⟩),(.exit 0,⟨aeh++[(11,aC)],[]⟩)])
def VD:Shape×List (Out×Shape):=(⟨[(0,dq),(3,xF)],pF⟩,[(.exit 0,⟨[(0,dq),(3,xF),(5,aC)],pF⟩)])
def anQ:List (Nat×FuncId):=[(3,SC),
 (4,Mt),
 (5,vS),
 (6,Mu),
 (7,FW),
 (8,FX),
 (9,Mv),
 (10,FY),
 (11,FZ),
 (12,Mw),
 (13,F0),
 (14,Cs),
 (15,F3),
 (16,Mx),
 (17,pB),
 (18,amG),
 (19,amH),
 (20,amI),
 (21,My),
 (22,zS),
 (23,F4),
 (24,zT),
 (25,F5),
 (26,Ct),
 (27,xD),
 (28,Mz),
 (29,MA),
 (30,MB),
 (31,amJ),
 (32,amK),
 (33,amL),
 (34,amM),
 (35,MC),
 (36,MD),
 (37,ME),
 (38,zU),
 (39,MF),
 (40,MG),
 (41,F6),
 (42,F7),
 (43,MH),
 (44,MI),
 (45,MJ),
 (46,amN),
 (47,amO),
 (48,amP),
 (49,amQ),
 (50,amR),
 (51,F8),
 (52,F9),
 (53,MK),
 (54,ML),
 (55,Cu),
 (56,Ga),
 (57,MM),
 (58,Gb),
 (59,Gc),
 (60,Ge),
 (61,MN),
 (62,xE),
 (63,vT),
 (64,vU),
 (65,Gf),
 (66,Gg),
 (67,Gh),
 (68,Gi),
 (69,MO),
 (70,Gj),
 (71,Gk),
 (72,Gl),
 (73,rz),
 (75,Gm),
 (76,MP),
 (77,MQ),
 (78,MR),
 (79,Gn),
 (80,vV),
 (81,vW),
 (82,Gp),
 (84,MS),
 (85,Gq),
 (86,cR),
 (87,Gr),
 (88,vX),
 (89,MT),
 (90,Gs),
 (91,Gt),
 (92,Cv),
 (93,MU),
 (94,Gu),
 (95,SD),
 (96,Gv),
 (97,Gw),
 (98,Gx),
 (99,MV),
 (100,MW),
 (101,MX),
 (103,MY),
 (104,vY),
 (105,vZ),
 (106,SF),
 (107,SG),
 (108,SH),
 (109,SI),
 (110,SJ),
 (111,SK),
 (112,SM),
 (113,SN),
 (115,Gy),
 (116,MZ),
 (117,zV),
 (118,M0),
 (119,v5),
 (120,M1),
 (121,SO),
 (124,Gz),
 (125,SP),
 (126,M3),
 (127,M4),
 (128,SQ),
 (129,SR),
 (130,M5),
 (131,M6),
 (132,GA),
 (133,ur),
 (134,M7),
 (136,M8),
 (137,SS),
 (138,M9),
 (139,Na),
 (140,GB),
 (164,Gz),
 (165,Gu),
 (166,Gb),
 (167,GA)]
def anR:List (Nat×Shape):=[(3,⟨GQ,[]⟩),
 (4,⟨GQ,[]⟩),
 (5,⟨CI,[xJ]⟩),
 (6,⟨[(0,aV),(1,aa),(2,aa)],[xJ]⟩),
 (7,⟨ND,[]⟩),
 (8,⟨[],[]⟩),
 (9,⟨ND,[]⟩),
 (10,⟨GR,[]⟩),
 (11,⟨Ab,[]⟩),
 (12,⟨ND,[]⟩),
 (13,⟨[(0,aa),(1,aC)],[]⟩),
 (14,⟨NF,[]⟩),
 (15,⟨GR,[]⟩),
 (16,⟨pG,[]⟩),
 (17,⟨pG,[]⟩),
 (18,⟨[],[]⟩),
 (19,⟨[(0,Nn),(1,oS)],[]⟩),
 (20,⟨[(0,Nn)],[]⟩),
 (21,⟨ND,[]⟩),
 (22,⟨eQ,[]⟩),
 (23,⟨[(0,aV),(1,No)],GN⟩),
 (24,⟨eQ,[]⟩),
 (25,⟨NF,[]⟩),
 (26,⟨pG,[]⟩),
 (27,⟨eQ,[]⟩),
 (28,⟨Ac,[]⟩),
 (29,⟨pG,[]⟩),
 (30,⟨pG,[]⟩),
 (31,⟨[(0,oS),(1,aa)],[]⟩),
 (32,⟨[(0,Nn)],[]⟩),
 (33,⟨[(0,No),(1,xG),(2,oS)],[]⟩),
 (34,⟨[(0,GJ),(1,aa)],[]⟩),
 (35,⟨[(0,No),(1,aa),(2,aa)],[]⟩),
 (36,⟨[(0,aV),(1,No)],GN⟩),
 (37,⟨pG,[]⟩),
 (38,⟨GR,[]⟩),
 (39,⟨[(0,aa),(1,aC),(2,aC)],[]⟩),
 (40,⟨[(0,oa)],[]⟩),
 (41,⟨Ac,[]⟩),
 (42,⟨GQ,[]⟩),
 (43,⟨[(0,fT),(1,fT)],[]⟩),
 (44,⟨[(0,fT),(1,fT)],[]⟩),
 (45,⟨pG,[]⟩),
 (46,⟨[(0,GJ),(1,aa)],[]⟩),
 (47,⟨Ab,[]⟩),
 (48,⟨Tk,[]⟩),
 (49,⟨Tk,[]⟩),
 (50,⟨Tk,[]⟩),
 (51,⟨[(0,aa),(1,aa),(2,aC)],[]⟩),
 (52,⟨[(0,aV),(1,aC)],GN⟩),
 (53,⟨[(0,aV)],GN⟩),
 (54,⟨CI,GN⟩),
 (55,⟨NF,[]⟩),
 (56,⟨GR,[]⟩),
 (57,⟨pG,[]⟩),
 (58,⟨[(0,.one (.nilS fF)),(1,aa),(2,aa)],[]⟩),
 (59,⟨pG,[]⟩),
 (60,⟨Tl,[]⟩),
 (61,⟨Ac,[]⟩),
 (62,⟨[(0,acC),(1,dq),(2,aa)],[]⟩),
 (63,⟨[(0,.pref [3] [.int .i64]),(1,aa)],[]⟩),
 (64,⟨pG,[]⟩),
 (65,⟨GR,[]⟩),
 (66,⟨NF,[]⟩),
 (67,⟨Ab,[]⟩),
 (68,⟨[(0,aV),(1,Cx),(2,aa)],xO⟩),
 (69,⟨[(0,aV),(1,zW),(2,aa)],xO⟩),
 (70,⟨CI,xO⟩),
 (71,⟨[(0,aV),(1,zW),(2,aa)],xO⟩),
 (72,⟨[(0,aV)],xO⟩),
 (73,⟨pG,[]⟩),
 (75,⟨[(0,Nm),(1,aa),(2,aa)],uw⟩),
 (76,⟨eQ,[]⟩),
 (77,⟨[(0,dq),(1,aa)],[]⟩),
 (78,⟨pG,[]⟩),
 (79,⟨[(0,aa),(1,Cz),(2,.fn vV [] [.dk 0 0 0,.dk 1 0 0]),(3,.fn vW [] [.dk 0 0 0,.dk 1 0 0,.dk 2 0 0])],Tf⟩),
 (80,⟨[(0,Cz),(1,aa),(2,aV),(3,cY)],xN⟩),
 (81,⟨[(0,Cz),(1,aV),(2,cY),(3,dQ)],Tf⟩),
 (82,⟨[(0,aV),(1,aa),(2,aa),(3,aa)],xO⟩),
 (84,⟨CI,xO⟩),
 (85,⟨[(0,cP),(1,.fn cR [] [])],cq⟩),
 (86,⟨Tl,[]⟩),
 (87,⟨GQ,[]⟩),
 (88,⟨Ab,[]⟩),
 (89,⟨[(0,cP)],cq⟩),
 (90,⟨Ac,[]⟩),
 (91,⟨[(0,Nm),(1,dq),(2,aa)],uw⟩),
 (92,⟨pG,[]⟩),
 (93,⟨pG,[]⟩),
 (94,⟨[(0,aV),(1,Cz)],[.var 141 [.one (.whole jz 1),.one (.eY jP)],sX]⟩),
 (95,⟨[(0,cP),(1,aa),(2,aa),(3,aa),(4,.fn cR [] [])],cq⟩),
 (96,⟨pH,[]⟩),
 (97,⟨eQ,[]⟩),
 (98,⟨Ac,[]⟩),
 (99,⟨eQ,[]⟩),
 (100,⟨pH,[]⟩),
 (101,⟨[(0,Nl),(1,dq)],uw⟩),
 (103,⟨[(0,aa),(1,aa),(2,.fn vY [] [.dk 0 0 0]),(3,.fn vZ [] [.dk 0 0 0])],oc⟩),
 (104,⟨[(0,aa),(1,aa),(2,aV)],oc⟩),
 (105,⟨[(0,aa),(1,aV)],oc⟩),
 (106,⟨[(0,cP),(1,aa),(2,aa),(3,.fn cR [] [])],cq⟩),
 (107,⟨[(0,cP),(1,aa),(2,aa),(3,.fn cR [] [])],cq⟩),
 (108,⟨[(0,cP),(1,aa),(2,aa),(3,.fn cR [] [])],cq⟩),
 (109,⟨[(0,oa),(1,aa),(2,aa),(3,.fn cR [] [])],[]⟩),
 (110,⟨[(0,cP),(1,aa),(2,aa),(3,.fn cR [] [])],cq⟩),
 (111,⟨[(0,cP),(1,aa),(2,aa),(3,.fn cR [] [])],cq⟩),
 (112,⟨[(0,cP),(1,aa),(2,aa),(3,aa),(4,.fn cR [] [])],cq⟩),
 (113,⟨[(0,cP),(1,aa),(2,aa),(3,aa),(4,.fn cR [] [])],cq⟩),
 (115,⟨pH,[]⟩),
 (116,⟨Ac,[]⟩),
 (117,⟨[(0,aa),(1,dq),(2,.fn ur [] [.dk 0 0 0]),(3,.fn v5 [] [.dk 1 0 0])],[xK,oT]⟩),
 (118,⟨Ac,[]⟩),
 (119,⟨[(0,dq),(1,aV)],[oT]⟩),
 (120,⟨eQ,[]⟩),
 (121,⟨ln,[]⟩),
 (124,⟨CI,[.var 174 [ll,.one (.eY iO)],dx]⟩),
 (125,⟨[(0,cP),(1,aa),(2,aa),(3,aa),(4,.fn cR [] [])],cq⟩),
 (126,⟨eQ,[]⟩),
 (127,⟨[(0,aV)],[Ta]⟩),
 (128,⟨[(0,oa),(1,aa),(2,aV),(3,.fn cR [] [])],ux⟩),
 (129,⟨[(0,oa),(1,aa),(2,aa),(3,aa),(4,aV),(5,.fn cR [] [])],ux⟩),
 (130,⟨eQ,[]⟩),
 (131,⟨Tl,[]⟩),
 (132,⟨[(0,aV),(1,dq)],[.var 182 [.one (.whole dp 1),.one (.eY kH)],qt]⟩),
 (133,⟨[(0,dq),(1,aa),(2,aV)],[xK]⟩),
 (134,⟨[(0,GF),(1,dq)],[]⟩),
 (136,⟨pH,[]⟩),
 (137,⟨[(0,oa),(1,aa),(2,aa),(3,aV),(4,.fn cR [] [])],ux⟩),
 (138,⟨[(0,GF)],[]⟩),
 (139,⟨pH,[]⟩),
 (140,⟨eQ,[]⟩),
 (164,⟨CI,[.var 174 [ll,.one (.cD iO 2)],dx,.map iO]⟩),
 (165,⟨[(0,aV),(1,Cz)],[.var 141 [.one (.whole jz 1),.one (.cD jP 2)],sX,.map jP]⟩),
 (166,⟨[(0,Nm),(1,aa),(2,aa)],uw⟩),
 (167,⟨[(0,aV),(1,dq)],[.var 182 [.one (.whole dp 1),.one (.cD kH 2)],qt,.map kH]⟩)]
def anS:List (Nat×Shape):=[(3,⟨ln,[]⟩),
 (4,⟨[(0,aV)],[xJ]⟩),
 (5,⟨eQ,[xJ]⟩),
 (6,⟨[(0,.agg [.whole jy 1,.int .i64])],[xJ,xL]⟩),
 (7,⟨[(0,pD),(1,aa)],[jS]⟩),
 (8,⟨ln,[]⟩),
 (9,⟨[(0,pD),(1,aa)],[jS]⟩),
 (10,⟨ln,[]⟩),
 (11,⟨eQ,[]⟩),
 (12,⟨eQ,[]⟩),
 (13,⟨GS,qu⟩),
 (14,⟨xP,qu⟩),
 (15,⟨xP,qu⟩),
 (16,⟨GS,qu⟩),
 (17,⟨GS,qu⟩),
 (18,⟨[(0,.agg [.whole jy 0,.int .i64])],[xL]⟩),
 (19,⟨ln,[]⟩),
 (20,⟨eQ,[]⟩),
 (21,⟨eQ,[]⟩),
 (22,⟨eQ,[]⟩),
 (23,⟨Ab,[.var 59 [aa,acx,Ng,Nh],.dead,.map dX,.map dY,jS]⟩),
 (24,⟨ln,[]⟩),
 (25,⟨xP,qu⟩),
 (26,⟨[(0,.agg [.int .i64,.int .i64,.int .u64,.int .u64,.whole bt 0])],cq⟩),
 (27,⟨pH,[]⟩),
 (28,⟨xP,qu⟩),
 (29,⟨GQ,[]⟩),
 (30,⟨Tm,Tg⟩),
 (31,⟨ln,[]⟩),
 (32,⟨[(0,.one (.whole ao 0))],[ch]⟩),
 (33,⟨[(0,.one (.whole SU 0))],[acJ]⟩),
 (34,⟨ln,[]⟩),
 (35,⟨ln,[]⟩),
 (36,⟨[(0,Np),(1,aa)],NB⟩),
 (37,⟨[(0,oS)],[]⟩),
 (38,⟨eQ,[]⟩),
 (39,⟨ln,[]⟩),
 (40,⟨[(0,cP)],cq⟩),
 (41,⟨[(0,Cy),(1,z0),(2,aa)],[ch,cF,qt]⟩),
 (42,⟨GU,pF⟩),
 (43,⟨GU,pF⟩),
 (44,⟨ln,[]⟩),
 (45,⟨[(0,xF),(1,.one (.whole GC 1))],[dx,acK]⟩),
 (46,⟨GV,[]⟩),
 (47,⟨GV,[]⟩),
 (48,⟨GV,[]⟩),
 (49,⟨GV,[]⟩),
 (50,⟨GV,[]⟩),
 (51,⟨ln,[]⟩),
 (52,⟨[(0,Np)],NB⟩),
 (53,⟨[(0,Np)],NB⟩),
 (54,⟨[(0,Np)],NB⟩),
 (55,⟨xP,qu⟩),
 (56,⟨xP,qu⟩),
 (57,⟨GS,qu⟩),
 (58,⟨[(0,Nm)],uw⟩),
 (59,⟨eQ,[]⟩),
 (60,⟨ln,[]⟩),
 (61,⟨eQ,[]⟩),
 (62,⟨pH,[]⟩),
 (63,⟨GU,pF⟩),
 (64,⟨GS,qu⟩),
 (65,⟨[(0,Cy),(1,S7),(2,aa)],[ch,cF,ch,cF]⟩),
 (66,⟨xP,qu⟩),
 (67,⟨[(0,aV),(1,.one (.Bs .i64 0))],xO⟩),
 (68,⟨[],rC⟩),
 (69,⟨[],rC⟩),
 (70,⟨[],rC⟩),
 (71,⟨[],rC⟩),
 (72,⟨[(0,S7),(1,aa)],[.var 134 [aa,aa,dq,dq,oa],.dead,ch,cF]⟩),
 (73,⟨eQ,[]⟩),
 (75,⟨[(0,zZ)],[.dead,GM]⟩),
 (76,⟨pH,[]⟩),
 (77,⟨ln,[]⟩),
 (78,⟨Tm,Tg⟩),
 (79,⟨[(0,.agg [.int .i64,.int .i64,.whole ao 3,.whole ar 4]),(1,.one (.whole jz 5)),(2,aa)],[eE,eE,xH,ch,cF,sX]⟩),
 (80,⟨[(0,Cz)],xN⟩),
 (81,⟨ln,Tf⟩),
 (82,⟨[],rC⟩),
 (84,⟨[],rC⟩),
 (85,⟨[],cq⟩),
 (86,⟨eQ,[]⟩),
 (87,⟨eQ,[]⟩),
 (88,⟨eQ,[]⟩),
 (89,⟨[(0,S4)],[.dead,jR]⟩),
 (90,⟨xP,qu⟩),
 (91,⟨[(0,zZ)],[.dead,GM]⟩),
 (92,⟨Tm,Tg⟩),
 (93,⟨GU,pF⟩),
 (94,⟨eQ,[.var 141 [.one (.whole jz 2),.one (.cD jP 3)],.dead,sX,.map jP]⟩),
 (95,⟨[],cq⟩),
 (96,⟨eQ,[]⟩),
 (97,⟨ln,[]⟩),
 (98,⟨[(0,Cy),(1,z0),(2,aa)],[ch,cF,qt]⟩),
 (99,⟨[(0,oS)],[]⟩),
 (100,⟨eQ,[]⟩),
 (101,⟨[],uw⟩),
 (103,⟨[(0,.agg [.int .i64,.int .i64,.whole ao 1,.whole ar 2]),(1,rA),(2,aa)],[eE,ch,cF,dx]⟩),
 (104,⟨eQ,oc⟩),
 (105,⟨ln,oc⟩),
 (106,⟨[],cq⟩),
 (107,⟨[],cq⟩),
 (108,⟨[],cq⟩),
 (109,⟨Ab,[]⟩),
 (110,⟨[],cq⟩),
 (111,⟨ln,cq⟩),
 (112,⟨eQ,cq⟩),
 (113,⟨[(0,aa),(1,aC)],cq⟩),
 (115,⟨eQ,[]⟩),
 (116,⟨eQ,[]⟩),
 (117,⟨[(0,S7),(1,.one (.whole dp 4)),(2,aa)],[xK,oT,ch,cF,qt]⟩),
 (118,⟨[(0,.fn ur [] [.dk 0 0 0])],[xK]⟩),
 (119,⟨ln,[oT]⟩),
 (120,⟨eQ,[]⟩),
 (121,⟨eQ,[]⟩),
 (124,⟨eQ,[.var 174 [v7,.one (.cD iO 3)],.dead,dx,.map iO]⟩),
 (125,⟨[],cq⟩),
 (126,⟨pH,[]⟩),
 (127,⟨pH,[Ta]⟩),
 (128,⟨eQ,ux⟩),
 (129,⟨eQ,ux⟩),
 (130,⟨pH,[]⟩),
 (131,⟨eQ,[]⟩),
 (132,⟨eQ,[.var 182 [z0,GH],.dead,qt,.map kH]⟩),
 (133,⟨pH,[xK]⟩),
 (134,⟨pH,[]⟩),
 (136,⟨eQ,[]⟩),
 (137,⟨Ab,ux⟩),
 (138,⟨ln,[]⟩),
 (139,⟨GU,pF⟩),
 (140,⟨pH,[]⟩),
 (164,⟨eQ,[.var 174 [rA,.one (.cD iO 2)],.dead,.map iO,dx]⟩),
 (165,⟨eQ,[.var 141 [GG,.one (.cD jP 2)],.dead,.map jP,sX]⟩),
 (166,⟨[(0,zZ)],[.dead,GM]⟩),
 (167,⟨eQ,[.var 182 [acz,.one (.cD kH 2)],.dead,.map kH,qt]⟩)]
def anT:List (Nat×Shape):=[(67,⟨[(0,.one (.fg)),(1,.one (.Bs .i64 3))],[]⟩),
 (89,⟨[(0,cP)],cq⟩)]
def anU (n:Nat):List Nat:=(List.range (n.log2+1)).filter n.testBit
def aei:Nat→List Nat→List (Nat×List Nat)
 | _,[]=>[]
 | i,n::l=>(i,anU n)::aei (i+1) l
def VE (l:List (Nat×List Nat)):List (Nat×List (Nat×List Nat)):=l.map fun e=>(e.1,aei 0 e.2)
def anV:List (Nat×List (Nat×List Nat)):=VE [(3,[1,8,24,48,240,67108976,4,832,4398046511424,4,52776558133568,123145302311232,52776558134592,144167964633989440,4,52776558133568,4]),
 (4,[1,33,1,4]),
 (5,[3,16387,16,3,16]),
 (6,[71,199,451,963,132035,963,1987,33556419,1987,8589936579,1987,1099511629763,1987,4503599627372483,1987,963,192,64]),
 (7,[6,70,2097222,48,134,117440642,251658370,117441154,117442178,117444226,2264927874,6559895170,117443714,70984404610,117443714,1101776555650,117443714,117447810,70368861625474,117447810,117447810,117456002,72057594155383938,117456002,117456002,1180591620719676231298,117444226,117460610,75557863725914440879746,117460610,117460610,117493378,77371252455336267298688642,117493378,117558914,79228162514264337593661509250,117558914,117493378,649037107316853453566314306080386,117443714,42535295865117307932921825931235954306,117443714,2787593149816327892691964784081047453175426,117443714,182687704666362864775460604089535377457109012098,117443714,93536104789177786765035829293842113257979800192130,48,117440642,117440642,48]),
 (8,[0,2,1]),
 (9,[6,70,262214,48,132,388,900,120259085184,257698038656,120259088256,17712445132672,120259088256,18014518768570240,120259088256,120259098496,295147905299611924352,48,120259090304,120259085184,120259085184,48]),
 (10,[12,137438953484,16,3298534883340,7696581394444,3298534883372,18017697044365324,16,3298534883340,864691128455135244,2017612633061982220,864691128455135308,18890330622607035990092,16,3626778323535015979253836,8462481601993532678078540,3626778323535015979253964,1267654227006552936512682459212,16,3626778323535015979253836,864691128455135244,16]),
 (11,[3,67,16,3,2051,1,16]),
 (12,[6,2054,16,32774,16,917510,1966086,917606,917990,36028797019881958,16,18446744073710469606,16,618970019642690137450479622,16,917510,44601490397061246283071436545296723011960832,16,16]),
 (13,[19,16]),
 (14,[92,832,1049408,192,192]),
 (15,[28,28,220,476,476,2147484124,48,103079215580,240518169052,103079216092,61675730371548,132044474549212,61675730374620,18076074239854556,61675730371548,61675730371548,103079215580,8264141345021879124444,17708874310761169551836,8264141345021879132636,8264141345021879124444,8264141345021879124444,316912650057057350374175801816,464,80,48]),
 (16,[6,14,12302,28686,12318,12302,12302,4]),
 (17,[6,14,30,62,14680126,31457342,14680318,1088422014,14680190,14680446,962087354750,2061598982526,962087355774,962087354750,962087354750,14680126,14680126,20,4]),
 (18,[1,1]),
 (19,[6,1048582,16,38,469762086,1006632998,469762278,9059696742,469762086,469762086,16]),
 (20,[2,258,4,10,1835018,3932170,1835066,270270522,1835066,1099513462842,1835066,72057594039762970,1835018,1835018,4]),
 (21,[6,4102,16,65542,16,1835014,3932166,1835110,538705926,16,1835014,2199023255552,16,16]),
 (22,[1,8,24,24,24,4,256,4,4]),
 (23,[9,201,4194377,48,777,2147484425,48,1289,7433,35184372092169,3337,2313,2057,2048,48]),
 (24,[1,4]),
 (25,[92,348,8388956,192,2147483740,192,604,1628,3676,7772,4503599627378268,7772,15964,32348,65116,4611686018427453020,65116,130652,523868,2475880078570760549798510172,19807040628566084398386118236,192,261724,261724,196188,65116,7772,192]),
 (26,[6,14,786446,1835022,786462,67895326,786462,962073460766,2061585088542,962073460862,962073460766,962073460766,786446,4]),
 (27,[1,4]),
 (28,[6,518,12,6,84,4194388,12,12]),
 (29,[2,10,49162,114698,49178,4243482,49162,49162,10,42,106,8589934698,106,234,412316860650,962072674538,412316860906,412316860650,412316860650,106,2305843009213693994,4,10]),
 (30,[6,22,86,201326678,469762134,201326806,201326678,201326678,120259084374,257698037846,120259085142,120259084374,120259084374,1110,3940649673950278,8444249301320774,3940649673954374,3940649673962566,4039165915797926982,8650851934225314886,4039165915797959750,4039165915797926982,4039165915797926982,3940649673950278,3940649673950278,12]),
 (31,[3,65539,16,786435,1835011,786467,17180655619,16,786435,16]),
 (32,[2,10,10,26,131098,26,16777242,58,8589934650,58,2199023255610,26,4]),
 (33,[14,142,98446,229518,98702,1147278,3244430,98446,4296114574,140737488454030,98446,288230376152859022,98446,147573952589677560206,98446,618970019642690137450709390,98446,2596148429267413814265248165757326,99214,166153499473114484112975882535142286,99214,680564733841876926926749214863536522126,99214,89202980794122492566142873090593446024020366,98446,98446,64]),
 (34,[6,16]),
 (35,[14,16398,64,131086,67108874,64,536870922,64,64]),
 (36,[25,153,409,48,4249,48,65689,48,4194457,48,67109017,48,140737488355481,48,295147905179352825881,48,48]),
 (37,[2,10,28682,61450,28730,8417322,28714,939552778,2013294602,939552906,939552778,939552778,28682,28682,4]),
 (38,[12,44,1068,16,76,32844,16,2097152,16,16]),
 (39,[7,135,389,133,641,129,64]),
 (40,[1,9,904,1928,936,1000,33555432,1000,274877907944,904,904,4]),
 (41,[6,38,262182,28,70,198,454,966,17179870150,966,1990,4038,1099511631814,4038,8134,32710,144115188075872198,1152921504606855110,28,16326,16326,12230,4038,966,28]),
 (42,[1,9,25,57368,122904,57464,57848,134275320,57592,57528,57368,57368,4]),
 (43,[3,35,6179,14371,6243,6179,6179,16]),
 (44,[3,1027,16,12291,28675,12323,16789507,16,12291,16]),
 (45,[2,50,114,114,242,33554674,242,498,2147484146,498,1010,562949953422322,1010,498,12]),
 (46,[22,20,16]),
 (47,[19,51,114,1138,114,114,16]),
 (48,[28,16]),
 (49,[28,16]),
 (50,[28,16]),
 (51,[7,131,64,64]),
 (52,[19,16]),
 (53,[5,4]),
 (54,[19,51,49,16]),
 (55,[92,1860,1050436,192,3136,2147486784,192,192]),
 (56,[28,468,524756,48,976,68719477712,48,1744,1744,1744,1744,1744,73786976294838208144,1680,528,48]),
 (57,[6,262,4,14,458766,983054,458814,458782,458766,458766,4]),
 (58,[7,64]),
 (59,[2,10,16394,4,65546,4,68719476746,4,1924145348618,4123168604170,1924145348650,283399122059306,4,3942573819297802,8446173446668298,3942573819297930,2309785583032991754,4,3942573819297802,1924145348618,4]),
 (60,[12,524,16,524300,16,16]),
 (61,[2,524290,4,10,68719476738,4,1924145348610,4123168604162,1924145348658,9903520314283044123338342402,4,1924145348610,4]),
 (62,[14,142,14470,30854,14982,67123846,14470,14470,64]),
 (63,[3,34,24610,57378,24674,24610,24610,16]),
 (64,[6,134,4,12,4]),
 (65,[60,188,4284,112,316,524604,112,134217788,112,112]),
 (66,[120,376,65912,192,632,4194936,192,137438953592,192,5184,192]),
 (67,[3,131,48,48]),
 (68,[21,14341,30725,14533,1849413,3946565,1850181,1849413,1849413,14341]),
 (69,[57351,122887,57479,1073799303,57351,57351]),
 (70,[0]),
 (71,[1797,3845,1989,34629,1797,1797]),
 (72,[5,5,5,12]),
 (73,[2,32770,4,10,1048586,4,68719476746,4,1924145348618,4123168604170,1924145348650,283399122059306,4,3942573819297802,8446173446668298,3942573819297930,2309785583032991754,4,3942573819297802,1924145348618,4]),
 (75,[7,135,2181,133,133,64]),
 (76,[1,17,4,4]),
 (77,[3,16]),
 (78,[6,54,118,246,1879048438,4026532086,1879049206,551634862582,1879049718,985164297537014,2111064204379638,985164297543158,985164297537014,985164297537014,1879049462,1879048438,1879048438,24676,57444,1083197534374707740536791108,2321137573660088015435915332,1083197534374707740536987716,1083197534374707740536987716,317995847591432058114712789060,1083197534374707740536791108,1083197534374707740536791108,12]),
 (79,[301,2349,2317,6413,14605,33569037,14605,30989,63757,206158493965,481036400909,206158559501,206158493965,206158493965,4503599627434253,1792,30989,14605,1792]),
 (80,[94,64]),
 (81,[30,94,4188,92,1048648,72,32]),
 (82,[0]),
 (84,[0]),
 (85,[19,0]),
 (86,[12,16]),
 (87,[1,9,456,968,488,16872,4,456,4]),
 (88,[3,35,99,2115,4096,16,16,8195,16,65539,16,524288,16,16]),
 (89,[1,257,4,9,8201,9,33554441,25,57,4294967353,57,17592186044473,57,57,9,4,4]),
 (90,[6,84,16468,12,12]),
 (91,[7,1031,4099,64,131,387,385,64,1,64]),
 (92,[6,8198,12,54,180,6442451124,15032385716,6442451380,6442451124,6442451124,3848290697364,8246337208468,3848290698900,3848290697364,3848290697364,12]),
 (93,[2,262146,4,26,117440538,251658266,117440634,68836917306,117440538,117440538,154,410,492581209244058,1055531162665370,492581209245594,492581209247642,2018105214271228826,4323948223484922778,2018105214271241114,2018105214271228826,2018105214271228826,492581209295770,1208925820107210383969178,492581209263002,492581209260954,492581209244058,492581209244058,19807040628566084398385987970,4,26]),
 (94,[9,105,131113,4194313,9,41,41,32,16]),
 (95,[1055,3103,7199,33561631,0,4294974495,0,549755821087,7199,7199,31775,72057594037959711,15391,15391,31775,37778931862957161724959,1208925819614629174721567,158456325028528675187087916063,35869,3103,200735,71711,858143,1902623,42535295865117307932921825928972929055,68639,68637,3103,68639,68635,3103]),
 (96,[1,4,4]),
 (97,[1,4]),
 (98,[6,38,550,28,28]),
 (99,[1,17,4,4]),
 (100,[1,9,4]),
 (101,[19,1048595,51,51,211,851,3859,3347,3091,1043,19,19,4113,633825300114114700748351606801,12305,12305,53265,20497,4113,4113,696898287454081973172991196020261297066001,69649,69649,4113,4113,2923003274661805836407369665432566039311865090049,0]),
 (103,[271,2319,2317,6413,14605,33569037,14605,30989,63757,206158493965,481036400909,206158559501,206158493965,206158493965,4503599627434253,1792,30989,14605,1792]),
 (104,[7,32]),
 (105,[3,8]),
 (106,[271,16655,271,783,17179869967,783,783]),
 (107,[271,783,1801,3849,2101001,3849,3849,4873,8589939465,4873,4873,4873]),
 (108,[259,131331,771,1795,3843,34359742211,3843,7939,35184372096771,7939,3843]),
 (109,[15,1035,3083,7179,15371,31753,17179900937,68719507465,30729,30729,30729,10240,36028797018972160,768,180143985094828032,768,1152921504606855168,768]),
 (110,[261,769,33537,769,769,769]),
 (111,[15,527,1551,67087,1551,68719478287,1551,2199023257103,256,35184372090383,256,1551,36893488147419104783,3599,590295810358705655311,3599,19342813113834066795302415,3599,20282409603651670423947251287567,5647,649037107316853453566312041158159,5647,21267647932558653966460912964485518863,5647,256]),
 (112,[31,23,6163,140737488361491,6163,36893488147419109395,6163,1180591620717411309587,6163,6163,6163,1024]),
 (113,[31,23,12307,140737488367635,12307,73786976294838218771,12307,2361183241434822619155,8192,3072,12307,12307,12307,1329227995784915872903807060280356883,12307,696898287454081973172991196020261297074195,12307,22300745198530623141535718272648361505992723,12307,12307,12307,8192,3072]),
 (115,[5,21,1,5,261,5,5,16389,5,5,4]),
 (116,[2,4194306,4,4294967298,4,120259084290,257698037762,120259084314,36893488267678187546,4,309485009821345188983865346,4,120259084290,4]),
 (117,[271,2319,2317,6413,14605,33569037,14605,30989,63757,206158493965,481036400909,206158559501,206158493965,206158493965,4503599627434253,1792,30989,14605,1792]),
 (118,[2,10,6154,14346,6170,6154,6154,58720264,125829128,58720328,58720264,58720264,4]),
 (119,[3,8]),
 (120,[1,4]),
 (121,[1,8,4,4]),
 (124,[3,99,131107,4194307,3,35,35,32,16]),
 (125,[1053,3101,265245,1099511630877,3101,288230376151714845,2077,1053]),
 (126,[1,4]),
 (127,[1,1,1,1,4]),
 (128,[15,256]),
 (129,[63,63,55,4,4096]),
 (130,[1,4]),
 (131,[12,16]),
 (132,[3,99,131107,4194307,3,35,35,32,16]),
 (133,[7,32]),
 (134,[3,1027,16,35,458785,983073,458913,458785,458785,16]),
 (136,[1,17,4,4]),
 (137,[31,4194318,6,3072,3072]),
 (138,[1,129,4,1793,3841,1809,526081,4,1793,4]),
 (139,[1,9,41,9,9,4]),
 (140,[1,4])]
def anW:List (Nat×List (Nat×List Nat)):=VE [(3,[0,0,0,0,0,0,0,0,0,0,0,0,0,0,0,0,0,0,0,0,0,0,0,0,0,0,112,0,0,0,0,0,0,0,0,0,0,0,0,0,0,0,320,0,0,0,52776558133568,0,0,0,0,0,0,0,0,0,0,52776558133568]),
 (4,[0,0,0,0,0,1]),
 (5,[0,0,0,0,0,0,0,0,0,0,0,0,0,0,3]),
 (6,[0,0,0,0,0,0,0,0,0,0,0,0,0,0,0,0,0,963,0,0,0,0,0,0,0,1987,0,0,0,0,0,0,0,1987,0,0,0,0,0,0,1987,0,0,0,0,0,0,0,0,0,0,0,1987]),
 (7,[0,0,0,0,0,0,0,0,0,0,0,0,0,0,0,0,0,0,0,0,0,6,0,0,0,0,0,117440642,0,0,0,0,117443714,0,0,0,117443714,0,0,0,117443714,0,0,0,0,0,117447810,0,0,0,0,0,0,0,0,0,117456002,0,0,0,0,0,0,0,0,0,0,0,0,0,117443714,0,0,0,0,0,117460610,0,0,0,0,0,0,0,0,0,117493378,0,0,0,0,0,0,0,0,0,117558914,0,0,0,0,0,0,0,0,0,0,0,0,117443714,0,0,0,0,0,0,0,0,0,0,0,0,0,0,0,117443714,0,0,0,0,0,0,0,0,0,0,0,0,0,0,0,117443714,0,0,0,0,0,0,0,0,0,0,0,0,0,0,0,117443714,0,0,0,0,0,0,0,0,117441666]),
 (8,[]),
 (9,[0,0,0,0,0,0,0,0,0,0,0,0,0,0,0,0,0,0,6,0,0,0,0,0,0,0,0,0,0,0,0,0,0,0,0,0,0,120259085184,0,0,0,0,0,0,120259088256,0,0,0,0,0,0,0,0,0,120259088256,0,0,0,0,0,0,0,0,0,0,0,0,0,120259090304]),
 (10,[0,0,0,0,0,0,0,0,0,0,0,0,0,0,0,0,0,0,0,0,0,0,0,0,0,0,0,0,0,0,0,0,0,0,0,0,0,12,0,0,0,0,3298534883340,0,0,0,0,0,0,0,0,0,0,0,3298534883340,0,0,0,0,0,864691128455135244,0,0,0,0,0,0,0,0,0,0,0,0,0,864691128455135308,0,0,0,0,0,0,0,3626778323535015979253836,0,0,0,0,0,0,0,0,0,0,0,0,0,0,0,0,0,3626778323535015979253836]),
 (11,[0,0,0,0,0,0,3,0,0,0,0,1]),
 (12,[0,0,0,0,0,0,0,0,0,0,0,6,0,0,0,6,0,0,0,0,917510,0,0,0,0,0,0,0,0,0,0,0,0,0,0,0,0,0,0,0,0,0,0,0,0,0,0,0,0,0,0,0,0,0,0,917510,0,0,0,0,0,0,0,0,917510,0,0,0,0,0,0,0,0,0,0,0,0,0,0,0,0,0,0,0,0,0,0,0,0,917510,0,0,0,0,0,0,0,0,0,0,0,0,0,0,0,0,0,0,0,0,0,0,0,0,0,0,0,0,0,0,0,0,0,0,0,0,0,0,0,0,0,0,0,0,0,0,0,0,0,0,0,0,0,0,0,0]),
 (13,[]),
 (14,[0,0,0,0,0,0,0,0,0,0,0,0,0,0,0,0,0,0,0,0,320]),
 (15,[0,0,0,0,0,0,0,0,0,0,0,0,0,0,0,0,0,0,0,0,0,0,0,0,0,0,0,0,0,0,0,476,0,0,0,0,0,103079215580,0,0,0,0,0,0,0,0,61675730371548,0,0,0,0,0,0,0,61675730371548,0,0,0,0,0,0,0,0,0,0,0,0,0,0,0,0,0,0,8264141345021879124444,0,0,0,0,0,0,0,0,0,0,0,0,0,0,0,0,0,0,0,0,0,0,0,0,464]),
 (16,[0,0,0,0,0,0,0,0,0,0,0,0,0,0,12302]),
 (17,[0,0,0,0,0,0,0,0,0,0,0,0,0,0,0,0,0,0,0,0,0,0,0,0,14680126,0,0,0,0,0,14680190,0,0,0,0,0,0,0,0,0,962087354750]),
 (18,[]),
 (19,[0,0,0,0,0,0,0,0,0,0,0,0,0,0,0,0,0,0,0,0,6,0,0,0,0,0,0,0,0,469762086,0,0,0,469762086]),
 (20,[0,0,0,0,0,0,0,0,2,0,0,0,0,0,0,0,0,0,0,0,0,1835018,0,0,0,0,0,0,1835066,0,0,0,0,0,0,0,0,0,0,0,1835066,0,0,0,0,0,0,0,0,0,0,0,0,0,0,0,1835018]),
 (21,[0,0,0,0,0,0,0,0,0,0,0,0,6,0,0,0,6,0,0,0,0,1835014,0,0,0,0,0,0,0,1835014,0,0,0,0,0,0,0,0,0,0,0,0]),
 (22,[0,0,0,0,24,0,0,0,0]),
 (23,[0,0,0,0,0,0,0,0,0,0,0,0,0,0,0,0,0,0,0,0,0,0,9,0,0,0,0,0,0,0,0,265,0,0,0,0,0,0,0,0,0,0,0,0,0,2057]),
 (24,[]),
 (25,[0,0,0,0,0,0,0,0,0,0,0,0,0,0,0,0,0,0,0,0,0,0,0,92,0,0,0,0,0,0,0,92,0,0,0,0,0,0,0,0,0,0,0,0,0,0,0,0,0,0,0,0,7772,0,0,0,0,0,0,0,0,0,65116,0,0,0,0,0,0,0,0,0,0,0,0,0,0,0,0,0,0,0,0,0,0,0,0,0,0,0,0,196188,0,0,130652]),
 (26,[0,0,0,0,0,0,0,0,0,0,0,0,0,0,0,0,0,0,0,0,786446,0,0,0,0,0,786462,0,0,0,0,0,0,0,0,0,0,0,0,0,962073460766]),
 (27,[]),
 (28,[0,0,0,0,0,0,0,0,0,6,0,0,0,0,0,0,0,0,0,0,0,0,20]),
 (29,[0,0,0,0,0,0,0,0,0,0,0,0,0,0,0,0,49162,0,0,0,0,0,49162,0,0,0,0,0,0,0,0,0,0,106,0,0,0,0,0,412316860650,0,0,0,0,0,0,0,0,0,0,0,0,0,0,0,0,0,0,0,0,0,34]),
 (30,[0,0,0,0,0,0,0,0,0,0,0,0,0,0,0,0,0,0,0,0,0,0,0,0,0,0,0,0,201326678,0,0,0,0,0,0,0,0,120259084374,0,0,0,0,0,0,0,0,0,0,0,0,0,0,3940649673950278,0,0,0,0,0,0,0,0,0,4039165915797926982]),
 (31,[0,0,0,0,0,0,0,0,0,0,0,0,0,0,0,0,3,0,0,0,786435,0,0,0,0,0,0,0,0,0,0,0,0,0,786435]),
 (32,[0,0,0,0,0,0,0,0,0,0,0,0,0,0,0,0,0,26,0,0,0,0,0,0,26,0,0,0,0,0,0,0,0,58,0,0,0,0,0,0,0,26]),
 (33,[0,0,0,0,0,0,0,0,0,0,0,0,0,0,0,0,0,98446,0,0,0,98446,0,0,0,0,0,0,0,0,0,0,98446,0,0,0,0,0,0,0,0,0,0,0,0,0,0,98446,0,0,0,0,0,0,0,0,0,0,98446,0,0,0,0,0,0,0,0,98446,0,0,0,0,0,0,0,0,0,0,0,0,0,0,0,0,0,0,0,0,0,98446,0,0,0,0,0,0,0,0,0,0,0,0,0,0,0,0,0,0,0,0,0,98446,0,0,0,0,0,99214,0,0,0,0,0,0,0,0,0,0,0,99214,0,0,0,0,0,0,0,0,0,0,0,0,0,0,0,0,98446]),
 (34,[]),
 (35,[0,0,0,0,0,0,0,0,0,0,0,0,0,0,14,0,0,10,0,0,0,0,0,0,0,0,10,0,0,10]),
 (36,[0,0,0,0,0,0,0,0,25,0,0,0,25,0,0,0,25,0,0,0,0,0,25,0,0,0,25,0,0,0,0,0,0,0,0,0,0,0,0,0,0,0,0,0,0,0,0,25,0,0,0,0,0,0,0,0,0,0,0,0,0,0,0,0,0,0,0,0,25]),
 (37,[0,0,0,0,0,0,0,0,0,0,0,0,0,0,0,28682,0,0,0,0,0,0,0,28714,0,0,0,0,0,0,939552778]),
 (38,[0,0,0,0,0,0,0,0,0,0,12,0,0,0,0,12,0,0,0,0,0,0]),
 (39,[0,0,0,0,0,0,0,0,133,129]),
 (40,[0,0,0,0,0,0,0,0,0,0,904,0,0,0,0,0,0,0,0,0,0,0,0,0,0,1000,0,0,0,0,0,0,0,0,0,0,0,0,904]),
 (41,[0,0,0,0,0,0,0,0,0,0,0,0,0,0,0,0,0,0,6,0,0,0,0,0,0,0,0,0,0,0,0,0,0,0,966,0,0,0,0,0,4038,0,0,0,0,0,0,0,0,0,0,0,0,0,0,0,0,12230,0,0,8134]),
 (42,[0,0,0,0,0,0,0,0,0,0,0,0,0,0,0,0,57368,0,0,0,0,0,0,0,0,0,0,57528]),
 (43,[0,0,0,0,0,0,0,0,0,0,0,0,0,6179]),
 (44,[0,0,0,0,0,0,0,0,0,0,3,0,0,0,12291,0,0,0,0,0,0,0,0,0,12291]),
 (45,[0,0,0,0,0,0,0,0,0,0,0,0,0,0,0,0,0,0,0,0,0,0,0,0,0,242,0,0,0,0,0,498,0,0,0,0,0,0,0,0,0,0,0,0,0,0,0,0,0,498]),
 (46,[]),
 (47,[0,0,0,0,0,0,0,0,0,0,114]),
 (48,[]),
 (49,[]),
 (50,[]),
 (51,[0,0,0,0,0,0,0,1]),
 (52,[]),
 (53,[]),
 (54,[]),
 (55,[0,0,0,0,0,0,0,0,0,0,0,0,0,0,0,0,0,0,0,0,836,0,0,0,0,0,0,0,0,0,0,2112]),
 (56,[0,0,0,0,0,0,0,0,0,0,0,0,0,0,0,0,0,0,0,212,0,0,0,0,0,0,0,0,0,0,0,0,0,0,0,0,720,0,0,0,0,0,0,0,0,0,0,0,0,0,0,0,0,0,0,0,0,0,0,0,0,0,0,0,0,0,1680]),
 (57,[0,0,0,0,0,0,0,0,6,0,0,0,0,0,0,0,0,0,0,458766]),
 (58,[]),
 (59,[0,0,0,0,0,0,0,0,0,0,0,0,0,0,10,0,10,0,0,0,0,0,0,0,0,0,0,0,0,0,0,0,0,0,0,0,10,0,0,0,0,1924145348618,0,0,0,0,0,0,1924145348650,0,0,0,3942573819297802,0,0,0,0,0,0,0,0,3942573819297802]),
 (60,[0,0,0,0,0,0,0,0,0,12,0,0,0,0,0,0,0,0,0,12]),
 (61,[0,0,0,0,0,0,0,0,0,0,0,0,0,0,0,0,0,0,0,2,0,0,0,0,0,0,0,0,0,0,0,0,0,0,0,0,2,0,0,0,0,1924145348610,0,0,0,0,0,0,0,0,0,0,0,0,0,0,0,0,0,0,0,0,0,0,0,0,0,0,0,0,0,0,0,0,0,0,0,0,0,0,0,0,0,0,0,0,0,0,0,0,0,0,0,1924145348610]),
 (62,[0,0,0,0,0,0,0,0,0,0,0,0,0,0,14470,0,0,0,0,0,0,0,0,0,0,0,14470]),
 (63,[0,0,0,0,0,0,0,0,0,0,0,0,0,0,0,24610]),
 (64,[0,0,0,0,0,0,0,6]),
 (65,[0,0,0,0,0,0,0,0,0,0,0,0,60,0,0,0,0,0,0,60,0,0,0,0,0,0,0,60]),
 (66,[0,0,0,0,0,0,0,0,0,0,0,0,0,0,0,0,120,0,0,0,0,0,120,0,0,0,0,0,0,0,0,0,0,0,0,0,0,120]),
 (67,[0,0,0,0,0,0,0,3]),
 (68,[0,0,0,0,0,0,0,0,0,0,0,0,0,0,14341,0,0,0,0,0,0,1849413]),
 (69,[0,0,0,0,0,0,0,0,0,0,0,0,0,0,0,0,57351,0,0,0,0,0,0,0,0,0,0,0,0,0,57351]),
 (70,[]),
 (71,[0,0,0,0,0,0,0,0,0,0,0,1797,0,0,0,1797]),
 (72,[]),
 (73,[0,0,0,0,0,0,0,0,0,0,0,0,0,0,0,2,0,0,0,0,10,0,0,0,0,0,0,0,0,0,0,0,0,0,0,0,10,0,0,0,0,1924145348618,0,0,0,0,0,0,1924145348650,0,0,0,3942573819297802,0,0,0,0,0,0,0,0,3942573819297802]),
 (75,[0,0,0,0,0,0,0,0,0,0,0,133]),
 (76,[0,0,0,0,1]),
 (77,[]),
 (78,[0,0,0,0,0,0,0,0,0,0,0,0,0,0,0,0,0,0,0,0,0,0,0,0,0,0,0,0,0,0,0,1879048438,0,0,0,0,0,0,0,1879048694,0,0,0,0,0,0,0,0,0,0,985164297537014,0,0,0,0,0,0,0,0,0,0,0,0,0,0,0,0,0,0,0,0,0,0,0,0,0,0,0,0,0,0,0,0,0,0,0,0,0,0,0,1083197534374707740536791108,0,0,0,0,0,0,0,1083197534374707740536791108]),
 (79,[0,0,0,0,0,0,0,0,0,0,0,0,0,0,0,0,0,0,0,0,0,0,0,0,0,14605,0,0,0,0,0,0,0,0,0,0,0,0,206158493965,0,0,0,0,0,0,0,0,0,0,0,0,0,63757]),
 (80,[]),
 (81,[0,0,0,0,0,0,0,0,0,0,0,0,92,0,0,0,0,0,0,0,72]),
 (82,[]),
 (84,[]),
 (85,[]),
 (86,[]),
 (87,[0,0,0,0,0,0,0,0,0,456,0,0,0,0,456]),
 (88,[0,0,0,0,0,0,0,0,0,0,0,67,0,3,0,0,3,0,0,0]),
 (89,[0,0,0,0,0,0,0,0,1,0,0,0,0,9,0,0,0,0,0,0,0,0,0,0,0,9,0,0,0,0,0,0,57,0,0,0,0,0,0,0,0,0,0,0,57]),
 (90,[0,0,0,0,0,0,0,0,0,0,0,0,0,0,20]),
 (91,[0,0,0,0,0,0,0,0,0,0,7,0,3]),
 (92,[0,0,0,0,0,0,0,0,0,0,0,0,0,6,0,0,0,0,0,0,0,0,0,0,0,0,0,0,0,0,0,0,0,6442451124,0,0,0,0,0,0,0,0,3848290697364]),
 (93,[0,0,0,0,0,0,0,0,0,0,0,0,0,0,0,0,0,0,2,0,0,0,0,0,0,0,0,117440538,0,0,0,0,0,0,0,0,117440538,0,0,0,0,0,0,0,0,0,0,0,0,492581209244058,0,0,0,0,0,0,0,0,0,0,0,2018105214271228826,0,0,0,0,0,0,0,0,0,0,0,0,0,0,0,0,0,0,492581209260954,0,0,0,0,0,0,0,0,0,0,0,0,0,386]),
 (94,[0,0,0,0,0,0,0,0,0,0,0,0,0,0,0,0,0,32,0,0,0,0,9]),
 (95,[0,0,0,0,0,0,0,0,0,0,0,0,0,0,0,0,0,0,0,0,0,0,0,0,0,7199,0,0,0,0,0,0,7199,0,0,0,0,0,0,7199,0,0,0,0,0,0,0,0,0,0,0,0,0,0,0,0,31775,0,0,0,0,0,0,0,0,0,0,0,0,0,0,0,0,0,0,15391,0,0,0,0,15391,0,0,0,0,0,0,0,0,0,0,0,0,0,0,0,0,12319,0,0,0,0,0,0,0,0,0,0,0,0,0,0,0,0,0,0,0,0,0,0,0,0,0,0,0,3103]),
 (96,[]),
 (97,[]),
 (98,[0,0,0,0,0,0,0,0,0,6]),
 (99,[0,0,0,0,1]),
 (100,[]),
 (101,[0,0,0,0,0,0,0,0,0,0,0,0,0,0,0,0,0,0,0,0,19,0,0,0,0,0,0,0,0,0,0,0,0,0,0,0,0,0,0,0,0,0,0,0,0,0,0,0,0,0,0,0,0,0,0,0,0,0,0,0,0,0,0,0,0,0,0,0,0,0,0,0,0,0,0,0,0,0,0,0,0,0,0,0,0,0,0,0,0,0,0,0,0,0,0,0,0,0,0,4113,0,0,0,0,0,0,0,0,0,0,0,0,0,0,0,0,0,0,0,0,0,0,0,0,0,0,0,0,0,0,0,0,0,0,0,0,0,0,0,4113,0,0,0,0,0,0,0,0,0,0,0,0,0,0,0,0,0,0,0,0,0,0]),
 (103,[0,0,0,0,0,0,0,0,0,0,0,0,0,0,0,0,0,0,0,0,0,0,0,0,0,14605,0,0,0,0,0,0,0,0,0,0,0,0,206158493965,0,0,0,0,0,0,0,0,0,0,0,0,0,63757]),
 (104,[]),
 (105,[]),
 (106,[0,0,0,0,0,0,0,0,0,0,0,0,0,0,271,0,0,0,0,0,0,0,0,0,0,0,0,0,0,0,0,0,0,0,783]),
 (107,[0,0,0,0,0,0,0,0,0,0,0,0,0,0,0,0,0,0,0,0,0,3849,0,0,0,0,0,0,0,0,0,0,0,4873]),
 (108,[0,0,0,0,0,0,0,0,0,0,0,0,0,0,0,0,0,0,0,0,0,0,0,0,0,0,0,0,0,0,0,0,0,0,0,3843,0,0,0,0,0,0,0,0,0,7939]),
 (109,[0,0,0,0,0,0,0,0,0,0,0,0,0,0,0,0,0,0,0,0,0,0,0,0,0,0,0,0,0,0,0,0,0,0,10240,0,30729,0,0,0,0,0,0,0,0,0,0,0,0,0,0,0,0,0,0,0,0,768,0,0,768]),
 (110,[0,0,0,0,0,0,0,0,0,0,0,0,0,0,0,769]),
 (111,[0,0,0,0,0,0,0,0,0,0,0,0,0,0,0,0,1551,0,0,0,0,0,0,0,0,0,0,0,0,0,0,0,0,0,0,0,1551,0,0,0,0,1551,0,0,0,1551,0,0,0,0,0,0,0,0,0,0,0,0,0,0,0,0,0,0,0,1551,0,0,0,3599,0,0,0,0,0,0,0,0,0,0,0,0,0,0,3599,0,0,0,0,0,0,0,0,0,0,0,0,0,0,0,0,0,0,0,1551,0,0,0,0,5647,0,0,0,0,0,0,0,0,0,0,0,0,0,0,5647]),
 (112,[0,0,0,0,0,0,0,0,0,0,0,0,0,0,0,0,0,0,0,0,0,0,0,0,0,0,0,0,0,0,0,0,0,0,0,0,0,0,0,0,0,0,0,0,0,0,0,6163,0,0,0,0,0,0,0,0,0,0,0,0,0,0,0,0,0,6163,0,0,0,0,6163]),
 (113,[0,0,0,0,0,0,0,0,0,0,0,0,0,0,0,0,0,0,0,0,0,0,0,0,0,0,0,0,0,0,0,0,0,0,0,0,0,0,0,0,0,0,0,0,0,0,0,12307,0,0,0,0,0,0,0,0,0,0,0,0,0,0,0,0,0,0,12307,0,0,0,0,12307,0,0,0,0,0,0,0,0,0,0,0,0,0,0,0,0,0,0,0,0,0,0,0,0,0,0,0,0,0,0,0,0,0,0,0,0,0,0,0,0,0,0,0,0,0,0,0,0,12307,0,0,0,0,0,0,0,0,0,0,0,0,0,0,0,0,0,0,12307,0,0,0,0,12307]),
 (115,[0,0,0,0,5,0,0,0,5,0,0,0,0,0,5]),
 (116,[0,0,0,0,0,0,0,0,0,0,0,0,0,0,0,0,0,0,0,0,0,0,2,0,0,0,0,0,0,0,0,0,2,0,0,0,0,120259084290,0,0,0,0,0,0,0,0,0,0,0,0,0,0,0,0,0,0,0,0,0,0,0,0,0,0,0,120259084314,0,0,0,0,0,0,0,0,0,0,0,0,0,0,0,0,0,0,0,0,0,0,120259084290]),
 (117,[0,0,0,0,0,0,0,0,0,0,0,0,0,0,0,0,0,0,0,0,0,0,0,0,0,14605,0,0,0,0,0,0,0,0,0,0,0,0,206158493965,0,0,0,0,0,0,0,0,0,0,0,0,0,63757]),
 (118,[0,0,0,0,0,0,0,0,0,0,0,0,0,6154,0,0,0,0,0,0,0,0,0,0,0,0,58720264]),
 (119,[]),
 (120,[]),
 (121,[0,0,0,0]),
 (124,[0,0,0,0,0,0,0,0,0,0,0,0,0,0,0,0,0,32,0,0,0,0,3]),
 (125,[0,0,0,0,0,0,0,0,0,0,0,0,0,0,0,0,0,0,3101,0,0,0,0,0,0,0,0,0,0,0,0,0,0,0,0,0,0,0,0,0,3101,0,0,0,0,0,0,0,0,0,0,0,0,0,0,0,0,0,3101]),
 (126,[]),
 (127,[]),
 (128,[]),
 (129,[]),
 (130,[]),
 (131,[]),
 (132,[0,0,0,0,0,0,0,0,0,0,0,0,0,0,0,0,0,32,0,0,0,0,3]),
 (133,[]),
 (134,[0,0,0,0,0,0,0,0,0,0,3,0,0,0,0,0,0,0,0,458785]),
 (136,[0,0,0,0,1]),
 (137,[0,0,0,0,0,0,0,0,0,0,0,0,0,0,0,0,0,0,0,0,0,0,6]),
 (138,[0,0,0,0,0,0,0,1,0,0,0,1793,0,0,0,0,0,0,0,1793]),
 (139,[0,0,0,0,0,9]),
 (140,[])]
def anX:List (Nat×List (Nat×List Nat)):=VE [(3,[0,52776558133568]),
 (4,[]),
 (5,[]),
 (6,[448,963]),
 (7,[128,117440642,117443714,117443714,117447810,117447810,117456002,117443714,117460610,117460610,117493378]),
 (8,[]),
 (9,[512,120259085184]),
 (10,[12,3298534883340,0,864691128455135244,864691128455135244,3626778323535015979253836]),
 (11,[]),
 (12,[4,917510,917510]),
 (13,[]),
 (14,[]),
 (15,[476,103079215580,103079215580,61675730371548,476,8264141345021879124444]),
 (16,[12,12302]),
 (17,[20,14680126,14680446,962087354750]),
 (18,[]),
 (19,[38,469762086]),
 (20,[10,1835018]),
 (21,[4,1835014]),
 (22,[0]),
 (23,[]),
 (24,[]),
 (25,[2112,7772,32348,65116]),
 (26,[12,786446,786446,962073460766]),
 (27,[]),
 (28,[]),
 (29,[10,49162,4,10,42,106,234,412316860650]),
 (30,[86,201326678,86,120259084374,1092,3940649673950278,3940649673962566,4039165915797926982]),
 (31,[0,786435]),
 (32,[8,26]),
 (33,[128,98446,98446,98446,99214]),
 (34,[]),
 (35,[]),
 (36,[25]),
 (37,[8,28682,28682,939552778]),
 (38,[]),
 (39,[]),
 (40,[8,904,1000,1000]),
 (41,[324,966,1990,4038]),
 (42,[16,57368]),
 (43,[32,6179]),
 (44,[0,12291]),
 (45,[48,242,242,498]),
 (46,[]),
 (47,[48,114]),
 (48,[]),
 (49,[]),
 (50,[]),
 (51,[]),
 (52,[]),
 (53,[]),
 (54,[]),
 (55,[]),
 (56,[]),
 (57,[12,458766]),
 (58,[]),
 (59,[0,1924145348618,1924145348618,3942573819297802]),
 (60,[]),
 (61,[0,1924145348610]),
 (62,[128,14470]),
 (63,[32,24610]),
 (64,[]),
 (65,[]),
 (66,[]),
 (67,[]),
 (68,[0,14341,14341,1849413]),
 (69,[0,57351]),
 (70,[]),
 (71,[0,1797]),
 (72,[]),
 (73,[0,1924145348618,1924145348618,3942573819297802]),
 (75,[]),
 (76,[]),
 (77,[]),
 (78,[228,1879048438,1879049718,985164297537014,40964,1083197534374707740536791108]),
 (79,[6400,14605,63757,206158493965]),
 (80,[]),
 (81,[]),
 (82,[]),
 (84,[]),
 (85,[]),
 (86,[]),
 (87,[8,456]),
 (88,[]),
 (89,[1,9,9,57]),
 (90,[]),
 (91,[]),
 (92,[180,6442451124,148,3848290697364]),
 (93,[26,117440538,4,26,402,492581209244058,492581209246618,2018105214271228826]),
 (94,[]),
 (95,[0,3103]),
 (96,[]),
 (97,[]),
 (98,[]),
 (99,[]),
 (100,[]),
 (101,[19,19]),
 (103,[6400,14605,63757,206158493965]),
 (104,[]),
 (105,[]),
 (106,[0,271,271,783]),
 (107,[1801,3849,0,4873]),
 (108,[0,3843]),
 (109,[768]),
 (110,[0,769]),
 (111,[0,1551,1551,1551,1551,3599,1551,5647]),
 (112,[2048,6163,6163,6163,6163,6163]),
 (113,[12307,12307,12307,12307,8195,12307,12307,12307,12307,12307]),
 (115,[]),
 (116,[0,120259084290]),
 (117,[6400,14605,63757,206158493965]),
 (118,[10,6154,8,58720264]),
 (119,[]),
 (120,[]),
 (121,[]),
 (124,[]),
 (125,[0,1053]),
 (126,[]),
 (127,[]),
 (128,[]),
 (129,[]),
 (130,[]),
 (131,[]),
 (132,[]),
 (133,[]),
 (134,[32,458785]),
 (136,[]),
 (137,[]),
 (138,[0,1793]),
 (139,[8,9]),
 (140,[])]
def anY:List (Nat×List (Nat×List Nat)):=[(7,[(16,[5000025]),(26,[5000025])]),
 (29,[(8,[3]),(19,[5])])]
def anZ:List (Nat×List Nat):=[(118,[0])]
def an0:List (Nat×List (Nat×List (Nat×Nat))):=[(3,[(1,[(1,4)]),(2,[(1,5)]),(3,[(2,6)]),(4,[(2,7)]),(6,[(0,8)]),(7,[(2,9)]),(13,[(8,10)]),(16,[(0,8)])]),
 (5,[(4,[(12,11)])]),
 (6,[(2,[(2,5)]),(6,[(1,5)]),(8,[(2,11)]),(10,[(2,5)]),(12,[(2,5)]),(14,[(2,5)])]),
 (7,[(1,[(2,12)]),(12,[(1,13)]),(14,[(1,13)]),(39,[(10,14)]),(41,[(10,14)]),(43,[(10,15)]),(45,[(5,16)]),(48,[(2,17)])]),
 (8,[(1,[(0,18)]),(2,[(1,19),(4,19),(9,20),(14,21),(19,21)])]),
 (9,[(1,[(2,21)]),(10,[(2,22)]),(12,[(2,22)]),(14,[(2,23)])]),
 (12,[(1,[(1,24)])]),
 (14,[(1,[(1,17),(3,17),(5,25)]),(4,[(1,17)])]),
 (15,[(1,[(1,17),(3,17)]),(2,[(1,26),(3,26)]),(23,[(6,27)]),(25,[(1,28)])]),
 (17,[(1,[(1,29)]),(17,[(1,30)])]),
 (19,[(1,[(1,21),(5,31)]),(4,[(1,32)]),(8,[(9,33)]),(10,[(9,34)])]),
 (20,[(1,[(1,21)]),(7,[(2,22)]),(9,[(2,22)])]),
 (21,[(8,[(3,35)])]),
 (23,[(4,[(2,36)]),(7,[(1,37)])]),
 (25,[(1,[(2,38)]),(26,[(20,39)])]),
 (26,[(1,[(7,27)]),(6,[(3,27)])]),
 (28,[(3,[(2,40)]),(4,[(1,41)]),(7,[(1,17)])]),
 (29,[(8,[(1,42)]),(19,[(2,43)]),(20,[(2,44)])]),
 (30,[(1,[(1,45)])]),
 (32,[(8,[(2,22)]),(10,[(2,22)])]),
 (33,[(7,[(7,46)]),(10,[(8,46)]),(12,[(5,47)]),(14,[(18,48)]),(16,[(18,49)]),(21,[(9,34)]),(22,[(14,48)]),(24,[(5,47),(14,50)])]),
 (35,[(8,[(5,22),(7,51),(14,22),(16,51)])]),
 (36,[(3,[(1,52)]),(5,[(1,53)]),(7,[(3,54)]),(9,[(1,52)]),(11,[(16,55)]),(13,[(16,55)]),(15,[(16,56)]),(16,[(8,57)])]),
 (37,[(1,[(2,58)]),(10,[(4,166)])]),
 (38,[(1,[(1,59)]),(4,[(1,59)])]),
 (40,[(6,[(9,60)])]),
 (41,[(1,[(1,61)]),(14,[(6,62)])]),
 (43,[(7,[(1,42)])]),
 (47,[(5,[(2,46)])]),
 (52,[(1,[(7,63)])]),
 (53,[(1,[(6,63),(8,63)])]),
 (54,[(1,[(1,63)]),(3,[(7,63),(9,63),(12,64)])]),
 (55,[(1,[(2,65)]),(4,[(3,66)]),(7,[(1,64)])]),
 (56,[(1,[(2,65)]),(4,[(9,67)]),(8,[(2,68)]),(9,[(3,68)]),(10,[(7,69)]),(11,[(3,70)]),(13,[(5,70)]),(14,[(4,71)]),(15,[(1,72)])]),
 (57,[(1,[(1,73)])]),
 (58,[(1,[(3,75)])]),
 (59,[(2,[(2,24)])]),
 (61,[(1,[(2,24)]),(3,[(2,76)]),(9,[(45,60)])]),
 (62,[(5,[(8,77)]),(6,[(3,27)])]),
 (64,[(1,[(1,73)]),(3,[(1,78)])]),
 (65,[(1,[(1,73)]),(4,[(1,73)]),(9,[(1,64),(3,64)])]),
 (66,[(1,[(1,73)]),(4,[(1,73)]),(9,[(9,79)])]),
 (68,[(7,[(8,82)])]),
 (69,[(4,[(6,82)])]),
 (71,[(4,[(4,84)])]),
 (72,[(1,[(5,85)]),(2,[(6,89)]),(3,[(4,90)])]),
 (75,[(5,[(3,91)])]),
 (78,[(1,[(1,92)]),(2,[(1,93)]),(17,[(1,92)])]),
 (79,[(2,[(1,94)]),(12,[(5,80),(6,165)]),(17,[(4,81)])]),
 (85,[(1,[(4,96),(6,95)])]),
 (86,[(1,[(4,88),(9,88),(14,88),(16,87)])]),
 (88,[(1,[(1,97)]),(2,[(1,97)])]),
 (90,[(1,[(1,98)]),(4,[(1,64)])]),
 (91,[(3,[(3,99)]),(5,[(1,100)]),(6,[(3,101)])]),
 (92,[(1,[(1,73)]),(3,[(6,103)])]),
 (93,[(1,[(1,73)])]),
 (95,[(4,[(4,106)]),(6,[(4,107)]),(8,[(4,108)]),(10,[(4,109)]),(12,[(4,110)]),(16,[(4,111)]),(17,[(13,86)]),(18,[(5,112)]),(20,[(5,113)]),(26,[(5,95)]),(29,[(6,95)])]),
 (96,[(2,[(1,115)])]),
 (98,[(1,[(1,116)]),(4,[(5,118),(7,117)])]),
 (100,[(1,[(1,115),(2,120)]),(2,[(6,121)])]),
 (103,[(2,[(1,124)]),(12,[(5,104),(6,164)]),(17,[(4,105)])]),
 (106,[(4,[(14,86)])]),
 (107,[(6,[(5,125)]),(11,[(5,125)])]),
 (108,[(3,[(1,126)]),(7,[(0,127)])]),
 (109,[(8,[(3,128)]),(9,[(3,128)]),(10,[(3,128)]),(11,[(5,129)])]),
 (111,[(5,[(14,86)]),(16,[(10,86)]),(22,[(10,86)])]),
 (112,[(3,[(13,86)]),(5,[(13,86)])]),
 (113,[(3,[(13,86)]),(5,[(13,86)]),(13,[(13,86)]),(15,[(13,86)])]),
 (116,[(3,[(7,130)]),(10,[(19,131)])]),
 (117,[(2,[(1,132)]),(12,[(5,133),(6,167)]),(17,[(4,119)])]),
 (125,[(3,[(19,86)]),(5,[(13,86)])]),
 (126,[(1,[(2,96)])]),
 (128,[(1,[(8,129)])]),
 (129,[(1,[(5,137)]),(2,[(5,137)]),(3,[(5,137)])]),
 (131,[(1,[(4,88),(9,88),(14,88),(16,87)])]),
 (133,[(1,[(5,134)])]),
 (134,[(1,[(1,138)]),(4,[(3,140),(5,139)])]),
 (137,[(1,[(9,86)])]),
 (138,[(6,[(3,140)])]),
 (139,[(4,[(2,136)])]),
 (166,[(1,[(3,75)])])]
def an1:List (Nat×List (Nat×(Shape×List (Out×Shape)))):=[(3,[(177,Tn)]),
 (6,[(415,To),(543,Tr),(655,Ts),(847,Tt),(65,Tu)]),
 (7,[(353,Tv),(289,Tw),(1551,Tx),(513,Tz),(449,TA),(1759,TB),(97,TC)]),
 (9,[(719,TD),(879,TE),(129,TF)]),
 (10,[(65,TG),(241,TH),(161,TI)]),
 (12,[(1039,TJ),(895,TK),(97,TL)]),
 (15,[(177,TM),(129,TN),(289,TO),(1583,TP)]),
 (16,[(49,TQ)]),
 (17,[(177,TR),(81,TS)]),
 (19,[(81,anC)]),
 (20,[(463,anD),(655,anE),(81,anF)]),
 (21,[(97,TT)]),
 (23,[(735,TU)]),
 (25,[(1471,TV),(241,TW),(161,TX)]),
 (26,[(431,TY),(129,TZ),(49,T4)]),
 (29,[(49,T6),(241,T7),(177,T8),(145,T9)]),
 (30,[(65,Ua),(145,Ub),(305,Uc),(241,Ud)]),
 (31,[(65,anG)]),
 (32,[(543,anH),(65,anI)]),
 (33,[(305,anJ),(1087,anK),(943,anL),(527,anM),(351,anN),(49,anO)]),
 (35,[(287,Ue)]),
 (37,[(383,Uf),(129,Ug),(49,Uh)]),
 (39,[(143,Ui)]),
 (40,[(97,Uj),(49,Uk)]),
 (41,[(927,Ul),(193,Um),(129,Un)]),
 (42,[(65,Uo)]),
 (43,[(49,Up)]),
 (44,[(65,Uq)]),
 (45,[(129,Ur),(81,Us)]),
 (47,[(49,anP)]),
 (56,[(1071,Ut)]),
 (57,[(81,Uu)]),
 (59,[(225,Uv),(145,Uw)]),
 (61,[(113,Ux)]),
 (62,[(49,Uy)]),
 (63,[(49,Uz)]),
 (68,[(81,UA),(33,UB)]),
 (69,[(17,UC)]),
 (71,[(17,UD)]),
 (73,[(225,UE),(145,UF)]),
 (78,[(161,UG),(81,UH),(321,UI)]),
 (79,[(161,UJ),(81,UK)]),
 (81,[(207,UL)]),
 (87,[(49,UM)]),
 (89,[(145,UN),(65,UO)]),
 (92,[(97,UP),(177,UQ)]),
 (93,[(81,UR),(273,US),(209,UT),(161,UU)]),
 (95,[(639,UW),(911,UX),(1215,UY),(33,UZ)]),
 (101,[(17,U0),(1599,U3)]),
 (103,[(161,U4),(81,U5)]),
 (106,[(65,U6),(17,U7)]),
 (107,[(65,U8),(129,U9)]),
 (108,[(735,Va),(81,Vb)]),
 (109,[(591,Vc),(559,Vd)]),
 (110,[(33,Ve)]),
 (111,[(81,Vf),(225,Vg),(1055,Vh),(321,Vi),(49,Vj)]),
 (112,[(49,Vk),(81,Vl),(50,Vm)]),
 (113,[(49,Vn),(81,Vo),(209,Vp),(241,Vq),(210,Vr)]),
 (115,[(79,Vs),(143,Vt)]),
 (116,[(97,Vu)]),
 (117,[(161,Vv),(81,Vw)]),
 (118,[(49,Vx),(129,Vy)]),
 (125,[(655,Vz),(17,VA)]),
 (134,[(81,VB)]),
 (138,[(65,VC)]),
 (139,[(33,VD)])]
def an2:List (Nat×List (Nat×List Nat)):=[(7,[(20,[51,52]),(30,[81,82])]),
 (19,[(3,[24])]),
 (89,[(15,[59])]),
 (91,[(4,[7])]),
 (118,[(1,[9])])]
def NG (k:Nat):FuncId:=(fI anQ k).getD 0
def lE:dH where
 jI:=NG
 sin:=fun k=>(fI anR k).getD ⟨[],[]⟩
 iJ:=fun k=>(fI anS k).getD ⟨[],[]⟩
 live:=fun k r=>(fI ((fI anV (NG k)).getD []) r).getD []
 join:=fun k r=>(fI ((fI anW (NG k)).getD []) r).getD []
 blk:=fun k r=>(fI ((fI anX (NG k)).getD []) r).getD []
 pur:=fun k r=>(fI ((fI anY k).getD []) r).getD []
 yQ:=fun k=>(fI anZ k).getD []
 alt:=fun k=>fI anT k
 Y8:=fun k r=>(fI ((fI an2 k).getD []) r).getD []
 ck:=fun k r i=>(fI ((fI ((fI an0 k).getD []) r).getD []) i).getD 0
 j7:=fun k x=>fI ((fI an1 k).getD []) x
 sc:=[]
 Ky:=fun _=>0
 ext:=fun f=>none
 sd:=fun f=>bif Nat.beq f 74 then some 3 else bif Nat.beq f 83 then some 69 else none
 idle:=fun f=>false
 mv:=fun k=>(fI ([(23,[1]),(36,[1]),(52,[1]),(53,[1]),(54,[1]),(68,[1]),(69,[1]),(70,[1]),(71,[1]),(72,[1]),(82,[1]),(84,[1]),(94,[1]),(124,[1]),(132,[1]),(164,[1]),(165,[1]),(167,[1])]:List (Nat×List Nat)) k).getD []
 aL:=fun g=>bif Nat.beq g 0 then .pref [63,63,63,63,63,63,63,63,63,63,63,63,63,63,63,63,63,63,63,63] Nc else bif Nat.beq g 1 then .pref [5,5,5,5,5,5,5,5,5,5,5,5,5,5,5,5,5,5,5,5,5,5,5,5,5,5,5,5,5,5,5,5] SZ else bif Nat.beq g 2 then .pref [5,5,5,5,5,5,5,5,5,5,5,5,5,5,5,5,5,5,5,5,5,5,5,5,5,5,5,5,5,5,5,5,5,5,5,5,5,5,5,5,5,5,5,5,5,5,5,5,5,5,5,5,5,5,5,5,5,5,5,5,5,5,5,5] Cw else .undef
noncomputable abbrev PG:Program:=Tryz.prog
noncomputable abbrev CC:ae:=Call Tryz.prog lE
noncomputable abbrev Lp (p:List Nat) (k:Nat):py:= .loop (vO p (vk PG (lE.jI k)))
noncomputable abbrev Cd (t:Nat) (p q:List Nat) (k:Nat):py:= .cond t (vO p (vk PG (lE.jI k))) (vO q (vk PG (lE.jI k)))
abbrev aW (C:ae) (L:cE) (k:Nat) (b:py):Prop:=um PG lE C L k (ED PG (lE.jI k)) (lE.sin k).dr.length b
end Go.AM
set_option maxRecDepth 100000
namespace Go.AM
open Go.IntKind (wrap)
open Go.Proofs Go.RowKit
set_option maxHeartbeats 1000000 in
theorem an3 (hP:Cc Tryz.prog):L0 Tryz.prog 74 3:=by
 refine ⟨fun args w=>MuLone.run_callFunc_enter Tryz.func74 (hP _ _ Tryz.func74) (by kernel_rfl:Tryz.f74.body=some (vk Tryz.prog 74)) _ _,22,by kernel_rfl,?_⟩;intro s w Q h1 h2 h3;have hu:Tryz.prog.underlying 22=some (.slice 3):=by kernel_rfl
 go_enter Tryz.func74,Tryz.ntmps74
 rcases h3 with rfl|⟨a,n,c,rfl⟩
 ·go_wp2
  rw[run_eql_slice_nil w 22 3 none 0 0 hu];simp only[Result.andThen];rw[Oper.upon_value]
  go_wp2
  exact trivial
 ·go_wp2
  rw[run_eql_slice_nil w 22 3 (some a) n c hu];simp only[Result.andThen];rw[Oper.upon_value]
  iterate 17 go_step
  obtain ⟨v,w',hv,hQ⟩:=h2 _ _ _ rfl;unfold Oper.wp;simp[execOp,resolve,invoke,Act.eval,hv,builtin];rw[Oper.upon_value]
  go_wp2
  exact hQ
set_option maxHeartbeats 1000000 in
theorem an4 (hP:Cc Tryz.prog):L0 Tryz.prog 83 69:=by
 refine ⟨fun args w=>MuLone.run_callFunc_enter Tryz.func83 (hP _ _ Tryz.func83) (by kernel_rfl:Tryz.f83.body=some (vk Tryz.prog 83)) _ _,64,by kernel_rfl,?_⟩;intro s w Q h1 h2 h3;have hu:Tryz.prog.underlying 64=some (.slice 69):=by kernel_rfl
 go_enter Tryz.func83,Tryz.ntmps83
 rcases h3 with rfl|⟨a,n,c,rfl⟩
 ·go_wp2
  rw[run_eql_slice_nil w 64 69 none 0 0 hu];simp only[Result.andThen];rw[Oper.upon_value]
  go_wp2
  exact trivial
 ·go_wp2
  rw[run_eql_slice_nil w 64 69 (some a) n c hu];simp only[Result.andThen];rw[Oper.upon_value]
  iterate 17 go_step
  obtain ⟨v,w',hv,hQ⟩:=h2 _ _ _ rfl;unfold Oper.wp;simp[execOp,resolve,invoke,Act.eval,hv,builtin];rw[Oper.upon_value]
  go_wp2
  exact hQ
theorem an5 (hP:Cc PG) (f:FuncId) (e:TypeId) (h:lE.sd f=some e):L0 PG f e:=by
 have h1:lE.sd f=bif Nat.beq f 74 then some 3 else bif Nat.beq f 83 then some 69 else none:=by kernel_rfl
 rw[h1] at h;cases NH:Nat.beq f 74 with
 | true=>
  rw[NH] at h;rw[ba] at NH;cases h;subst NH;exact an3 hP
 | false=>
 rw[NH] at h;simp only[cond_false] at h;cases NI:Nat.beq f 83 with
 | true=>
  rw[NI] at h;rw[ba] at NI;cases h;subst NI;exact an4 hP
 | false=>
 rw[NI] at h;simp only[cond_false] at h;cases h
end Go.AM
set_option maxRecDepth 100000
namespace Go.AM
open Go.IntKind (wrap)
open Go.Proofs Go.Proofs.YtaijibbmmbhniaaGreatDoor Go.Lib Go.MakeChecks
def VF:List Int:=[1,10,100,1000,10000,100000,1000000,10000000,100000000,1000000000,10000000000,100000000000,1000000000000,10000000000000,100000000000000,1000000000000000,10000000000000000,100000000000000000,1000000000000000000,10000000000000000000]
theorem an6:Nc=VF.map fun z=> .int .u64 z:=by kernel_rfl
theorem an7:Rows.laid_internal_strconv_uint64pow10 (H:=Unit)=tabData .u64 VF:=by kernel_rfl
def VG:List Int:=[0,1,28,2,29,14,24,3,30,22,20,15,25,17,4,8,31,27,13,23,21,19,16,7,26,12,18,6,11,5,10,9]
theorem an8:SZ=VG.map fun z=> .int .u8 z:=by kernel_rfl
theorem an9:Rows.laid_math_bits_deBruijn32tab (H:=Unit)=tabData .u8 VG:=by kernel_rfl
def VH:List Int:=[0,1,56,2,57,49,28,3,61,58,42,50,38,29,17,4,62,47,59,36,45,43,51,22,53,39,33,30,24,18,12,5,63,55,48,27,60,41,37,16,46,35,44,21,52,32,23,11,54,26,40,15,34,20,31,10,25,14,19,9,13,8,7,6]
theorem aoa:Cw=VH.map fun z=> .int .u8 z:=by kernel_rfl
theorem aob:Rows.laid_math_bits_deBruijn64tab (H:=Unit)=tabData .u8 VH:=by kernel_rfl
def GW : List (String×DataW Unit) := [("math/bits.deBruijn32tab", Rows.laid_math_bits_deBruijn32tab), ("math/bits.deBruijn64tab", Rows.laid_math_bits_deBruijn64tab), ("internal/strconv.uint64pow10", Rows.laid_internal_strconv_uint64pow10)]
theorem VI {W:World} {g n:Nat} {e:TypeId} {k:IntKind} {zs:List Int} {name:String} {T:List V} (hn:Tryz.prog.globalNamed name=some g) (he:Tryz.prog.underlying e=some (.int k)) (hlen:zs.length=n) (hp:0<n) (hT:T=zs.map fun z=> .int k z) (ht:TabIs Tryz.prog W name k zs):
  ∃ts cs,V.pref (List.replicate n e) T= .pref ts cs∧ts.length=cs.length∧(∀j,j<cs.length→n8 W g j)∧∀(j:Nat) (t:TypeId) (x:V),ts[j]? =some t→cs[j]? =some x→∃v,W.cell? ⟨g,0+j,none⟩=some v∧Pure Tryz.prog W (n8 W) t v x:=by
 have hc: ∀i,i<n→W.cell? ⟨g,i,none⟩=some (.int k (zs.getD i 0)):=fun i hi=>ht.cell hn i (by rw[hlen];exact hi);refine ⟨List.replicate n e,T,rfl,by rw[hT];simp[hlen],fun _ _=> ?_,fun j t x hj hx=> ?_⟩
 ·have h0:=hc 0 hp;unfold n8;unfold World.cell? at h0;by_cases hz:g<W.heap.size
  ·exact hz
  ·have:W.heap[g]? =none:=Array.getElem?_eq_none (by omega);simp[this] at h0
 ·have NJ:j<n:=by
   have:=(cO.1 hj).1;simpa using this
  rw[D5,ah NJ] at hj;cases hj;rw[hT,gD] at hx;have m8:zs[j]? =some (zs.getD j 0):=by
   rw[cp (by rw[hlen];exact NJ)];simp[List.getD,cp (show j<zs.length by rw[hlen];exact NJ)]
  rw[m8] at hx;cases hx;exact ⟨_,by simpa using hc j NJ,.int he⟩
theorem ajw {W:World} (h:laidMetH Tryz.prog GW W):jL Tryz.prog lE.aL W (n8 W):=by
 have e0 : GW = [("math/bits.deBruijn32tab", tabData .u8 VG), ("math/bits.deBruijn64tab", tabData .u8 VH), ("internal/strconv.uint64pow10", tabData .u64 VF)] := by unfold GW; rw [an7, an9, aob]
 rw[e0,laidMetH_plain _ _ _ (by kernel_rfl)] at h;intro g;have hg:lE.aL g=bif Nat.beq g 0 then .pref (List.replicate 20 63) Nc else bif Nat.beq g 1 then .pref (List.replicate 32 5) SZ else bif Nat.beq g 2 then .pref (List.replicate 64 5) Cw else .undef:=by kernel_rfl
 rw[hg];cases eG:Nat.beq g 0 with
 | true=>
  rw[ba] at eG;subst eG;have hs := h.filter (fun x => x.1 == "internal/strconv.uint64pow10");have hn : Tryz.prog.globalNamed "internal/strconv.uint64pow10" = some 0 := by kernel_rfl
  exact .inr (VI hn (e:=63) (by kernel_rfl) (by kernel_rfl) (by omega) an6 (tabIs_of_head (g:=0) (t:=171) (e:=63) (n:=20) (rest:=[]) hn (by kernel_rfl) (by kernel_rfl) (by kernel_rfl) (by kernel_rfl) (by kernel_rfl) hs))
 | false=>
 cases lO:Nat.beq g 1 with
 | true=>
  rw[ba] at lO;subst lO;have hs := h.filter (fun x => x.1 == "math/bits.deBruijn32tab");have hn : Tryz.prog.globalNamed "math/bits.deBruijn32tab" = some 1 := by kernel_rfl
  exact .inr (VI hn (e:=5) (by kernel_rfl) (by kernel_rfl) (by omega) an8 (tabIs_of_head (g:=1) (t:=192) (e:=5) (n:=32) (rest:=[]) hn (by kernel_rfl) (by kernel_rfl) (by kernel_rfl) (by kernel_rfl) (by kernel_rfl) hs))
 | false=>
 cases fD:Nat.beq g 2 with
 | true=>
  rw[ba] at fD;subst fD;have hs := h.filter (fun x => x.1 == "math/bits.deBruijn64tab");have hn : Tryz.prog.globalNamed "math/bits.deBruijn64tab" = some 2 := by kernel_rfl
  exact .inr (VI hn (e:=5) (by kernel_rfl) (by kernel_rfl) (by omega) aoa (tabIs_of_head (g:=2) (t:=193) (e:=5) (n:=64) (rest:=[]) hn (by kernel_rfl) (by kernel_rfl) (by kernel_rfl) (by kernel_rfl) (by kernel_rfl) hs))
 | false=>
 exact .inl rfl
theorem own:ownKnob Tryz.prog.godebug=none:=by kernel_rfl
theorem aej:Cc Tryz.prog:=amx (by kernel_rfl)
theorem mixed:Tryz.prog.follows .mixedOrders=true:=by kernel_rfl
theorem ajv:lP Tryz.prog lE where
 count:=aej
 sd:=an5 aej
 ext:=fun f T h=>by
  have h1:lE.ext f=none:=by kernel_rfl
  rw[h1] at h;cases h
 idle:=fun f h=>by
  have h1:lE.idle f=false:=by kernel_rfl
  rw[h1] at h;cases h
noncomputable def Y6 (os:Os):World:=World.laidAll Tryz.prog os GW
theorem ajt (os:Os) (args:Array Value):laidMetH Tryz.prog GW ((Y6 os).forCall (fun _ _=>0) ⟨#[],args,[]⟩).memory:=by
 rw[laidMetH_plain _ _ _ (by kernel_rfl)];exact laidMet_laidAll args (by kernel_rfl) (by kernel_rfl)
end Go.AM
namespace Go.AM
open Go.IntKind (wrap)
theorem wrap_u64 (n:Int):IntKind.u64.wrap n=n %18446744073709551616:=by simp[IntKind.wrap,IntKind.bits,IntKind.signed]
theorem sY {A:Nat} (h:A<2^64):wrap .u64 (A:Int)=A:=by
 rw[wrap_u64];omega
theorem NK {n A:Nat} (h:A<2^n):(BitVec.ofInt n (A:Int)).toNat=A:=by
 rw[BitVec.ofInt_natCast,BitVec.toNat_ofNat];exact D6 h
theorem aoc {n A B:Nat} (hA:A<2^n) (hB:B<2^n):(BitVec.ofInt n (A:Int)|||BitVec.ofInt n (B:Int)).toNat=A|||B:=by
 rw[BitVec.toNat_or,NK hA,NK hB]
theorem bv_and {n A B:Nat} (hA:A<2^n) (hB:B<2^n):(BitVec.ofInt n (A:Int)&&&BitVec.ofInt n (B:Int)).toNat=A&&&B:=by
 rw[BitVec.toNat_and,NK hA,NK hB]
theorem aod {n A B:Nat} (hA:A<2^n) (i:Nat):(BitVec.ofInt n (A:Int)&&& ~~~ BitVec.ofInt n (B:Int)).toNat.testBit i=(A.testBit i&& !(B.testBit i)):=by
 rw[BitVec.testBit_toNat,BitVec.ofInt_natCast,BitVec.ofInt_natCast];by_cases hi:i<n
 ·simp only[BitVec.getLsbD_and,BitVec.getLsbD_not,BitVec.getLsbD_ofNat,hi,wK,Bl]
 ·have hf:A.testBit i=false:=Kp (gB hA (sa (by omega) (by omega)));rw[hf,Bool.false_and,BitVec.getLsbD_of_ge _ _ (by omega)]
theorem u64_or {A B:Nat} (hA:A<2^64) (hB:B<2^64):wrap .u64 ((BitVec.ofInt (IntKind.bits .u64) (A:Int)|||BitVec.ofInt (IntKind.bits .u64) (B:Int)).toNat)=((A|||B:Nat):Int):=by
 rw[aoc (n:=IntKind.bits .u64) hA hB];exact sY (yL hA hB)
theorem u64_and {A B:Nat} (hA:A<2^64) (hB:B<2^64):wrap .u64 ((BitVec.ofInt (IntKind.bits .u64) (A:Int)&&&BitVec.ofInt (IntKind.bits .u64) (B:Int)).toNat)=((A&&&B:Nat):Int):=by
 rw[bv_and (n:=IntKind.bits .u64) hA hB];exact sY (Ba Nat.and_le_left hA)
theorem u64_andNot {A:Nat} (B:Nat) (hA:A<2^64): ∃D:Nat,D<2^64∧(∀i,D.testBit i=(A.testBit i&& !(B.testBit i)))∧
  wrap .u64 ((BitVec.ofInt (IntKind.bits .u64) (A:Int)&&& ~~~ BitVec.ofInt (IntKind.bits .u64) (B:Int)).toNat)=(D:Int):=
 ⟨(BitVec.ofInt (IntKind.bits .u64) (A:Int)&&& ~~~ BitVec.ofInt (IntKind.bits .u64) (B:Int)).toNat,BitVec.isLt _,fun i=>aod hA i,sY (BitVec.isLt _)⟩
theorem GX {m:Nat} (h:m<64):wrap .u64 (1*2^(min m (IntKind.bits .u64)))=((2^m:Nat):Int):=by
 have e:min m (IntKind.bits .u64)=m:=Bg (by show m≤64;omega);rw[e];have:(1*2^m:Int)=((2^m:Nat):Int):=by simp
 rw[this];exact sY (mU (by omega) h)
theorem GY {A m:Nat} (h:m<64):Int.fdiv (A:Int) (2^(min m (IntKind.bits .u64)))=((A/2^m:Nat):Int):=by
 have e:min m (IntKind.bits .u64)=m:=Bg (by show m≤64;omega);rw[e];have:(2^m:Int)=((2^m:Nat):Int):=by simp
 rw[this,Int.fdiv_eq_ediv_of_nonneg _ (Int.natCast_nonneg _)];exact Int.natCast_ediv ..
theorem aoe {A m:Nat} (hA:A<2^64) (h:m<64):
  (wrap .u64 ((BitVec.ofInt (IntKind.bits .u64) (Int.fdiv (A:Int) (2^(min m (IntKind.bits .u64))))&&&BitVec.ofInt (IntKind.bits .u64) 1).toNat)==1)=A.testBit m:=by
 rw[GY h];have:=u64_and (A:=A/2^m) (B:=1) (Ba (Nat.div_le_self _ _) hA) (by omega);rw[show ((1:Nat):Int)=1 from rfl] at this;rw[this];rw[Nat.and_one_is_mod,Nat.testBit_eq_decide_div_mod_eq];by_cases hb:A/2^m %2=1
 ·simp[hb]
 ·have:A/2^m %2=0:=by omega
  simp[this]
end Go.AM
set_option maxRecDepth 100000
namespace Go.AM
open Go.IntKind (wrap)
open Go.Proofs
theorem xQ:maxLen≤9223372036854775807:=by unfold maxLen;omega
theorem v8:aX=35184372088832:=by unfold aX;rfl
section
variable {α β:Type} {o:Option α} {a:α} {f:α→Option β} {r:Option β} {x y z:β} {b:Bool}
theorem bs (h:o=some a) (h2:f a=r):o.bind f=r:=by rw[h];exact h2
theorem bT (hb:b=true) (h:x=z):(bif b then x else y)=z:=by rw[hb];exact h
theorem bF (hb:b=false) (h:y=z):(bif b then x else y)=z:=by rw[hb];exact h
end
section
variable {X R A α:Type} {step:X→Option (X ⊕ R)}
theorem VJ (l:List α) (s:Nat→A→X) (f:A→α→A) (r:A→R) (Inv:Nat→A→Prop)
  (h: ∀(i:Nat) (a:A) (hi:i<l.length),Inv i a→step (s i a)=some (.inl (s (i+1) (f a l[i])))∧Inv (i+1) (f a l[i]))
  (he: ∀a,Inv l.length a→step (s l.length a)=some (.inr (r a))) (a0:A) (h0:Inv 0 a0):
  Loop step (s 0 a0)=some (r (l.foldl f a0))∧Inv l.length (l.foldl f a0):=by
 have go: ∀(k:Nat) (a:A),k≤l.length→Inv k a→Loop step (s k a)=some (r ((l.drop k).foldl f a))∧Inv l.length ((l.drop k).foldl f a):=by
  intro k;generalize hd:l.length-k=d
  induction d generalizing k with
  | zero=>
   intro a hk hi;have:k=l.length:=by omega
   subst this;simp only[List.drop_length,List.foldl_nil];exact ⟨di (he a hi),hi⟩
  | succ d ih=>
   intro a hk hi;have eO:k<l.length:=by omega
   obtain ⟨h1,h2⟩:=h k a eO hi;rw[fY h1,List.drop_eq_getElem_cons eO,List.foldl_cons];exact ih (k+1) (by omega) _ (by omega) h2
 simpa using go 0 a0 (by omega) h0
theorem Ad (good:Nat→Prop) [DecidablePred good] (n:Nat) (s:Nat→X) (bad ok:R) (h: ∀i,i<n→step (s i)=some (if good i then .inl (s (i+1)) else .inr bad)) (he:step (s n)=some (.inr ok)):
  Loop step (s 0)=some (if∀i,i<n→good i then ok else bad):=by
 have go: ∀(d k:Nat),k+d=n→((∀i,k≤i→i<n→good i)→Loop step (s k)=some ok)∧((¬∀i,k≤i→i<n→good i)→Loop step (s k)=some bad):=by
  intro d
  induction d with
  | zero=>
   intro k hk;have:k=n:=by omega
   subst this;exact ⟨fun _=>di he,fun hx=>absurd (fun i h1 h2=>by omega) hx⟩
  | succ d ih=>
   intro k hk;have h1:=h k (by omega);by_cases hg:good k
   ·rw[ah hg] at h1;rw[fY h1];obtain ⟨i1,i2⟩:=ih (k+1) (by omega);refine ⟨fun ha=>i1 fun i h1 h2=>ha i (by omega) h2,fun ha=>i2 fun hx=>ha fun i h1 h2=> ?_⟩;by_cases hi:i=k
    ·rw[hi];exact hg
    ·exact hx i (by omega) h2
   ·rw[ag hg] at h1;rw[di h1];exact ⟨fun ha=>absurd (ha k (az _) (by omega)) hg,fun _=>rfl⟩
 obtain ⟨g1,g2⟩:=go n 0 (by omega);by_cases ha: ∀i,i<n→good i
 ·rw[ah ha];exact g1 fun i _ h=>ha i h
 ·rw[ag ha];exact g2 fun hx=>ha fun i h=>hx i (by omega) h
end
end Go.AM
set_option maxRecDepth 100000
namespace Go.AM
open Go.IntKind (wrap)
theorem fG {α:Type} {l:List α} {i:Nat} {d:α} (h:i<l.length):l.getD i d=l[i]:=by simp[h]
structure Da where
 L:Nat
 st:Nat
 F:List Bool
 N:List (List Nat)
deriving DecidableEq
namespace Da
def n (d:Da):Nat:=d.F.length
def nx (d:Da) (q x:Nat):Nat:=(d.N.getD q []).getD x 0
def fin (d:Da) (q:Nat):Bool:=d.F.getD q false
def run (d:Da) (q:Nat) (w:List Nat):Nat:=w.foldl d.nx q
def acc (d:Da) (q:Nat) (w:List Nat):Bool:=d.fin (d.run q w)
structure Ok (d:Da):Prop where
 l1:1≤d.L
 l6:d.L≤6
 nN:d.N.length=d.n
 row: ∀r∈d.N,r.length=d.L∧∀q∈r,q<d.n
 s:d.st<d.n
 cU:d.n≤512
end Da
def WL (L:Nat) (w:List Nat):Prop:= ∀x∈w,x<L
theorem WL.nil {L:Nat}:WL L []:=fun _ h=>by cases h
theorem WL.cons {L x:Nat} {w:List Nat} (h:x<L) (hw:WL L w):WL L (x::w):=fun y hy=>by
 rcases iR.1 hy with rfl|hy
 ·exact h
 ·exact hw y hy
theorem WL.head {L x:Nat} {w:List Nat} (h:WL L (x::w)):x<L:=h x (by simp)
theorem WL.tail {L x:Nat} {w:List Nat} (h:WL L (x::w)):WL L w:=fun y hy=>h y (by simp[hy])
theorem WL.app {L:Nat} {v w:List Nat}:WL L (v++w)↔WL L v∧WL L w:=by
 unfold WL;simp only[eW];exact ⟨fun h=>⟨fun x hx=>h x (.inl hx),fun x hx=>h x (.inr hx)⟩,fun h x hx=>hx.elim (h.1 x) (h.2 x)⟩
namespace Da
def rD (d:Da) (q:Nat) (d':Da) (q':Nat):Prop:= ∀w,WL d.L w→d.acc q w=d'.acc q' w
theorem Ok.fL {d:Da} (h:d.Ok) {q x:Nat} (hq:q<d.n) (hx:x<d.L):d.nx q x<d.n:=by
 have dz:q<d.N.length:=by rw[h.nN];exact hq
 have hr:=h.row d.N[q] (ff dz);unfold nx;rw[fG dz,fG (by omega)];exact hr.2 _ (ff _)
theorem Ok.VK {d:Da} (h:d.Ok): ∀(w:List Nat) {q:Nat},q<d.n→WL d.L w→d.run q w<d.n
 | [],q,hq,_=>hq
 | x::w,q,hq,hw=>h.VK w (h.fL hq hw.head) hw.tail
theorem NL {d:Da} {q x:Nat} {w:List Nat}:d.acc q (x::w)=d.acc (d.nx q x) w:=rfl
theorem rE {d:Da} {q:Nat}:d.acc q []=d.fin q:=rfl
theorem rD.nx {d d':Da} {q q' x:Nat} (h:d.rD q d' q') (hx:x<d.L):d.rD (d.nx q x) d' (d'.nx q' x):=fun w hw=>h (x::w) (hw.cons hx)
def pos (d:Da) (t:Nat):Nat:=d.nx (t/d.L) (t %d.L)
def mt (d:Da):Nat→Nat
 | 0=>1
 | t+1=>if d.pos t=d.mt t then d.mt t+1 else d.mt t
structure VL (d:Da):Prop where
 le: ∀t,t<d.n*d.L→d.pos t≤d.mt t
 row: ∀q,q<d.n→q<d.mt (q*d.L)
 all:d.mt (d.n*d.L)=d.n
structure Canon (d:Da) (L:Nat) (K:List Nat→Bool):Prop where
 ok:d.Ok
 hL:d.L=L
 st:d.st=0
 num:d.VL
 red: ∀p q,p<d.n→q<d.n→d.rD p d q→p=q
 rF: ∀w,WL L w→d.acc 0 w=K w
theorem VM (d:Da): ∀{s t:Nat},s≤t→d.mt s≤d.mt t:=by
 intro s t h
 induction t with
 | zero=>rw[tx.1 h];exact az _
 | succ t ih=>
  rcases fH s (t+1) with h1|h1
  ·have:=ih (by omega);have e:d.mt (t+1)=if d.pos t=d.mt t then d.mt t+1 else d.mt t:=rfl
   rw[e];split<;>omega
  ·rw[show s=t+1 by omega];exact az _
theorem VN {d d':Da} {K:List Nat→Bool} {L:Nat} (h:d.Canon L K) (h':d'.Canon L K): ∀t,t≤d.n*L→t≤d'.n*L→d.mt t=d'.mt t∧(∀s,s<t→d.pos s=d'.pos s)∧∀q,q<d.mt t→d.rD q d' q:=by
 intro t;have e:=h.hL;have e':=h'.hL;have hl:=h.ok.l1
 induction t with
 | zero=>
  intro _ _;refine ⟨rfl,fun s hs=>by omega,fun q hq=> ?_⟩;obtain rfl:q=0:=by have:q<1:=hq;omega
  intro w hw;rw[h.rF w (e▸hw),h'.rF w (e▸hw)]
 | succ t ih=>
  intro h1 h2;obtain ⟨i1,i2,i3⟩:=ih (by omega) (by omega);have hm:d.mt t≤d.n:=by rw[←h.num.all];exact d.VM (by rw[e];omega)
  have K6:d'.mt t≤d'.n:=by rw[←h'.num.all];exact d'.VM (by rw[e'];omega)
  have hq:t/L<d.n:=by rw[Nat.div_lt_iff_lt_mul (by omega)];omega
  have dz:t/L<d'.n:=by rw[Nat.div_lt_iff_lt_mul (by omega)];omega
  have hx:t %L<L:=Bd _ (by omega);have hqm:t/L<d.mt t:=by
   have a:=h.num.row _ hq;rw[e] at a;have b:d.mt (t/L*L)≤d.mt t:=d.VM (Nat.div_mul_le_self t L);omega
  have hE:=(i3 _ hqm).nx (by rw[e];exact hx);have p1:d.pos t=d.nx (t/L) (t %L):=by unfold pos;rw[e]
  have p2:d'.pos t=d'.nx (t/L) (t %L):=by unfold pos;rw[e']
  rw[←p1,←p2] at hE;have l1:=h.num.le t (by rw[e];omega);have l2:=h'.num.le t (by rw[e'];omega);have b1:d.pos t<d.n:=by rw[p1];exact h.ok.fL hq (by rw[e];exact hx)
  have b2:d'.pos t<d'.n:=by rw[p2];exact h'.ok.fL dz (by rw[e'];exact hx)
  have key:d.pos t=d'.pos t:=by
   rcases fH (d.pos t) (d.mt t) with c|c
   ·have hA:=i3 _ c;refine h'.red _ _ (by omega) b2 fun w hw=> ?_;have hw2:WL d.L w:=by rw[e,←e'];exact hw
    rw[←hA w hw2,hE w hw2]
   ·rcases fH (d'.pos t) (d.mt t) with c'|c'
    ·have hA:=i3 _ c';refine h.red _ _ b1 (by omega) fun w hw=> ?_;rw[hE w hw,hA w hw]
    ·omega
  refine ⟨?_,?_,?_⟩
  ·unfold mt;rw[key,i1]
  ·intro s hs;rcases fH s t with c|c
   ·exact i2 s c
   ·rw[show s=t by omega];exact key
  ·intro q sJ;rcases fH q (d.mt t) with c|c
   ·exact i3 q c
   ·have:d.pos t=d.mt t∧q=d.mt t:=by
     unfold mt at sJ;split at sJ
     ·rename_i h3;exact ⟨h3,by omega⟩
     ·omega
    rw[←key,this.1,←this.2] at hE;exact hE
theorem aek {a b:List Nat} (hl:a.length=b.length) (h: ∀x,x<a.length→a.getD x 0=b.getD x 0):a=b:=by
 refine wS hl fun x h1 h2=> ?_;have:=h x h1;rwa [fG h1,fG h2] at this
theorem GZ {d:Da} (h:d.Ok) {q:Nat} (hq:q<d.n):(d.N.getD q []).length=d.L:=by
 have dz:q<d.N.length:=by rw[h.nN];exact hq
 rw[fG dz];exact (h.row _ (ff dz)).1
theorem Canon.eq {d d':Da} {K:List Nat→Bool} {L:Nat} (h:d.Canon L K) (h':d'.Canon L K):d=d':=by
 have e:=h.hL;have e':=h'.hL;have hl:=h.ok.l1;rw[e] at hl;have hn:d.n=d'.n:=by
  rcases Nat.lt_trichotomy d.n d'.n with c|c|c
  ·obtain ⟨s1,_,_⟩:=VN h h' (d.n*L) (az _) (eV _ (by omega));have a:=h.num.all;have b:=h'.num.row d.n c;rw[e] at a;rw[e'] at b;omega
  ·exact c
  ·obtain ⟨s1,_,_⟩:=VN h h' (d'.n*L) (eV _ (by omega)) (az _);have a:=h'.num.all;have b:=h.num.row d'.n c;rw[e'] at a;rw[e] at b;omega
 obtain ⟨s1,s2,s3⟩:=VN h h' (d.n*L) (az _) (by rw[hn];exact az _);have a:=h.num.all;rw[e] at a;have hE: ∀q,q<d.n→d.rD q d' q:=fun q hq=>s3 q (by omega);have hP: ∀q x,q<d.n→x<L→d.nx q x=d'.nx q x:=fun q x hq hx=>by
  have:=s2 (q*L+x) (by
   have:(q+1)*L≤d.n*L:=eV _ (by omega);rw[kQ] at this;omega)
  unfold pos at this;rw[e,e'] at this;rwa [show (q*L+x)/L=q by rw[ml,D7 (by omega),D8 hx];rfl,show (q*L+x) %L=x by rw[ml,Nat.mul_add_mod,D6 hx]] at this
 have hF:d.F=d'.F:=by
  refine wS hn fun q h1 h2=> ?_;have:=hE q h1 [] WL.nil;rw[rE,rE] at this;unfold fin at this;rwa [fG h1,fG h2] at this
 have hN:d.N=d'.N:=by
  refine wS (by rw[h.ok.nN,h'.ok.nN,hn]) fun q h1 h2=> ?_;have hq:q<d.n:=by rw[←h.ok.nN];exact h1
  have r1:=GZ h.ok hq;have r2:=GZ h'.ok (show q<d'.n by omega);have hx:=fun x hx=>hP q x hq hx;unfold nx at hx;rw[fG h1] at r1 hx;rw[fG h2] at r2 hx;exact aek (by omega) fun x h3=>hx x (by omega)
 obtain ⟨L1,s1,F1,N1⟩:=d;obtain ⟨L2,s2,F2,N2⟩:=d';have q1:=h.st;have q2:=h'.st;simp only at*
 subst hF hN e e' q1 q2;rfl
end Da
section
variable {α:Type} [DecidableEq α]
def dj (S:List α) (a:α):List α:=if a∈S then S else S++[a]
def aJ (next:α→Nat→α) (S:List α) (a:α):Nat→List α
 | 0=>S
 | x+1=>dj (aJ next S a x) (next a x)
def aj (L:Nat) (next:α→Nat→α) (a0:α):Nat→List α
 | 0=>[a0]
 | i+1=>match (aj L next a0 i)[i]? with
  | some a=>aJ next (aj L next a0 i) a L
  | none=>aj L next a0 i
theorem NM (S:List α) (a:α):S <+: dj S a:=by
 unfold dj;split
 ·exact lG _
 ·exact List.prefix_append _ _
theorem uy {S:List α} {a:α}:a∈dj S a:=by
 unfold dj;split
 ·assumption
 ·simp
theorem ael {S:List α} {a:α} (h:S.Nodup):(dj S a).Nodup:=by
 unfold dj;split
 ·exact h
 ·rename_i h2;refine Km.2 ⟨h,by simp,fun x hx y hy e=> ?_⟩;rw[jF.1 hy] at e;exact h2 (e▸hx)
theorem qv {S:List α} {a:α}:(dj S a).length=if a∈S then S.length else S.length+1:=by
 unfold dj;split<;>simp
variable {L:Nat} {next:α→Nat→α} {a0:α}
theorem G0 (S:List α) (a:α): ∀x,S <+: aJ next S a x
 | 0=>lG _
 | x+1=>(G0 S a x).trans (NM _ _)
theorem rG (S:List α) (a:α) {x y:Nat} (h:x≤y):aJ next S a x <+: aJ next S a y:=by
 induction y with
 | zero=>rw[tx.1 h];exact lG _
 | succ y ih=>
  rcases fH x (y+1) with c|c
  ·exact (ih (by omega)).trans (NM _ _)
  ·rw[show x=y+1 by omega];exact lG _
theorem aem {S:List α} {a:α} (h:S.Nodup): ∀x,(aJ next S a x).Nodup
 | 0=>h
 | x+1=>ael (aem h x)
theorem aof {S:List α} {a:α} {x y:Nat} (h:x<y):next a x∈aJ next S a y:=
 (rG S a (show x+1≤y by omega)).subset uy
theorem G1 {i:Nat} {a:α} (h:(aj L next a0 i)[i]? =some a):aj L next a0 (i+1)=aJ next (aj L next a0 i) a L:=by
 rw[aj,h]
theorem aog {i:Nat} (h:(aj L next a0 i).length≤i):aj L next a0 (i+1)=aj L next a0 i:=by
 rw[aj,Bn h]
theorem aen (i:Nat):aj L next a0 i <+: aj L next a0 (i+1):=by
 rw[aj];split
 ·exact G0 _ _ _
 ·exact lG _
theorem lp {i j:Nat} (h:i≤j):aj L next a0 i <+: aj L next a0 j:=by
 induction j with
 | zero=>rw[tx.1 h];exact lG _
 | succ j ih=>
  rcases fH i (j+1) with c|c
  ·exact (ih (by omega)).trans (aen j)
  ·rw[show i=j+1 by omega];exact lG _
theorem Ae: ∀i,(aj L next a0 i).Nodup
 | 0=>by simp[aj]
 | i+1=>by
  rw[aj];split
  ·exact aem (Ae i) _
  ·exact Ae i
theorem G2 {i j:Nat} (h:(aj L next a0 i).length≤i) (hj:i≤j):aj L next a0 j=aj L next a0 i:=by
 induction j with
 | zero=>rw[tx.1 hj]
 | succ j ih=>
  rcases fH i (j+1) with c|c
  ·rw[aog (by rw[ih (by omega)];omega),ih (by omega)]
  ·rw[show i=j+1 by omega]
theorem aeo (i:Nat):(aj L next a0 i)[0]? =some a0:=by
 have h:=lp (L:=L) (next:=next) (a0:=a0) (nH i);have h0:0<(aj L next a0 0).length:=by simp[aj]
 rw[cp (gB h0 h.length_le),←h.getElem h0];rfl
theorem G3 (i:Nat):0<(aj L next a0 i).length:=gB (by simp[aj]) (lp (L:=L) (next:=next) (a0:=a0) (nH i)).length_le
theorem G4: ∀i,∀a∈aj L next a0 i,∃w,WL L w∧a=w.foldl next a0
 | 0,a,h=>⟨[],WL.nil,by simpa[aj] using h⟩
 | i+1,a,h=>by
  rw[aj] at h;split at h
  ·rename_i b hb;have aA:b∈aj L next a0 i:=mR hb
   obtain ⟨w,hw,rfl⟩:=G4 i b aA;have: ∀x,x≤L→∀a∈aJ next (aj L next a0 i) (w.foldl next a0) x,∃w,WL L w∧a=w.foldl next a0:=by
    intro x
    induction x with
    | zero=>intro _ a h;exact G4 i a h
    | succ x ih=>
     intro hx a h;rw[aJ] at h;unfold dj at h;split at h
     ·exact ih (by omega) a h
     ·rcases eW.1 h with h|h
      ·exact ih (by omega) a h
      ·refine ⟨w++[x],WL.app.2 ⟨hw,WL.nil.cons (by omega)⟩,?_⟩;rw[jF.1 h,Kq];rfl
   exact this L (az _) a h
  ·exact G4 i a h
section
variable {k:Nat} (hd:(aj L next a0 k).length≤k)
include hd
theorem xR {i:Nat} (h:i<(aj L next a0 k).length):i<(aj L next a0 i).length:=by
 rcases fH i (aj L next a0 i).length with c|c
 ·exact c
 ·have:=G2 c (show i≤k by omega);rw[this] at h;omega
theorem aoh {i:Nat} (h:i<(aj L next a0 k).length):(aj L next a0 i)[i]? =some (aj L next a0 k)[i]:=by
 have h1:=xR hd h;rw[cp h1,(lp (show i≤k by omega)).getElem h1]
theorem Af {i:Nat} (h:i<(aj L next a0 k).length):aj L next a0 (i+1)=aJ next (aj L next a0 i) (aj L next a0 k)[i] L:=G1 (aoh hd h)
theorem VO {a:α} (h:a∈aj L next a0 k) {x:Nat} (hx:x<L):next a x∈aj L next a0 k:=by
 obtain ⟨i,hi,rfl⟩:=Ef h;have h1:next (aj L next a0 k)[i] x∈aj L next a0 (i+1):=by rw[Af hd hi];exact aof hx
 rcases fH i k with c|c
 ·exact (lp (show i+1≤k by omega)).subset h1
 ·omega
end
def gU (L:Nat) (next:α→Nat→α) (fin:α→Bool) (S:List α):Da where
 L:=L
 st:=0
 F:=S.map fin
 N:=S.map fun a=>(List.range L).map fun x=>S.idxOf (next a x)
theorem nk {fin:α→Bool} {S:List α}:(gU L next fin S).n=S.length:=by simp[gU,Da.n]
theorem v9 {fin:α→Bool} {S:List α} {i x:Nat} (hi:i<S.length) (hx:x<L):(gU L next fin S).nx i x=S.idxOf (next S[i] x):=by
 unfold Da.nx gU;simp[wR,hi,hx]
theorem Ag {fin:α→Bool} {S:List α} {i:Nat} (hi:i<S.length):(gU L next fin S).fin i=fin S[i]:=by
 unfold Da.fin gU;simp[wR,hi]
theorem uz {S T:List α} (hp:T <+: S) {a:α} (h:a∈T):S.idxOf a=T.idxOf a:=by
 obtain ⟨U,rfl⟩:=hp;rw[yM,ah h]
section
variable {k:Nat} (hd:(aj L next a0 k).length≤k) {fin:α→Bool}
include hd
theorem aoi {i x:Nat} (hi:i<(aj L next a0 k).length) (hx:x<L): ∃h:(gU L next fin (aj L next a0 k)).nx i x<(aj L next a0 k).length,(aj L next a0 k)[(gU L next fin (aj L next a0 k)).nx i x]=next (aj L next a0 k)[i] x:=by
 have hm:=VO hd (ff hi) hx;rw[v9 hi hx];exact ⟨yN hm,Kr _⟩
theorem aep: ∀(w:List Nat) {i:Nat} (hi:i<(aj L next a0 k).length),WL L w→∃h:(gU L next fin (aj L next a0 k)).run i w<(aj L next a0 k).length,(aj L next a0 k)[(gU L next fin (aj L next a0 k)).run i w]=w.foldl next (aj L next a0 k)[i]
 | [],i,hi,_=>⟨hi,rfl⟩
 | x::w,i,hi,hw=>by
  obtain ⟨h1,h2⟩:=aoi (fin:=fin) hd hi hw.head;obtain ⟨h3,h4⟩:=aep w h1 hw.tail;refine ⟨h3,?_⟩;rw[List.foldl_cons,←h2];exact h4
theorem aeq {w:List Nat} {i:Nat} (hi:i<(aj L next a0 k).length) (hw:WL L w):(gU L next fin (aj L next a0 k)).acc i w=fin (w.foldl next (aj L next a0 k)[i]):=by
 obtain ⟨h1,h2⟩:=aep (fin:=fin) hd w hi hw;unfold Da.acc;rw[Ag h1,h2]
theorem VP (h1:1≤L) (h6:L≤6) (hm:(aj L next a0 k).length≤512):(gU L next fin (aj L next a0 k)).Ok where
 l1:=h1
 l6:=h6
 nN:=by rw[nk];simp[gU]
 row r hr:=by
  rw[nk];obtain ⟨a,ha,rfl⟩:=j5.1 (show r∈(aj L next a0 k).map _ from hr);refine ⟨by simp[gU],fun q hq=> ?_⟩;obtain ⟨x,hx,rfl⟩:=j5.1 hq;exact yN (VO hd ha (jG.1 hx))
 s:=by rw[nk];exact G3 k
 cU:=by rw[nk];exact hm
theorem VQ (h1:1≤L): ∀i,i≤(aj L next a0 k).length→(gU L next fin (aj L next a0 k)).mt (i*L)=(aj L next a0 i).length∧∀(hi:i<(aj L next a0 k).length) x,x≤L→(gU L next fin (aj L next a0 k)).mt (i*L+x)=(aJ next (aj L next a0 i) (aj L next a0 k)[i] x).length:=by
 have key: ∀i,(gU L next fin (aj L next a0 k)).mt (i*L)=(aj L next a0 i).length→∀(hi:i<(aj L next a0 k).length) x,x≤L→(gU L next fin (aj L next a0 k)).mt (i*L+x)=(aJ next (aj L next a0 i) (aj L next a0 k)[i] x).length:=by
  intro i h hi x
  induction x with
  | zero=>intro _;exact h
  | succ x ih=>
   intro hx;have ih:=ih (by omega);have hp:aJ next (aj L next a0 i) (aj L next a0 k)[i] (x+1) <+: aj L next a0 k:=by
    refine (rG _ _ hx).trans ?_;rw[←Af hd hi];exact lp (by omega)
   have hp0:aJ next (aj L next a0 i) (aj L next a0 k)[i] x <+: aj L next a0 k:=(rG _ _ (by omega)).trans hp
   have kD:(gU L next fin (aj L next a0 k)).pos (i*L+x)=(aj L next a0 k).idxOf (next (aj L next a0 k)[i] x):=by
    unfold Da.pos;rw[show (gU L next fin (aj L next a0 k)).L=L from rfl,show (i*L+x)/L=i by rw[ml,D7 (by omega),D8 (by omega)];rfl,show (i*L+x) %L=x by rw[ml,Nat.mul_add_mod,D6 (by omega)],v9 hi (by omega)]
   show (gU L next fin (aj L next a0 k)).mt ((i*L+x)+1)=_;rw[Da.mt,kD,ih,aJ];rw[aJ] at hp;generalize aJ next (aj L next a0 i) (aj L next a0 k)[i] x=T at*
   generalize next (aj L next a0 k)[i] x=b at*
   rw[qv];by_cases hb:b∈T
   ·rw[ah hb,uz hp0 hb,ag (by have:=yN hb;omega)]
   ·rw[ag hb];unfold dj at hp;rw[ag hb] at hp;rw[uz hp (by simp),yM,ag hb];simp
 intro i
 induction i with
 | zero=>
  intro _;have:(gU L next fin (aj L next a0 k)).mt (0*L)=(aj L next a0 0).length:=by rw[Nat.zero_mul];rfl
  exact ⟨this,key 0 this⟩
 | succ i ih=>
  intro hi;obtain ⟨_,h3⟩:=ih (by omega);have h4:=h3 (by omega) L (az _);rw[←Af hd (by omega),←yC] at h4;exact ⟨h4,key (i+1) h4⟩
theorem Ah:(aj L next a0 (aj L next a0 k).length)=aj L next a0 k:=by
 have hp:=lp (L:=L) (next:=next) (a0:=a0) hd;exact (G2 hp.length_le hd).symm
theorem aoj (h1:1≤L):(gU L next fin (aj L next a0 k)).VL where
 le t ht:=by
  rw[nk] at ht;have hq:t/L<(aj L next a0 k).length:=by rw[Nat.div_lt_iff_lt_mul (by omega)];exact ht
  have hx:t %L<L:=Bd _ (by omega);have Ls:t/L*L+t %L=t:=Nat.div_add_mod' t L;have h2:=(VQ (fin:=fin) hd h1 (t/L) (by omega)).2 hq (t %L) (by omega);rw[Ls] at h2;rw[h2];unfold Da.pos;rw[show (gU L next fin (aj L next a0 k)).L=L from rfl,v9 hq hx];have hp:aJ next (aj L next a0 (t/L)) (aj L next a0 k)[t/L] (t %L+1) <+: aj L next a0 k:=by
   refine (rG _ _ (show t %L+1≤L by omega)).trans ?_;rw[←Af hd hq];exact lp (by omega)
  rw[aJ] at hp;generalize aJ next (aj L next a0 (t/L)) (aj L next a0 k)[t/L] (t %L)=T at*
  generalize next (aj L next a0 k)[t/L] (t %L)=b at*
  rw[uz hp uy];have:=yN (uy (S:=T) (a:=b));rw[qv] at this;split at this<;>omega
 row q hq:=by
  rw[nk] at hq;rw[show (gU L next fin (aj L next a0 k)).L=L from rfl,(VQ hd h1 q (by omega)).1];exact xR hd hq
 all:=by
  rw[nk,show (gU L next fin (aj L next a0 k)).L=L from rfl,(VQ hd h1 _ (az _)).1,Ah hd]
end
theorem aer {U:List α} (h0:a0∈U) (hU: ∀a∈U,∀x,x<L→next a x∈U) (k:Nat):aj L next a0 k ⊆ U:=by
 intro a ha;obtain ⟨w,hw,rfl⟩:=G4 k a ha;have: ∀(w:List Nat) (b:α),b∈U→WL L w→w.foldl next b∈U:=by
  intro w
  induction w with
  | nil=>intro b hb _;exact hb
  | cons x w ih=>intro b hb hw;exact ih _ (hU b hb x hw.head) hw.tail
 exact this w a0 h0 hw
theorem VR {U:List α} (h0:a0∈U) (hU: ∀a∈U,∀x,x<L→next a x∈U) (k:Nat):(aj L next a0 k).length≤U.length:=
 List.Nodup.length_le_of_subset (Ae k) (aer h0 hU k)
end
namespace Da
def trim (d:Da):Da:=gU d.L d.nx d.fin (aj d.L d.nx d.st d.n)
theorem Ok.qw {d:Da} (h:d.Ok) (k:Nat):(aj d.L d.nx d.st k).length≤d.n:=by
 have:=VR (L:=d.L) (next:=d.nx) (a0:=d.st) (U:=List.range d.n) (jG.2 h.s) (fun a ha x hx=>jG.2 (h.fL (jG.1 ha) hx)) k;simpa using this
theorem Ok.Ai {d:Da} (h:d.Ok) (k:Nat): ∀q∈aj d.L d.nx d.st k,q<d.n:=fun q hq=>by
 have:=aer (L:=d.L) (next:=d.nx) (a0:=d.st) (U:=List.range d.n) (jG.2 h.s) (fun a ha x hx=>jG.2 (h.fL (jG.1 ha) hx)) k hq;exact jG.1 this
theorem Ok.aes {d:Da} (h:d.Ok):d.trim.Ok:=VP (h.qw _) h.l1 h.l6 (kP (h.qw _) h.cU)
theorem Ok.VT {d:Da} (h:d.Ok) {i:Nat} (hi:i<(aj d.L d.nx d.st d.n).length) {w:List Nat} (hw:WL d.L w):d.trim.acc i w=d.acc (aj d.L d.nx d.st d.n)[i] w:=aeq (h.qw _) hi hw
theorem Ok.aet {d:Da} (h:d.Ok) {w:List Nat} (hw:WL d.L w):d.trim.acc 0 w=d.acc d.st w:=by
 rw[h.VT (G3 _) hw];have:=aeo (L:=d.L) (next:=d.nx) (a0:=d.st) d.n;rw[cp (G3 _)] at this;rw[ew this]
theorem Ok.aok {d:Da} (h:d.Ok) (hr: ∀p q,p<d.n→q<d.n→d.rD p d q→p=q):d.trim.Canon d.L (d.acc d.st) where
 ok:=h.aes
 hL:=rfl
 st:=rfl
 num:=aoj (h.qw _) h.l1
 red p q hp hq he:=by
  unfold trim at hp hq;rw[nk] at hp hq;have h1:d.rD (aj d.L d.nx d.st d.n)[p] d (aj d.L d.nx d.st d.n)[q]:=fun w hw=>by
   rw[←h.VT hp hw,←h.VT hq hw];exact he w hw
  have h2:=hr _ _ (h.Ai _ _ (ff hp)) (h.Ai _ _ (ff hq)) h1;rw[←List.Nodup.idxOf_getElem (Ae _) p hp,←List.Nodup.idxOf_getElem (Ae _) q hq,h2]
 rF w hw:=h.aet hw
end Da
end Go.AM
set_option maxRecDepth 100000
namespace Go.AM
open Go.IntKind (wrap)
open Go.Proofs
noncomputable def G5 (C:ae) (qx:Int) (t38:LV) (t39 t40:Int) (t49:LV) (t50 aP aT:Int) (bL bH:LV) (t51:Int) {β:Type} (kn:Int→Option β) (kr:((Int) ⊕ (Int×Bool))→Option β):Option β:=
 bif decide (t51<t50) then
  (idx t49 t51).bind fun x2=>
  bif decide ((x2.toInt:Int)<0) then
  kr (.inl 4)
  else
  bif decide ((x2.toInt:Int)≥qx) then
   kr (.inl 4)
  else
   kn (wrap .i64 (t51+1))
 else
  kr (.inr (t51,decide (t51<t50)))
noncomputable def NN (C:ae) (qx:Int) (t38:LV) (t39 t40:Int) (t49:LV) (t50 aP aT:Int) (bL bH:LV):=fun t51=>G5 C qx t38 t39 t40 t49 t50 aP aT bL bH t51 (fun y=>some (Sum.inl y)) (fun r=>some (Sum.inr r))
noncomputable def G6 (C:ae) (qx:Int) (t38:LV) (t39 aP aT:Int) (bL bH:LV) (t40:Int) {β:Type} (kn:Int→Option β) (kr:((Int) ⊕ (Int×Bool))→Option β):Option β:=
 bif decide (t40<t39) then
  (idx t38 t40).bind fun x1=>
  bif (x1.toList.length:Int) != aP then
  kr (.inl 4)
  else
  (Loop (NN C qx t38 t39 t40 x1.toList (x1.toList.length:Int) aP aT bL bH) 0).bind (bN (fun lq=>
   kr (.inl lq)) (un fun (kI:Int) (od:Bool)=>
   kn (wrap .i64 (t40+1))))
 else
  kr (.inr (t40,decide (t40<t39)))
noncomputable def NO (C:ae) (qx:Int) (t38:LV) (t39 aP aT:Int) (bL bH:LV):=fun t40=>G6 C qx t38 t39 aP aT bL bH t40 (fun y=>some (Sum.inl y)) (fun r=>some (Sum.inr r))
noncomputable def aeu (C:ae):cE:=bG 225 UE [EQ,EQ,EQ,EQ,EQ,EQ,H1,EQ,EQ,EQ,EQ] [[0],[1,2,3,4,5,6,0,0,8,9,10,11]] (@G5 C) (bG 145 UF [EQ,EQ,EQ,H1,EQ,EQ,EQ,EQ] [[0],[1,2,3,0,0,5,6,7,8]] (@G6 C) bm)
theorem aol (C:ae):aW C (aeu C) 73 (Lp [1,1,1,1,1,0,1,0,0,1,1,0,0,1,1,1,0,0] 73):=bE UE [EQ,EQ,EQ,EQ,EQ,EQ,H1,EQ,EQ,EQ,EQ] [[0],[1,2,3,4,5,6,0,0,8,9,10,11]] (@G5 C) (aG an)
theorem aom (C:ae):aW C (aeu C) 73 (Lp [1,1,1,1,1,0,1,0,0] 73):=bE UF [EQ,EQ,EQ,H1,EQ,EQ,EQ,EQ] [[0],[1,2,3,0,0,5,6,7,8]] (@G6 C) (aG (aU (aol C) an))
noncomputable def aev (C:ae) (bO bP:Int) (bu bY:LV):Option LV:=
 bif decide (bO<1) then
  some [V.int .i64 1]
 else
  bif decide (bO>6) then
  some [V.int .i64 1]
  else
  bif decide ((bu.length:Int)>512) then
   some [V.int .i64 3]
  else
   bif (bY.length:Int) != (bu.length:Int) then
   some [V.int .i64 4]
   else
   bif decide (bP<0) then
    some [V.int .i64 4]
   else
    bif decide (bP≥(bu.length:Int)) then
    some [V.int .i64 4]
    else
    (Loop (NO C (bu.length:Int) bY (bY.length:Int) bO bP bu bY) 0).bind (bN (fun qy=>
     some [V.int .i64 qy]) (un fun (kJ:Int) (oe:Bool)=>
     some [V.int .i64 0]))
theorem aon {bO bP:Int} {bu bY:LV} {r:Option LV} (h:aev CC bO bP bu bY=r):CC rz [V.int .i64 bO,V.int .i64 bP,.list ao bu,.list ar bY]=r:=bj (aU (aom CC) an) h
noncomputable def G7 (C:ae) (n:Int) (t38:LV) (t39 t40:Int) (t49:LV) (t50 aP aT:Int) (bL bH:LV) (t51:Int) {β:Type} (kn:Int→Option β) (kr:((Int) ⊕ (Int×Bool))→Option β):Option β:=
 bif decide (t51<t50) then
  (idx t49 t51).bind fun x3=>
  bif decide ((x3.toInt:Int)<0) then
  kr (.inl 4)
  else
  bif decide ((x3.toInt:Int)≥n) then
   kr (.inl 4)
  else
   kn (wrap .i64 (t51+1))
 else
  kr (.inr (t51,decide (t51<t50)))
noncomputable def NQ (C:ae) (n:Int) (t38:LV) (t39 t40:Int) (t49:LV) (t50 aP aT:Int) (bL bH:LV):=fun t51=>G7 C n t38 t39 t40 t49 t50 aP aT bL bH t51 (fun y=>some (Sum.inl y)) (fun r=>some (Sum.inr r))
noncomputable def G8 (C:ae) (n:Int) (t38:LV) (t39 aP aT:Int) (bL bH:LV) (t40:Int) {β:Type} (kn:Int→Option β) (kr:((Int) ⊕ (Int×Bool))→Option β):Option β:=
 bif decide (t40<t39) then
  (idx t38 t40).bind fun x2=>
  bif (x2.toList.length:Int) != aP then
  kr (.inl 4)
  else
  (Loop (NQ C n t38 t39 t40 x2.toList (x2.toList.length:Int) aP aT bL bH) 0).bind (bN (fun kI=>
   kr (.inl kI)) (un fun (od:Int) (qy:Bool)=>
   kn (wrap .i64 (t40+1))))
 else
  kr (.inr (t40,decide (t40<t39)))
noncomputable def NR (C:ae) (n:Int) (t38:LV) (t39 aP aT:Int) (bL bH:LV):=fun t40=>G8 C n t38 t39 aP aT bL bH t40 (fun y=>some (Sum.inl y)) (fun r=>some (Sum.inr r))
noncomputable def aew (C:ae):cE:=bG 225 Uv [EQ,EQ,EQ,EQ,EQ,EQ,H1,EQ,EQ,EQ,EQ] [[0],[1,2,3,4,5,6,0,0,8,9,10,11]] (@G7 C) (bG 145 Uw [EQ,EQ,EQ,H1,EQ,EQ,EQ,EQ] [[0],[1,2,3,0,0,5,6,7,8]] (@G8 C) bm)
theorem aoo (C:ae):aW C (aew C) 59 (Lp [1,1,1,1,1,0,1,0,0,1,1,0,0,1,1,1,0,0] 59):=bE Uv [EQ,EQ,EQ,EQ,EQ,EQ,H1,EQ,EQ,EQ,EQ] [[0],[1,2,3,4,5,6,0,0,8,9,10,11]] (@G7 C) (aG an)
theorem aop (C:ae):aW C (aew C) 59 (Lp [1,1,1,1,1,0,1,0,0] 59):=bE Uw [EQ,EQ,EQ,H1,EQ,EQ,EQ,EQ] [[0],[1,2,3,0,0,5,6,7,8]] (@G8 C) (aG (aU (aoo C) an))
noncomputable def aex (C:ae) (bO bP:Int) (bu bY:LV):Option LV:=
 (C zT [V.int .i64 bO]).bind fun r1=>
 bif !((V.nth r1 0).toBool) then
  some [V.int .i64 1]
 else
  bif decide ((bu.length:Int)>512) then
  some [V.int .i64 3]
  else
  bif (bu.length:Int)==0 then
   some [V.int .i64 4]
  else
   bif (bY.length:Int) != (bu.length:Int) then
   some [V.int .i64 4]
   else
   bif decide (bP<0) then
    some [V.int .i64 4]
   else
    bif decide (bP≥(bu.length:Int)) then
    some [V.int .i64 4]
    else
    (Loop (NR C (bu.length:Int) bY (bY.length:Int) bO bP bu bY) 0).bind (bN (fun kJ=>
     some [V.int .i64 kJ]) (un fun (oe:Int) (rH:Bool)=>
     some [V.int .i64 0]))
theorem aoq {bO bP:Int} {bu bY:LV} {r:Option LV} (h:aex CC bO bP bu bY=r):CC Gc [V.int .i64 bO,V.int .i64 bP,.list ao bu,.list ar bY]=r:=bj (aU (aop CC) an) h
noncomputable def aey (C:ae) (ay:Int):Option LV:=
 bif decide (ay≥1) then
  some [.bool (decide (ay≤6))]
 else
  some [.bool false]
theorem aez {ay:Int} {r:Option LV} (h:aey CC ay=r):CC zT [V.int .i64 ay]=r:=bj (L:=bm) an h
theorem aeA (n:Int):CC zT [.int .i64 n]=some [.bool (decide (1≤n∧n≤6))]:=by
 refine aez ?_;unfold aey;rw[aM];split
 ·refine congrArg (fun b=>some [V.bool b]) ?_;rw[Bo];omega
 ·have: ¬(1≤n∧n≤6):=by omega
  simp[this]
abbrev iV (n:Int):V:= .int .i64 n
def qz (r:List Int):V:= .list aF (r.map iV)
@[simp] theorem aeB (r:List Int):(qz r).toList=r.map iV:=by simp[qz]
structure Df where
 L:Int
 st:Int
 F:List Bool
 N:List (List Int)
def CJ (d:Df) (l:List V):List V:= .int .i64 d.L:: .int .i64 d.st:: .list ao (d.F.map V.bool):: .list ar (d.N.map qz)::l
namespace Df
structure Ok (d:Df):Prop where
 L1: -9223372036854775808≤d.L
 L2:d.L≤9223372036854775807
 s1: -9223372036854775808≤d.st
 s2:d.st≤9223372036854775807
 F:d.F.length≤maxLen
 N:d.N.length≤maxLen
 row: ∀r∈d.N,r.length≤maxLen∧∀q∈r,-9223372036854775808≤q∧q≤9223372036854775807
def lr (d:Df) (r:List Int) (i:Nat):Prop:=0≤r.getD i 0∧r.getD i 0<d.F.length
instance (d:Df) (r:List Int):DecidablePred (d.lr r):=fun i=>by unfold lr;infer_instance
def pI (d:Df) (q:Nat):Prop:=((d.N.getD q []).length:Int)=d.L∧∀i,i<(d.N.getD q []).length→d.lr (d.N.getD q []) i
instance (d:Df):DecidablePred d.pI:=fun i=>by unfold pI;infer_instance
def val (d:Df):Int:=
 if d.L<1∨6<d.L then 1
 else if 512<d.F.length then 3
 else if d.N.length≠d.F.length∨d.st<0∨(d.F.length:Int)≤d.st then 4
 else if∀q,q<d.N.length→d.pI q then 0 else 4
end Df
theorem G9 {α:Type} {f:α→V} {l:List α} {i:Nat} {z:α} (h:i<l.length):idx (l.map f) (i:Int)=some (f (l.getD i z)):=by
 rw[ab5 rfl h];simp[h]
section
variable {d:Df} (hd:d.Ok)
include hd
theorem aeC {q:Nat} (h:q<d.N.length):(d.N.getD q []).length≤maxLen:=by
 rw[show d.N.getD q []=d.N[q] by simp[h]];exact (hd.row _ (ff h)).1
theorem aor {q:Nat} (hq:q<d.N.length) {t38:List V} {t39:Int} {a b:Int} {l1 l2:List V}:
  Loop (NN CC (d.F.length:Int) t38 t39 (q:Int) ((d.N.getD q []).map iV) (((d.N.getD q []).map iV).length:Int) a b l1 l2) 0=
   some (if∀i,i<(d.N.getD q []).length→d.lr (d.N.getD q []) i then .inr (((d.N.getD q []).length:Int),false) else .inl 4):=by
 have hl:=aeC hd hq;have hm:=xQ;generalize d.N.getD q []=r at*
 refine Ad (d.lr r) r.length (fun i=>(i:Int)) (.inl 4:Int ⊕ (Int×Bool)) (.inr ((r.length:Int),false)) (fun i hi=> ?_) ?_
 ·simp only[NN,G5,cH,aM];rw[br,G9 (z:=0) hi];simp only[Option.bind_some,V.toInt_int];by_cases h1:r.getD i 0<0
  ·rw[ah h1,ag (show¬d.lr r i from fun h=>by unfold Df.lr at h;omega)]
  ·rw[ag h1];by_cases h2:r.getD i 0≥(d.F.length:Int)
   ·rw[ah h2,ag (show¬d.lr r i from fun h=>by unfold Df.lr at h;omega)]
   ·rw[ag h2,ah (show d.lr r i from ⟨by omega,by omega⟩),dM];rfl
 ·simp only[NN,G5,cH,aM];rw[cl,yP]
theorem aos {a b:Int} {l1 l2:List V}:
  Loop (NO CC (d.F.length:Int) (d.N.map qz) ((d.N.map qz).length:Int) d.L b l1 l2) 0=
   some (if∀q,q<d.N.length→d.pI q then .inr ((d.N.length:Int),false) else .inl 4):=by
 have hm:=xQ;have hN:=hd.N;refine Ad d.pI d.N.length (fun i=>(i:Int)) (.inl 4:Int ⊕ (Int×Bool)) (.inr ((d.N.length:Int),false)) (fun q hq=> ?_) ?_
 ·simp only[NO,G6,cH,aM];rw[br,G9 (z:=[]) hq];simp only[Option.bind_some,aeB,cH,uk];have:=aor hd hq (t38:=d.N.map qz) (t39:=(d.N.length:Int)) (a:=d.L) (b:=b) (l1:=l1) (l2:=l2);rw[cH] at this;by_cases h1:((d.N.getD q []).length:Int)=d.L
  ·rw[ah h1];refine bs this ?_;by_cases h2: ∀i,i<(d.N.getD q []).length→d.lr (d.N.getD q []) i
   ·rw[ah h2,ah (show d.pI q from ⟨h1,h2⟩)];simp only[bN,un];rw[dM];rfl
   ·rw[ag h2,ag (show¬d.pI q from fun h=>h2 h.2)];rfl
  ·rw[ag h1,ag (show¬d.pI q from fun h=>h1 h.1)]
 ·simp only[NO,G6,cH,aM];rw[cl,yP]
theorem aot:CC rz (CJ d [])=some [.int .i64 d.val]:=by
 refine aon ?_;unfold aev Df.val;simp only[cH,aM,uk];have h:=aos hd (a:=0) (b:=d.st) (l1:=d.F.map V.bool) (l2:=d.N.map qz);rw[cH] at h;by_cases h1:d.L<1
 ·rw[ah h1,ah (.inl h1)]
 rw[ag h1];by_cases h2:d.L>6
 ·rw[ah h2,ah (.inr h2)]
 rw[ag h2,ag (show¬(d.L<1∨6<d.L) by omega)];by_cases h3:512<d.F.length
 ·rw[ah (show (d.F.length:Int)>512 by omega),ah h3]
 rw[ag (show¬(d.F.length:Int)>512 by omega),ag h3];by_cases h4:d.N.length=d.F.length
 ·rw[ah (show (d.N.length:Int)=(d.F.length:Int) by omega)];by_cases h5:d.st<0
  ·rw[ah h5,ah (.inr (.inl h5))]
  rw[ag h5];by_cases h6:d.st≥(d.F.length:Int)
  ·rw[ah h6,ah (.inr (.inr h6))]
  rw[ag h6,ag (show¬(d.N.length≠d.F.length∨d.st<0∨(d.F.length:Int)≤d.st) by omega)];refine bs h ?_;split<;>rfl
 ·rw[ag (show¬(d.N.length:Int)=(d.F.length:Int) by omega),ah (.inl h4)]
theorem aou {q:Nat} (hq:q<d.N.length) {t38:List V} {t39:Int} {a b:Int} {l1 l2:List V}:
  Loop (NQ CC (d.F.length:Int) t38 t39 (q:Int) ((d.N.getD q []).map iV) (((d.N.getD q []).map iV).length:Int) a b l1 l2) 0=
   some (if∀i,i<(d.N.getD q []).length→d.lr (d.N.getD q []) i then .inr (((d.N.getD q []).length:Int),false) else .inl 4):=by
 have hl:=aeC hd hq;have hm:=xQ;generalize d.N.getD q []=r at*
 refine Ad (d.lr r) r.length (fun i=>(i:Int)) (.inl 4:Int ⊕ (Int×Bool)) (.inr ((r.length:Int),false)) (fun i hi=> ?_) ?_
 ·simp only[NQ,G7,cH,aM];rw[br,G9 (z:=0) hi];simp only[Option.bind_some,V.toInt_int];by_cases h1:r.getD i 0<0
  ·rw[ah h1,ag (show¬d.lr r i from fun h=>by unfold Df.lr at h;omega)]
  ·rw[ag h1];by_cases h2:r.getD i 0≥(d.F.length:Int)
   ·rw[ah h2,ag (show¬d.lr r i from fun h=>by unfold Df.lr at h;omega)]
   ·rw[ag h2,ah (show d.lr r i from ⟨by omega,by omega⟩),dM];rfl
 ·simp only[NQ,G7,cH,aM];rw[cl,yP]
theorem aov {b:Int} {l1 l2:List V}:
  Loop (NR CC (d.F.length:Int) (d.N.map qz) ((d.N.map qz).length:Int) d.L b l1 l2) 0=
   some (if∀q,q<d.N.length→d.pI q then .inr ((d.N.length:Int),false) else .inl 4):=by
 have hm:=xQ;have hN:=hd.N;refine Ad d.pI d.N.length (fun i=>(i:Int)) (.inl 4:Int ⊕ (Int×Bool)) (.inr ((d.N.length:Int),false)) (fun q hq=> ?_) ?_
 ·simp only[NR,G8,cH,aM];rw[br,G9 (z:=[]) hq];simp only[Option.bind_some,aeB,cH,uk];have:=aou hd hq (t38:=d.N.map qz) (t39:=(d.N.length:Int)) (a:=d.L) (b:=b) (l1:=l1) (l2:=l2);rw[cH] at this;by_cases h1:((d.N.getD q []).length:Int)=d.L
  ·rw[ah h1];refine bs this ?_;by_cases h2: ∀i,i<(d.N.getD q []).length→d.lr (d.N.getD q []) i
   ·rw[ah h2,ah (show d.pI q from ⟨h1,h2⟩)];simp only[bN,un];rw[dM];rfl
   ·rw[ag h2,ag (show¬d.pI q from fun h=>h2 h.2)];rfl
  ·rw[ag h1,ag (show¬d.pI q from fun h=>h1 h.1)]
 ·simp only[NR,G8,cH,aM];rw[cl,yP]
theorem aeD:CC Gc (CJ d [])=some [.int .i64 d.val]:=by
 refine aoq ?_;unfold aex Df.val;refine bs (aeA d.L) ?_;simp only[cH,aM,uk,rv,V.ct,V.mC,jO];have h:=aov hd (b:=d.st) (l1:=d.F.map V.bool) (l2:=d.N.map qz);rw[cH] at h;by_cases h1:d.L<1∨6<d.L
 ·rw[ah h1,ag (show¬(1≤d.L∧d.L≤6) by omega)]
 rw[ag h1,ah (show 1≤d.L∧d.L≤6 by omega)];by_cases h3:512<d.F.length
 ·rw[ah (show (d.F.length:Int)>512 by omega),ah h3]
 rw[ag (show¬(d.F.length:Int)>512 by omega),ag h3];by_cases h0:d.F.length=0
 ·rw[ah (show (d.F.length:Int)=0 by omega),br]
 rw[ag (show¬(d.F.length:Int)=0 by omega)];by_cases h4:d.N.length=d.F.length
 ·rw[ah (show (d.N.length:Int)=(d.F.length:Int) by omega)];by_cases h5:d.st<0
  ·rw[ah h5,ah (.inr (.inl h5))]
  rw[ag h5];by_cases h6:d.st≥(d.F.length:Int)
  ·rw[ah h6,ah (.inr (.inr h6))]
  rw[ag h6,ag (show¬(d.N.length≠d.F.length∨d.st<0∨(d.F.length:Int)≤d.st) by omega)];refine bs h ?_;split<;>rfl
 ·rw[ag (show¬(d.N.length:Int)=(d.F.length:Int) by omega),ah (.inl h4)]
end
def uA (r:List Nat):List Int:=r.map fun q:Nat=>(q:Int)
theorem aeE (r:List Nat) (i:Nat):(uA r).getD i 0=((r.getD i 0:Nat):Int):=by
 unfold uA;by_cases h:i<r.length
 ·rw[fG h,fG (by simpa using h)];simp
 ·simp[Bn (Bm h)]
def Da.df (a:Da):Df:=⟨a.L,a.st,a.F,a.N.map uA⟩
theorem Da.Ok.VU {a:Da} (h:a.Ok):a.df.Ok:=by
 have h1:=h.l6;have h2:=h.s;have h3:=h.cU;have h4:=h.nN;unfold Da.n at*
 refine ⟨by simp only[Da.df];omega,by simp only[Da.df];omega,by simp only[Da.df];omega,by simp only[Da.df];omega,by simp only[Da.df];unfold maxLen;omega,by simp only[Da.df,cH];unfold maxLen;omega,fun r hr=> ?_⟩;obtain ⟨r,qo,rfl⟩:=j5.1 hr;have:=h.row r qo;refine ⟨by simp only[uA,cH];unfold maxLen;omega,fun q hq=> ?_⟩;obtain ⟨q,sJ,rfl⟩:=j5.1 hq;have:=this.2 q sJ;unfold Da.n at this;omega
theorem Da.Ok.val {a:Da} (h:a.Ok):a.df.val=0:=by
 have h0:=h.l1;have h1:=h.l6;have h2:=h.s;have h3:=h.cU;have h4:=h.nN;unfold Da.n at*
 unfold Df.val;rw[ag (by simp only[Da.df];omega),ag (by simp only[Da.df];omega),ag (by simp only[Da.df,cH];omega),ah];intro q hq;simp only[Da.df,cH] at hq;have e:a.df.N.getD q []=uA (a.N.getD q []):=by simp[Da.df,hq]
 have hr:=h.row (a.N.getD q []) (by rw[show a.N.getD q []=a.N[q] by simp[hq]];exact ff hq);unfold Df.pI;rw[e];refine ⟨by simp only[uA,cH,Da.df];omega,fun i hi=> ?_⟩;rw[uA,cH] at hi;have:=hr.2 ((a.N.getD q [])[i]) (ff hi);unfold Df.lr;rw[aeE,fG hi];simp only[Da.df];unfold Da.n at this;omega
def tab {α:Type} (n:Nat) (g:Nat→α):List α:=(List.range n).map g
section
variable {α β:Type} {n i:Nat} {g h:Nat→α}
@[simp] theorem db:(tab n g).length=n:=by simp[tab]
theorem wa (hi:i<n):(tab n g)[i]? =some (g i):=by simp[tab,hi]
theorem xS (hi:i<n) {z:α}:(tab n g).getD i z=g i:=by simp[tab,hi]
theorem VV (hi:i<(tab n g).length):(tab n g)[i]=g i:=by simp[tab]
theorem dR (e: ∀j,j<n→g j=h j):tab n g=tab n h:=rZ fun j hj=>e j (jG.1 hj)
theorem nn {v:α}:(tab n g).set i v=tab n fun j=>if j=i then v else g j:=by
 refine wS (by simp) fun j h1 h2=> ?_;rw[List.getElem_set,VV,VV];simp only[eq_comm]
theorem aow:tab n g++[g n]=tab (n+1) g:=by simp[tab,yO]
theorem gg:tab (n+1) g=tab n g++[g n]:=aow.symm
theorem Ha:tab 0 g=[]:=rfl
theorem lu {v:α}:List.replicate n v=tab n fun _=>v:=by simp[tab,List.map_const']
theorem aox {f:α→β}:(tab n g).map f=tab n fun i=>f (g i):=by simp[tab,Function.comp]
theorem aoy (l:List α) (z:α):l=tab l.length fun i=>l.getD i z:=by
 refine wS (by simp) fun j h1 h2=> ?_;rw[VV];simp[h1]
theorem CK (l:List α) (z:α) {f:α→β}:l.map f=tab l.length fun i=>f (l.getD i z):=by
 rw[←aox,←aoy]
theorem uB {a:α}:a∈tab n g↔∃i,i<n∧g i=a:=by simp[tab]
end
section
variable {γ:Type} {n i:Nat} {g:Nat→V}
theorem np (hi:i<n):idx (tab n g) (i:Int)=some (g i):=by rw[Sn rfl,wa hi]
theorem fu (hi:i<n) {K:V→Option γ}:(bif (decide (0≤(i:Int)))&&(decide ((i:Int)<((tab n g).length:Int))) then ((tab n g)[((i:Int)).toNat]?).bind K else none)=K (g i):=by
 rw[Int.toNat_natCast,wa hi,lH.2 ⟨bU (by omega),bU (by rw[db];omega)⟩];rfl
theorem eo {es:List V} {v:V} (hi:es[i]? =some v) {K:V→Option γ}:(bif (decide (0≤(i:Int)))&&(decide ((i:Int)<(es.length:Int))) then (es[((i:Int)).toNat]?).bind K else none)=K v:=by
 have hl:i<es.length:=by
  rcases fH i es.length with h|h
  ·exact h
  ·rw[Bn h] at hi;cases hi
 rw[Int.toNat_natCast,hi,lH.2 ⟨bU (by omega),bU (by omega)⟩];rfl
theorem VW {m:Nat} (hi:i<m):((decide (0≤(i:Int)))&&(decide ((i:Int)<(m:Int))))=true:=lH.2 ⟨bU (by omega),bU (by omega)⟩
end
theorem cap {a b m:Nat} (h:a+b≤10000000) (hm:m≤1000):Nat.ble ((a+b)*m) aX=true:=by
 rw[fo,v8];have:=Nat.mul_le_mul h hm;omega
theorem mE {n m:Nat} (h:n≤10000000) (hm:m≤1000):((decide (0≤(n:Int)))&&((decide ((n:Int)≤(n:Int)))&&(Nat.ble (((n:Int).toNat)*m) aX)))=true:=by
 have h2:=Nat.mul_le_mul h hm;rw[Int.toNat_natCast];refine lH.2 ⟨bU (by omega),lH.2 ⟨bU (by omega),?_⟩⟩;rw[fo,v8];omega
theorem cG {i:Nat} (h:i≤1000000000):wrap .i64 ((i:Int)+1)=((i+1:Nat):Int):=by rw[dM];omega
theorem cN {i n:Nat} (h:i<n):decide ((i:Int)<(n:Int))=true:=bU (by omega)
theorem bp {i n:Nat} (h:n≤i):decide ((i:Int)<(n:Int))=false:=cJ (by omega)
section
variable {X R:Type} {step:X→Option (X ⊕ R)}
theorem eh (n:Nat) (s:Nat→X) (r:R) (h: ∀i,i<n→step (s i)=some (.inl (s (i+1)))) (he:step (s n)=some (.inr r)):Loop step (s 0)=some r:=FR s n h he
theorem uC (P:Nat→X→Prop) (Q:R→Prop): ∀(n k:Nat) (x:X),(∀i,k≤i→i<k+n→∀x,P i x→∃y,step x=some (.inl y)∧P (i+1) y)→(∀x,P (k+n) x→∃r,step x=some (.inr r)∧Q r)→P k x→∃r,Loop step x=some r∧Q r
 | 0,k,x,_,he,hx=>by
  obtain ⟨r,h1,h2⟩:=he x hx;exact ⟨r,di h1,h2⟩
 | n+1,k,x,h,he,hx=>by
  obtain ⟨y,h1,h2⟩:=h k (az _) (by omega) x hx;obtain ⟨r,h3,h4⟩:=uC P Q n (k+1) y (fun i hi hn=>h i (by omega) (by omega)) (by rw[show k+1+n=k+(n+1) by omega];exact he) h2;exact ⟨r,(fY h1).trans h3,h4⟩
end
noncomputable def aeF (C:ae) (x n:Int):Option LV:=
 bif decide (n<1) then
  some [V.int .i64 0]
 else
  bif !decide (n=0) then
  bif decide (((Int.tmod x n):Int)<0) then
   some [V.int .i64 (wrap .i64 ((Int.tmod x n)+n))]
  else
   some [V.int .i64 (Int.tmod x n)]
  else none
theorem aoz {x n:Int} {r:Option LV} (h:aeF CC x n=r):CC FZ [V.int .i64 x,V.int .i64 n]=r:=bj (L:=bm) an h
noncomputable def VX (C:ae) (l:LV):Option LV:=
 bif decide ((l.length:Int)>80) then
  bif decide (80≤(l.length:Int)) then
  some [.list aF ((l.drop 0).take (80-0)),V.int .i64 0]
  else none
 else
  some [.list aF l,V.int .i64 0]
theorem aeG {l:LV} {r:Option LV} (h:VX CC l=r):CC Mt [.list aF l]=r:=bj (L:=bm) an h
noncomputable def VY (C:ae) (n:Int) (gh:LV) (gi:Int):Option LV:=
 bif decide (gi≥(gh.length:Int)) then
  some [V.int .i64 0,.list aF gh,V.int .i64 gi]
 else
  (idx gh (wrap .i64 ((wrap .i64 (gi+1))-1))).bind fun x1=>
  (C FZ [V.int .i64 x1.toInt,V.int .i64 n]).bind fun r2=>
  some [V.int .i64 ((V.nth r2 0).toInt),.list aF gh,V.int .i64 (wrap .i64 (gi+1))]
theorem aeH {n:Int} {gh:LV} {gi:Int} {r:Option LV} (h:VY CC n gh gi=r):CC vS [V.int .i64 n,.list aF gh,V.int .i64 gi]=r:=bj (L:=bm) an h
noncomputable def CL (C:ae) (ay n i:Int) (t25:Bool) (gh:LV) (gi sZ gs og oh lS mF:Int) (bQ cx:LV) {β:Type} (kr:(Int)→Option β):Option β:=
 bif t25 then
  (C FZ [V.int .i64 og,V.int .i64 4]).bind fun r3=>
  kr (wrap .i64 (1+((V.nth r3 0).toInt)))
 else
  kr og
noncomputable def CM (C:ae) (ay n i:Int) (t33:Bool) (gh:LV) (gi sZ gs og oh lS mF:Int) (bQ cx:LV) {β:Type} (kr:(LV×Int×Int)→Option β):Option β:=
 bif t33 then
  (C vS [V.int .i64 ay,.list aF gh,V.int .i64 gi]).bind fun r5=>
  kr ((V.nth (r5.drop 1) 0).toList,(V.nth ((r5.drop 1).drop 1) 0).toInt,(V.nth r5 0).toInt)
 else
  kr (gh,gi,oh)
noncomputable def CN (C:ae) (ay n i:Int) (t40:Bool) (gh:LV) (gi sZ gs og oh lS mF:Int) (bQ cx:LV) {β:Type} (kr:(LV×Int×Int)→Option β):Option β:=
 bif t40 then
  (C vS [V.int .i64 i,.list aF gh,V.int .i64 gi]).bind fun r9=>
  kr ((V.nth (r9.drop 1) 0).toList,(V.nth ((r9.drop 1).drop 1) 0).toInt,(V.nth r9 0).toInt)
 else
  kr (gh,gi,lS)
noncomputable def Aj (C:ae) (ay n i:Int) (t52:Bool) (gh:LV) (gi sZ gs og oh lS mF:Int) (bQ cx:LV) {β:Type} (kr:(LV×Int×Int)→Option β):Option β:=
 bif t52 then
  (C vS [V.int .i64 i,.list aF gh,V.int .i64 gi]).bind fun qA=>
  kr ((V.nth (qA.drop 1) 0).toList,(V.nth ((qA.drop 1).drop 1) 0).toInt,(V.nth qA 0).toInt)
 else
  kr (gh,gi,mF)
noncomputable def Hb (C:ae) (ay n sZ gs:Int) (bC:LV) (i:Int) (gh:LV) (gi:Int) (bQ:LV) {β:Type} (kn:(Int×LV×Int×LV)→Option β) (kr:(Int×Bool×LV×Int×LV)→Option β):Option β:=
 bif decide (i<n) then
  (C vS [V.int .i64 8,.list aF gh,V.int .i64 gi]).bind fun r2=>
  CL C ay n i (i==0) ((V.nth (r2.drop 1) 0).toList) ((V.nth ((r2.drop 1).drop 1) 0).toInt) sZ gs (wrap .i64 (1+((V.nth r2 0).toInt))) 0 0 0 bC bQ (fun rI=>
   CM C ay n i (rI==3) ((V.nth (r2.drop 1) 0).toList) ((V.nth ((r2.drop 1).drop 1) 0).toInt) sZ gs rI 0 0 0 bC bQ (un fun (aoA:LV)=>un fun (aoB:Int) (Ak:Int)=>
    CN C ay n i (decide (rI≥5)) aoA aoB sZ gs rI Ak 0 0 bC bQ (un fun (aeI:LV)=>un fun (aeJ:Int) (CO:Int)=>
     bif decide (rI≥5) then
     Aj C ay n i (rI != 8) aeI aeJ sZ gs rI Ak CO 0 bC bQ (un fun (aoC:LV)=>un fun (aoD:Int) (aeK:Int)=>
      bif Nat.ble ((bQ.length+([.agg [V.int .i64 rI,V.int .i64 Ak,V.int .i64 CO,V.int .i64 aeK]]:LV).length)*32) aX then
       kn (wrap .i64 (i+1),aoC,aoD,bQ++([.agg [V.int .i64 rI,V.int .i64 Ak,V.int .i64 CO,V.int .i64 aeK]]:LV))
      else none)
     else
     Aj C ay n i false aeI aeJ sZ gs rI Ak CO 0 bC bQ (un fun (aoE:LV)=>un fun (aoF:Int) (aeL:Int)=>
      bif Nat.ble ((bQ.length+([.agg [V.int .i64 rI,V.int .i64 Ak,V.int .i64 CO,V.int .i64 aeL]]:LV).length)*32) aX then
       kn (wrap .i64 (i+1),aoE,aoF,bQ++([.agg [V.int .i64 rI,V.int .i64 Ak,V.int .i64 CO,V.int .i64 aeL]]:LV))
      else none))))
 else
  kr (i,decide (i<n),gh,gi,bQ)
noncomputable def NS (C:ae) (ay n sZ gs:Int) (bC:LV):=un fun i=>un fun gh=>un fun gi bQ=>Hb C ay n sZ gs bC i gh gi bQ (fun y=>some (Sum.inl y)) (fun r=>some (Sum.inr r))
noncomputable def Hc (C:ae):cE:=gG 415 To [[1,2,3,5,6,7,8,0,10,11,12,13,14]] (@CL C) (gG 543 Tr [[1,2,3,0,0,7,8,9,0,11,12,13,14]] (@CM C) (gG 655 Ts [[1,2,3,0,0,7,8,9,10,0,12,13,14]] (@CN C) (gG 847 Tt [[1,2,3,0,0,7,8,9,10,11,0,13,14]] (@Aj C) (bG 65 Tu [EQ,EQ,H1,H1,H1,EQ,EQ,EQ,H1] [[1,2,0,0,0,0,6,7,8,0]] (@Hb C) bm))))
theorem aoG (C:ae):aW C (Hc C) 6 (Cd 25 [1,1,1,0,1,0,0,1,0,0,1,0,1,0] [1,1,1,0,1,0,0,1,0,0,1,0,1,1] 6):=gF To [[1,2,3,5,6,7,8,0,10,11,12,13,14]] (@CL C) (aG an) (aG an)
theorem aoH (C:ae):aW C (Hc C) 6 (Cd 33 [1,1,1,0,1,0,0,1,0,0,1,1,0,1,0] [1,1,1,0,1,0,0,1,0,0,1,1,0,1,1] 6):=gF Tr [[1,2,3,0,0,7,8,9,0,11,12,13,14]] (@CM C) (aG an) (aG an)
theorem aoI (C:ae):aW C (Hc C) 6 (Cd 40 [1,1,1,0,1,0,0,1,0,0,1,1,1,0,1,0] [1,1,1,0,1,0,0,1,0,0,1,1,1,0,1,1] 6):=gF Ts [[1,2,3,0,0,7,8,9,10,0,12,13,14]] (@CN C) (aG an) (aG an)
theorem aoJ (C:ae):aW C (Hc C) 6 (Cd 52 [1,1,1,0,1,0,0,1,0,0,1,1,1,1,0,1,0] [1,1,1,0,1,0,0,1,0,0,1,1,1,1,0,1,1] 6):=gF Tt [[1,2,3,0,0,7,8,9,10,11,0,13,14]] (@Aj C) (aG an) (aG an)
theorem aoK (C:ae):aW C (Hc C) 6 (Lp [1,1,1,0,1,0,0] 6):=bE Tu [EQ,EQ,H1,H1,H1,EQ,EQ,EQ,H1] [[1,2,0,0,0,0,6,7,8,0]] (@Hb C) (aG (aU (aoG C) (aU (aoH C) (aU (aoI C) (aU (aoJ C) an)))))
noncomputable def aeM (C:ae) (ay cU:Int) (gh:LV) (gi:Int):Option LV:=
 (C vS [V.int .i64 cU,.list aF gh,V.int .i64 gi]).bind fun r1=>
 (Loop (NS C ay (wrap .i64 (1+((V.nth r1 0).toInt))) 0 0 ([]:LV)) (0,(V.nth (r1.drop 1) 0).toList,(V.nth ((r1.drop 1).drop 1) 0).toInt,([]:LV))).bind (un fun ay5=>un fun (NT:Bool)=>un fun (aoL:LV)=>un fun (aoM:Int) (Al:LV)=>
  some [V.int .i64 (wrap .i64 ((wrap .i64 (1+((V.nth r1 0).toInt)))-1)),.list aF aoL,V.int .i64 aoM,.list jy Al])
theorem aoN {ay cU:Int} {gh:LV} {gi:Int} {r:Option LV} (h:aeM CC ay cU gh gi=r):CC Mu [V.int .i64 ay,V.int .i64 cU,.list aF gh,V.int .i64 gi]=r:=bj (aU (aoK CC) an) h
theorem aeN {x:Int} {n:Nat} (hn:1≤n) (hm:n≤1000000): ∃v:Nat,v<n∧CC FZ [.int .i64 x,.int .i64 (n:Int)]=some [.int .i64 (v:Int)]:=by
 have h1:x %n<n:=Int.emod_lt_of_pos _ (by omega);have h2:0≤x %n:=Int.emod_nonneg _ (by omega);have e:((x %n).toNat:Int)=x %n:=Int.toNat_of_nonneg h2;have h0:Int.tmod x n=x %n∨Int.tmod x n=x %n-n:=by
  rw[Int.tmod_eq_emod];split<;>simp
 refine ⟨(x %n).toNat,by omega,aoz ?_⟩;unfold aeF;refine bF (by simp;omega) (bT (by simp;omega) ?_);rw[e];by_cases h:Int.tmod x n<0
 ·refine bT (bU h) ?_;have h3:Int.tmod x n+n=x %n:=by omega
  rw[h3,dM (by omega) (by omega)]
 ·refine bF (cJ h) ?_;have h3:Int.tmod x n=x %n:=by omega
  rw[h3]
structure Tp where
 l:List Int
 k:Nat
 h:l.length≤80
 hk:k≤80
def Tp.L (t:Tp):V:= .list aF (t.l.map iV)
def Tp.K (t:Tp):V:= .int .i64 (t.k:Int)
theorem aoO (l:List Int): ∃t:Tp,CC Mt [.list aF (l.map iV)]=some [t.L,t.K]:=by
 by_cases h:80<l.length
 ·refine ⟨⟨l.take 80,0,by simp;omega,by omega⟩,aeG ?_⟩;unfold VX;refine bT (by simp;omega) (bT (by simp;omega) ?_);simp[Tp.L,Tp.K,List.map_take]
 ·refine ⟨⟨l,0,by omega,by omega⟩,aeG ?_⟩;unfold VX;exact bF (by simp;omega) rfl
theorem CP (t:Tp) {n:Nat} (hn:1≤n) (hm:n≤1000000): ∃(v:Nat) (u:Tp),v<n∧CC vS [.int .i64 (n:Int),t.L,t.K]=some [.int .i64 (v:Int),u.L,u.K]:=by
 have hh:=t.h;have hk:=t.hk;by_cases h:t.l.length≤t.k
 ·refine ⟨0,t,by omega,aeH ?_⟩;unfold VY;exact bT (by simp;omega) rfl
 ·obtain ⟨v,hv,e⟩:=aeN (x:=t.l.getD t.k 0) hn hm;refine ⟨v,⟨t.l,t.k+1,t.h,by omega⟩,hv,aeH ?_⟩;unfold VY;refine bF (by simp;omega) ?_;rw[cG (by omega),dM (by omega) (by omega),show ((t.k+1:Nat):Int)-1=(t.k:Int) by omega];refine bs (G9 (z:=0) (by omega)) ?_;refine bs (by rw[V.toInt_int];exact e) ?_;rfl
structure Nd where
 op:Nat
 x:Nat
 a:Nat
 b:Nat
deriving DecidableEq
def Nd.v (d:Nd):V:= .agg [.int .i64 (d.op:Int),.int .i64 (d.x:Int),.int .i64 (d.a:Int),.int .i64 (d.b:Int)]
structure Nd.Ok (d:Nd) (L i:Nat):Prop where
 o1:1≤d.op
 o8:d.op≤8
 x1:d.op=3→d.x<L
 x0:d.op≠3→d.x=0
 a1:5≤d.op→d.a<i
 a0:d.op<5→d.a=0
 b1:5≤d.op→d.op≠8→d.b<i
 b0:d.op<5∨d.op=8→d.b=0
structure xT (g:List Nd) (L:Nat):Prop where
 l1:1≤L
 l2:L≤6
 n1:1≤g.length
 n2:g.length≤100
 nd: ∀i (h:i<g.length),g[i].Ok L i
theorem xT.get {g:List Nd} {L i:Nat} (h:xT g L) (hi:i<g.length):idx (g.map Nd.v) (i:Int)=some g[i].v:=by
 rw[ab5 rfl hi]
theorem aoP (t:Tp) {L m:Nat} (h1:1≤L) (h2:L≤6) (hm:1≤m) (lb:m≤50): ∃(g:List Nd) (u:Tp),xT g L∧g.length≤m∧
  CC Mu [.int .i64 (L:Int),.int .i64 (m:Int),t.L,t.K]=some [.int .i64 ((g.length:Int)-1),u.L,u.K,.list jy (g.map Nd.v)]:=by
 obtain ⟨v,t1,hv,e1⟩:=CP t hm (by omega);have hn:wrap .i64 (1+(v:Int))=((v+1:Nat):Int):=by rw[dM];omega
 suffices hl: ∃r:Int×Bool×List V×Int×List V,Loop (NS CC (L:Int) ((v+1:Nat):Int) 0 0 ([]:LV)) (0,t1.l.map iV,(t1.k:Int),([]:LV))=some r∧
   ∃(g:List Nd) (u:Tp),g.length=v+1∧(∀i (h:i<g.length),g[i].Ok L i)∧r.2.2=(u.l.map iV,(u.k:Int),g.map Nd.v) by
  obtain ⟨⟨r1,r2,r3⟩,e2,g,u,h3,h4,h5⟩:=hl;simp only at h5;subst h5;refine ⟨g,u,⟨h1,h2,by omega,by omega,h4⟩,by omega,aoN ?_⟩;unfold aeM;refine bs e1 ?_;simp only[V.ct,V.toInt_int,mn,jZ,Tp.L,Tp.K,V.ki,hn];refine bs e2 ?_;simp only[un,Tp.L,Tp.K,h3];rw[dM (by omega) (by omega)]
 refine uC (fun i x=> ∃(g:List Nd) (u:Tp),g.length=i∧(∀i (h:i<g.length),g[i].Ok L i)∧x=((i:Int),u.l.map iV,(u.k:Int),g.map Nd.v)) _ (v+1) 0 _ ?_ ?_ ⟨[],t1,rfl,fun i h=>by simp at h,rfl⟩
 ·rintro i _ hi x ⟨g,u,h3,h4,rfl⟩;obtain ⟨o,u1,ho,e2⟩:=CP u (n:=8) (by omega) (by omega);obtain ⟨op,FJ,e3⟩: ∃op:Nat,(1≤op∧op≤8∧(i=0→op≤4))∧∀{β:Type} (k1 k2 k3 k4:Int) (l0 l1 l2:LV) (b1 b2 b3 b4:Int) (kr:Int→Option β),CL CC b1 b2 (i:Int) ((i:Int)==0) l0 b3 k1 k2 (wrap .i64 (1+(o:Int))) k3 k4 b4 l1 l2 kr=kr (op:Int):=by
   have hw:wrap .i64 (1+(o:Int))=((o+1:Nat):Int):=by rw[dM];omega
   by_cases h0:i=0
   ·subst h0;obtain ⟨w,hw4,e4⟩:=aeN (x:=((o+1:Nat):Int)) (n:=4) (by omega) (by omega);refine ⟨w+1,⟨by omega,by omega,fun _=>by omega⟩,fun {β} k1 k2 k3 k4 l0 l1 l2 b1 b2 b3 b4 kr=> ?_⟩;unfold CL;refine bT rfl ?_;rw[hw];refine bs e4 ?_;simp only[V.ct,V.toInt_int];rw[dM (by omega) (by omega),show (1:Int)+w=((w+1:Nat):Int) by omega]
   ·refine ⟨o+1,⟨by omega,by omega,fun h=>absurd h h0⟩,fun {β} k1 k2 k3 k4 l0 l1 l2 b1 b2 b3 b4 kr=> ?_⟩;unfold CL;refine bF (by simp;omega) ?_;rw[hw]
  obtain ⟨x,u2,hx,e4⟩: ∃(x:Nat) (u2:Tp),((op=3→x<L)∧(op≠3→x=0))∧∀{β:Type} (k1 k2 k3 k4:Int) (l1 l2:LV) (b2:Int) (kr:LV×Int×Int→Option β),CM CC (L:Int) b2 (i:Int) ((op:Int)==3) (u1.l.map iV) (u1.k:Int) k1 k2 (op:Int) 0 k3 k4 l1 l2 kr=kr (u2.l.map iV,(u2.k:Int),(x:Int)):=by
   by_cases h0:op=3
   ·obtain ⟨x,u2,hx,e4⟩:=CP u1 (n:=L) h1 (by omega);refine ⟨x,u2,⟨fun _=>hx,fun h=>absurd h0 h⟩,fun {β} k1 k2 k3 k4 l1 l2 b2 kr=> ?_⟩;unfold CM;refine bT (by simp[h0]) (bs e4 ?_);simp[Tp.L,Tp.K]
   ·refine ⟨0,u1,⟨fun h=>absurd h h0,fun _=>rfl⟩,fun {β} k1 k2 k3 k4 l1 l2 b2 kr=> ?_⟩;unfold CM;exact bF (by simp;omega) rfl
  obtain ⟨a,u3,ha,e5⟩: ∃(a:Nat) (u3:Tp),((5≤op→a<i)∧(op<5→a=0))∧∀{β:Type} (k1 k2 k4:Int) (l1 l2:LV) (b1 b2:Int) (kr:LV×Int×Int→Option β),CN CC b1 b2 (i:Int) (decide ((op:Int)≥5)) (u2.l.map iV) (u2.k:Int) k1 k2 (op:Int) (x:Int) 0 k4 l1 l2 kr=kr (u3.l.map iV,(u3.k:Int),(a:Int)):=by
   by_cases h0:5≤op
   ·obtain ⟨a,u3,ha,e5⟩:=CP u2 (n:=i) (by omega) (by omega);refine ⟨a,u3,⟨fun _=>ha,fun h=>by omega⟩,fun {β} k1 k2 k4 l1 l2 b1 b2 kr=> ?_⟩;unfold CN;refine bT (by simp;omega) (bs e5 ?_);simp[Tp.L,Tp.K]
   ·refine ⟨0,u2,⟨fun h=>absurd h h0,fun _=>rfl⟩,fun {β} k1 k2 k4 l1 l2 b1 b2 kr=> ?_⟩;unfold CN;exact bF (by simp;omega) rfl
  obtain ⟨b,u4,hb,e6⟩: ∃(b:Nat) (u4:Tp),((5≤op→op≠8→b<i)∧(op<5∨op=8→b=0))∧∀{β:Type} (q:Bool) (hq:q=decide (5≤op∧op≠8)) (k1 k2:Int) (l1 l2:LV) (b1 b2:Int) (kr:LV×Int×Int→Option β),Aj CC b1 b2 (i:Int) q (u3.l.map iV) (u3.k:Int) k1 k2 (op:Int) (x:Int) (a:Int) 0 l1 l2 kr=kr (u4.l.map iV,(u4.k:Int),(b:Int)):=by
   by_cases h0:5≤op∧op≠8
   ·obtain ⟨a,u3,ha,e5⟩:=CP u3 (n:=i) (by omega) (by omega);refine ⟨a,u3,⟨fun _ _=>ha,fun h=>by omega⟩,fun {β} q hq k1 k2 l1 l2 b1 b2 kr=> ?_⟩;unfold Aj;refine bT (by rw[hq];exact bU h0) (bs e5 ?_);simp[Tp.L,Tp.K]
   ·refine ⟨0,u3,⟨fun h h'=>absurd ⟨h,h'⟩ h0,fun _=>rfl⟩,fun {β} q hq k1 k2 l1 l2 b1 b2 kr=> ?_⟩;unfold Aj;exact bF (by rw[hq];exact cJ h0) rfl
  refine ⟨_,?_,g++[⟨op,x,a,b⟩],u4,by simp[h3],fun j hj=> ?_,rfl⟩
  ·have cf:Nat.ble (((g.map Nd.v).length+([.agg [V.int .i64 (op:Int),V.int .i64 (x:Int),V.int .i64 (a:Int),V.int .i64 (b:Int)]]:LV).length)*32) aX=true:=cap (by simp;omega) (by omega);simp only[NS,un];unfold Hb;refine bT (cN (by omega)) (bs e2 ?_);simp only[V.ct,V.toInt_int,mn,jZ,Tp.L,Tp.K,V.ki,e3,e4,un,e5];by_cases h5:5≤op
   ·refine bT (by simp;omega) ?_;have hq:((op:Int) != 8)=decide (5≤op∧op≠8):=by
     by_cases h8:op=8
     ·simp[h8]
     ·rw[bU ⟨h5,h8⟩];simp;omega
    rw[e6 _ hq];refine bT cf ?_;rw[cG (by omega)];simp[Nd.v]
   ·refine bF (by simp;omega) ?_;rw[e6 false (by rw[cJ (by omega)])];refine bT cf ?_;rw[cG (by omega)];simp[Nd.v]
  ·rcases fH j g.length with cS|cS
   ·rw[Ks cS];exact h4 j cS
   ·have:j=g.length:=by simp at hj;omega
    subst this;rw[List.getElem_append_right (az _)];simp only[Nat.sub_self,List.getElem_singleton];rw[h3];exact ⟨FJ.1,FJ.2.1,hx.1,hx.2,ha.1,ha.2,hb.1,hb.2⟩
 ·rintro x ⟨g,u,h3,h4,rfl⟩;refine ⟨(((0+(v+1):Nat):Int),decide (((0+(v+1):Nat):Int)<((v+1:Nat):Int)),u.l.map iV,(u.k:Int),g.map Nd.v),?_,g,u,by omega,h4,rfl⟩;simp only[NS,un];unfold Hb;exact bF (bp (by omega)) rfl
noncomputable def aoQ (C:ae) (op:Int):Option LV:=
 bif op==5 then
  bif op==5 then
  some [V.int .i64 2]
  else
  bif op==8 then
   some [V.int .i64 1]
  else
   some [V.int .i64 0]
 else
  bif op==6 then
  bif op==6 then
   some [V.int .i64 2]
  else
   bif op==8 then
   some [V.int .i64 1]
   else
   some [V.int .i64 0]
  else
  bif op==7 then
   some [V.int .i64 2]
  else
   bif op==8 then
   some [V.int .i64 1]
   else
   some [V.int .i64 0]
theorem aoR {op:Int} {r:Option LV} (h:aoQ CC op=r):CC zS [V.int .i64 op]=r:=bj (L:=bm) an h
noncomputable def aeO (C:ae) (part i:Int) (NU:Bool):Option LV:=
 bif NU then
  bif decide (part≥0) then
  some [.bool (decide (part<i))]
  else
  some [.bool false]
 else
  some [.bool (part==0)]
theorem aoS {part i:Int} {NU:Bool} {r:Option LV} (h:aeO CC part i NU=r):CC F8 [V.int .i64 part,V.int .i64 i,.bool NU]=r:=bj (L:=bm) an h
noncomputable def Hd (C:ae) (i ay:Int) (t17:Bool) (bn aY bh aS:Int) {β:Type} (kr:((Bool) ⊕ (Unit))→Option β):Option β:=
 bif t17 then
  bif decide (aY<0) then
  kr (.inl false)
  else
  bif decide (aY≥ay) then
   kr (.inl false)
  else
   kr (.inr ())
 else
  bif aY != 0 then
  kr (.inl false)
  else
  kr (.inr ())
noncomputable def aoT (C:ae):cE:=gG 287 Ue [[0],[1,4,5,6,7]] (@Hd C) bm
theorem aoU (C:ae):aW C (aoT C) 35 (Cd 17 [1,1,0,1,0] [1,1,0,1,1] 35):=gF Ue [[0],[1,4,5,6,7]] (@Hd C) (aG an) (aG an)
noncomputable def aeP (C:ae) (cj cQ cv cW i ay:Int):Option LV:=
 bif decide (cj<1) then
  some [.bool false]
 else
  bif decide (cj>8) then
  some [.bool false]
  else
  Hd C i ay (cj==3) cj cQ cv cW (bN (fun (t_1:Bool)=>
   some [.bool t_1]) (fun _=>
   (C zS [V.int .i64 cj]).bind fun r2=>
   (C F8 [V.int .i64 cv,V.int .i64 i,.bool (decide ((((V.nth r2 0).toInt):Int)≥1))]).bind fun r3=>
   bif (V.nth r3 0).toBool then
    (C zS [V.int .i64 cj]).bind fun r4=>
    (C F8 [V.int .i64 cW,V.int .i64 i,.bool ((((V.nth r4 0).toInt):Int)==2)]).bind fun r5=>
    some [.bool ((V.nth r5 0).toBool)]
   else
    some [.bool false]))
theorem aoV {cj cQ cv cW i ay:Int} {r:Option LV} (h:aeP CC cj cQ cv cW i ay=r):CC MC [V.int .i64 cj,V.int .i64 cQ,V.int .i64 cv,V.int .i64 cW,V.int .i64 i,V.int .i64 ay]=r:=bj (aU (aoU CC) an) h
noncomputable def He (C:ae) (ay:Int) (t18:LV) (t19:Int) (fv:LV) (fw t20:Int) {β:Type} (kn:Int→Option β) (kr:((Int) ⊕ (Int×Bool))→Option β):Option β:=
 bif decide (t20<t19) then
  (idx t18 t20).bind fun x1=>
  (C MC [V.int .i64 ((x1.cell 0).toInt),V.int .i64 ((x1.cell 1).toInt),V.int .i64 ((x1.cell 2).toInt),V.int .i64 ((x1.cell 3).toInt),V.int .i64 t20,V.int .i64 ay]).bind fun r2=>
  bif !((V.nth r2 0).toBool) then
  kr (.inl 22)
  else
  kn (wrap .i64 (t20+1))
 else
  kr (.inr (t20,decide (t20<t19)))
noncomputable def VZ (C:ae) (ay:Int) (t18:LV) (t19:Int) (fv:LV) (fw:Int):=fun t20=>He C ay t18 t19 fv fw t20 (fun y=>some (Sum.inl y)) (fun r=>some (Sum.inr r))
noncomputable def aoW (C:ae):cE:=bG 97 TT [EQ,EQ,EQ,H1,EQ,EQ] [[0],[1,2,3,0,0,5,6]] (@He C) bm
theorem aoX (C:ae):aW C (aoW C) 21 (Lp [1,1,1,0,1,0,0] 21):=bE TT [EQ,EQ,EQ,H1,EQ,EQ] [[0],[1,2,3,0,0,5,6]] (@He C) (aG an)
noncomputable def aeQ (C:ae) (eR:LV) (jT ay:Int):Option LV:=
 bif decide (ay<1) then
  some [V.int .i64 1]
 else
  bif decide (ay>6) then
  some [V.int .i64 1]
  else
  bif decide ((eR.length:Int)>20000) then
   some [V.int .i64 3]
  else
   (Loop (VZ C ay eR (eR.length:Int) eR jT) 0).bind (bN (fun lq=>
    some [V.int .i64 lq]) (un fun (kI:Int) (od:Bool)=>
    bif decide (jT<0) then
    some [V.int .i64 22]
    else
    bif decide (jT≥(eR.length:Int)) then
     some [V.int .i64 22]
    else
     some [V.int .i64 0]))
theorem aoY {eR:LV} {jT ay:Int} {r:Option LV} (h:aeQ CC eR jT ay=r):CC My [.list jy eR,V.int .i64 jT,V.int .i64 ay]=r:=bj (aU (aoX CC) an) h
noncomputable def uD (C:ae) (ay i:Int) (a b':Bool) (t17:LV) (t18 t19:Int) (t64:Bool) (fv:LV) (fw bn aY bh aS:Int) {β:Type} (kr:((Int) ⊕ (Unit))→Option β):Option β:=
 bif t64 then
  kr (.inl 22)
 else
  bif a then
  bif decide (bh<0) then
   kr (.inl 22)
  else
   bif decide (bh≥i) then
   kr (.inl 22)
   else
   bif !a then
    bif bh != 0 then
    kr (.inl 22)
    else
    bif b' then
     bif decide (aS<0) then
     kr (.inl 22)
     else
     bif decide (aS≥i) then
      kr (.inl 22)
     else
      bif !b' then
      bif aS != 0 then
       kr (.inl 22)
      else
       kr (.inr ())
      else
      kr (.inr ())
    else
     bif !b' then
     bif aS != 0 then
      kr (.inl 22)
     else
      kr (.inr ())
     else
     kr (.inr ())
   else
    bif b' then
    bif decide (aS<0) then
     kr (.inl 22)
    else
     bif decide (aS≥i) then
     kr (.inl 22)
     else
     bif !b' then
      bif aS != 0 then
      kr (.inl 22)
      else
      kr (.inr ())
     else
      kr (.inr ())
    else
    bif !b' then
     bif aS != 0 then
     kr (.inl 22)
     else
     kr (.inr ())
    else
     kr (.inr ())
  else
  bif !a then
   bif bh != 0 then
   kr (.inl 22)
   else
   bif b' then
    bif decide (aS<0) then
    kr (.inl 22)
    else
    bif decide (aS≥i) then
     kr (.inl 22)
    else
     bif !b' then
     bif aS != 0 then
      kr (.inl 22)
     else
      kr (.inr ())
     else
     kr (.inr ())
   else
    bif !b' then
    bif aS != 0 then
     kr (.inl 22)
    else
     kr (.inr ())
    else
    kr (.inr ())
  else
   bif b' then
   bif decide (aS<0) then
    kr (.inl 22)
   else
    bif decide (aS≥i) then
    kr (.inl 22)
    else
    bif !b' then
     bif aS != 0 then
     kr (.inl 22)
     else
     kr (.inr ())
    else
     kr (.inr ())
   else
   bif !b' then
    bif aS != 0 then
    kr (.inl 22)
    else
    kr (.inr ())
   else
    kr (.inr ())
noncomputable def iv (C:ae) (ay i:Int) (a b':Bool) (t17:LV) (t18 t19:Int) (t55:Bool) (fv:LV) (fw bn aY bh aS:Int) {β:Type} (kr:((Int) ⊕ (Unit))→Option β):Option β:=
 bif t55 then
  kr (.inl 22)
 else
  bif bn==3 then
  bif decide (aY<0) then
   uD C ay i a b' t17 t18 t19 true fv fw bn aY bh aS (bN (fun lq=>
    kr (.inl lq)) (fun _=>
    kr (.inr ())))
  else
   bif decide (aY≥ay) then
   uD C ay i a b' t17 t18 t19 true fv fw bn aY bh aS (bN (fun kI=>
    kr (.inl kI)) (fun _=>
    kr (.inr ())))
   else
   bif bn != 3 then
    uD C ay i a b' t17 t18 t19 (aY != 0) fv fw bn aY bh aS (bN (fun od=>
     kr (.inl od)) (fun _=>
     kr (.inr ())))
   else
    uD C ay i a b' t17 t18 t19 false fv fw bn aY bh aS (bN (fun qy=>
     kr (.inl qy)) (fun _=>
     kr (.inr ())))
  else
  bif bn != 3 then
   uD C ay i a b' t17 t18 t19 (aY != 0) fv fw bn aY bh aS (bN (fun kJ=>
    kr (.inl kJ)) (fun _=>
    kr (.inr ())))
  else
   uD C ay i a b' t17 t18 t19 false fv fw bn aY bh aS (bN (fun oe=>
    kr (.inl oe)) (fun _=>
    kr (.inr ())))
noncomputable def Hf (C:ae) (ay:Int) (t17:LV) (t18:Int) (fv:LV) (fw t19:Int) {β:Type} (kn:Int→Option β) (kr:((Int) ⊕ (Int×Bool))→Option β):Option β:=
 bif decide (t19<t18) then
  (idx t17 t19).bind fun x2=>
  bif (((x2.cell 0).toInt):Int)==5 then
  bif (((x2.cell 0).toInt):Int)==5 then
   bif decide ((((x2.cell 0).toInt):Int)<1) then
   iv C ay t19 true true t17 t18 t19 true fv fw ((x2.cell 0).toInt) ((x2.cell 1).toInt) ((x2.cell 2).toInt) ((x2.cell 3).toInt) (bN (fun rH=>
    kr (.inl rH)) (fun _=>
    kn (wrap .i64 (t19+1))))
   else
   iv C ay t19 true true t17 t18 t19 (decide ((((x2.cell 0).toInt):Int)>8)) fv fw ((x2.cell 0).toInt) ((x2.cell 1).toInt) ((x2.cell 2).toInt) ((x2.cell 3).toInt) (bN (fun xU=>
    kr (.inl xU)) (fun _=>
    kn (wrap .i64 (t19+1))))
  else
   bif (((x2.cell 0).toInt):Int)==6 then
   bif decide ((((x2.cell 0).toInt):Int)<1) then
    iv C ay t19 true true t17 t18 t19 true fv fw ((x2.cell 0).toInt) ((x2.cell 1).toInt) ((x2.cell 2).toInt) ((x2.cell 3).toInt) (bN (fun xV=>
     kr (.inl xV)) (fun _=>
     kn (wrap .i64 (t19+1))))
   else
    iv C ay t19 true true t17 t18 t19 (decide ((((x2.cell 0).toInt):Int)>8)) fv fw ((x2.cell 0).toInt) ((x2.cell 1).toInt) ((x2.cell 2).toInt) ((x2.cell 3).toInt) (bN (fun xW=>
     kr (.inl xW)) (fun _=>
     kn (wrap .i64 (t19+1))))
   else
   bif decide ((((x2.cell 0).toInt):Int)<1) then
    iv C ay t19 true ((((x2.cell 0).toInt):Int)==7) t17 t18 t19 true fv fw ((x2.cell 0).toInt) ((x2.cell 1).toInt) ((x2.cell 2).toInt) ((x2.cell 3).toInt) (bN (fun oU=>
     kr (.inl oU)) (fun _=>
     kn (wrap .i64 (t19+1))))
   else
    iv C ay t19 true ((((x2.cell 0).toInt):Int)==7) t17 t18 t19 (decide ((((x2.cell 0).toInt):Int)>8)) fv fw ((x2.cell 0).toInt) ((x2.cell 1).toInt) ((x2.cell 2).toInt) ((x2.cell 3).toInt) (bN (fun Am=>
     kr (.inl Am)) (fun _=>
     kn (wrap .i64 (t19+1))))
  else
  bif (((x2.cell 0).toInt):Int)==6 then
   bif (((x2.cell 0).toInt):Int)==5 then
   bif decide ((((x2.cell 0).toInt):Int)<1) then
    iv C ay t19 true true t17 t18 t19 true fv fw ((x2.cell 0).toInt) ((x2.cell 1).toInt) ((x2.cell 2).toInt) ((x2.cell 3).toInt) (bN (fun An=>
     kr (.inl An)) (fun _=>
     kn (wrap .i64 (t19+1))))
   else
    iv C ay t19 true true t17 t18 t19 (decide ((((x2.cell 0).toInt):Int)>8)) fv fw ((x2.cell 0).toInt) ((x2.cell 1).toInt) ((x2.cell 2).toInt) ((x2.cell 3).toInt) (bN (fun wc=>
     kr (.inl wc)) (fun _=>
     kn (wrap .i64 (t19+1))))
   else
   bif (((x2.cell 0).toInt):Int)==6 then
    bif decide ((((x2.cell 0).toInt):Int)<1) then
    iv C ay t19 true true t17 t18 t19 true fv fw ((x2.cell 0).toInt) ((x2.cell 1).toInt) ((x2.cell 2).toInt) ((x2.cell 3).toInt) (bN (fun aeR=>
     kr (.inl aeR)) (fun _=>
     kn (wrap .i64 (t19+1))))
    else
    iv C ay t19 true true t17 t18 t19 (decide ((((x2.cell 0).toInt):Int)>8)) fv fw ((x2.cell 0).toInt) ((x2.cell 1).toInt) ((x2.cell 2).toInt) ((x2.cell 3).toInt) (bN (fun NV=>
     kr (.inl NV)) (fun _=>
     kn (wrap .i64 (t19+1))))
   else
    bif decide ((((x2.cell 0).toInt):Int)<1) then
    iv C ay t19 true ((((x2.cell 0).toInt):Int)==7) t17 t18 t19 true fv fw ((x2.cell 0).toInt) ((x2.cell 1).toInt) ((x2.cell 2).toInt) ((x2.cell 3).toInt) (bN (fun V0=>
     kr (.inl V0)) (fun _=>
     kn (wrap .i64 (t19+1))))
    else
    iv C ay t19 true ((((x2.cell 0).toInt):Int)==7) t17 t18 t19 (decide ((((x2.cell 0).toInt):Int)>8)) fv fw ((x2.cell 0).toInt) ((x2.cell 1).toInt) ((x2.cell 2).toInt) ((x2.cell 3).toInt) (bN (fun Hg=>
     kr (.inl Hg)) (fun _=>
     kn (wrap .i64 (t19+1))))
  else
   bif (((x2.cell 0).toInt):Int)==7 then
   bif (((x2.cell 0).toInt):Int)==5 then
    bif decide ((((x2.cell 0).toInt):Int)<1) then
    iv C ay t19 true true t17 t18 t19 true fv fw ((x2.cell 0).toInt) ((x2.cell 1).toInt) ((x2.cell 2).toInt) ((x2.cell 3).toInt) (bN (fun NT=>
     kr (.inl NT)) (fun _=>
     kn (wrap .i64 (t19+1))))
    else
    iv C ay t19 true true t17 t18 t19 (decide ((((x2.cell 0).toInt):Int)>8)) fv fw ((x2.cell 0).toInt) ((x2.cell 1).toInt) ((x2.cell 2).toInt) ((x2.cell 3).toInt) (bN (fun V1=>
     kr (.inl V1)) (fun _=>
     kn (wrap .i64 (t19+1))))
   else
    bif (((x2.cell 0).toInt):Int)==6 then
    bif decide ((((x2.cell 0).toInt):Int)<1) then
     iv C ay t19 true true t17 t18 t19 true fv fw ((x2.cell 0).toInt) ((x2.cell 1).toInt) ((x2.cell 2).toInt) ((x2.cell 3).toInt) (bN (fun Hh=>
      kr (.inl Hh)) (fun _=>
      kn (wrap .i64 (t19+1))))
    else
     iv C ay t19 true true t17 t18 t19 (decide ((((x2.cell 0).toInt):Int)>8)) fv fw ((x2.cell 0).toInt) ((x2.cell 1).toInt) ((x2.cell 2).toInt) ((x2.cell 3).toInt) (bN (fun aeS=>
      kr (.inl aeS)) (fun _=>
      kn (wrap .i64 (t19+1))))
    else
    bif decide ((((x2.cell 0).toInt):Int)<1) then
     iv C ay t19 true ((((x2.cell 0).toInt):Int)==7) t17 t18 t19 true fv fw ((x2.cell 0).toInt) ((x2.cell 1).toInt) ((x2.cell 2).toInt) ((x2.cell 3).toInt) (bN (fun Hi=>
      kr (.inl Hi)) (fun _=>
      kn (wrap .i64 (t19+1))))
    else
     iv C ay t19 true ((((x2.cell 0).toInt):Int)==7) t17 t18 t19 (decide ((((x2.cell 0).toInt):Int)>8)) fv fw ((x2.cell 0).toInt) ((x2.cell 1).toInt) ((x2.cell 2).toInt) ((x2.cell 3).toInt) (bN (fun NW=>
      kr (.inl NW)) (fun _=>
      kn (wrap .i64 (t19+1))))
   else
   bif (((x2.cell 0).toInt):Int)==5 then
    bif decide ((((x2.cell 0).toInt):Int)<1) then
    iv C ay t19 ((((x2.cell 0).toInt):Int)==8) true t17 t18 t19 true fv fw ((x2.cell 0).toInt) ((x2.cell 1).toInt) ((x2.cell 2).toInt) ((x2.cell 3).toInt) (bN (fun V2=>
     kr (.inl V2)) (fun _=>
     kn (wrap .i64 (t19+1))))
    else
    iv C ay t19 ((((x2.cell 0).toInt):Int)==8) true t17 t18 t19 (decide ((((x2.cell 0).toInt):Int)>8)) fv fw ((x2.cell 0).toInt) ((x2.cell 1).toInt) ((x2.cell 2).toInt) ((x2.cell 3).toInt) (bN (fun V3=>
     kr (.inl V3)) (fun _=>
     kn (wrap .i64 (t19+1))))
   else
    bif (((x2.cell 0).toInt):Int)==6 then
    bif decide ((((x2.cell 0).toInt):Int)<1) then
     iv C ay t19 ((((x2.cell 0).toInt):Int)==8) true t17 t18 t19 true fv fw ((x2.cell 0).toInt) ((x2.cell 1).toInt) ((x2.cell 2).toInt) ((x2.cell 3).toInt) (bN (fun V4=>
      kr (.inl V4)) (fun _=>
      kn (wrap .i64 (t19+1))))
    else
     iv C ay t19 ((((x2.cell 0).toInt):Int)==8) true t17 t18 t19 (decide ((((x2.cell 0).toInt):Int)>8)) fv fw ((x2.cell 0).toInt) ((x2.cell 1).toInt) ((x2.cell 2).toInt) ((x2.cell 3).toInt) (bN (fun aoZ=>
      kr (.inl aoZ)) (fun _=>
      kn (wrap .i64 (t19+1))))
    else
    bif decide ((((x2.cell 0).toInt):Int)<1) then
     iv C ay t19 ((((x2.cell 0).toInt):Int)==8) ((((x2.cell 0).toInt):Int)==7) t17 t18 t19 true fv fw ((x2.cell 0).toInt) ((x2.cell 1).toInt) ((x2.cell 2).toInt) ((x2.cell 3).toInt) (bN (fun ao0=>
      kr (.inl ao0)) (fun _=>
      kn (wrap .i64 (t19+1))))
    else
     iv C ay t19 ((((x2.cell 0).toInt):Int)==8) ((((x2.cell 0).toInt):Int)==7) t17 t18 t19 (decide ((((x2.cell 0).toInt):Int)>8)) fv fw ((x2.cell 0).toInt) ((x2.cell 1).toInt) ((x2.cell 2).toInt) ((x2.cell 3).toInt) (bN (fun V5=>
      kr (.inl V5)) (fun _=>
      kn (wrap .i64 (t19+1))))
 else
  kr (.inr (t19,decide (t19<t18)))
noncomputable def V6 (C:ae) (ay:Int) (t17:LV) (t18:Int) (fv:LV) (fw:Int):=fun t19=>Hf C ay t17 t18 fv fw t19 (fun y=>some (Sum.inl y)) (fun r=>some (Sum.inr r))
noncomputable def V7 (C:ae):cE:=gG 1039 TJ [[0],[1,5,6,7,9,10]] (@uD C) (gG 895 TK [[0],[1,5,6,7,9,10]] (@iv C) (bG 97 TL [EQ,EQ,EQ,H1,EQ,EQ] [[0],[1,2,3,0,0,5,6]] (@Hf C) bm))
theorem ao1 (C:ae):aW C (V7 C) 12 (Cd 64 [1,1,1,0,1,0,0,1,1,0,0,1,1,0,1,1,1,0] [1,1,1,0,1,0,0,1,1,0,0,1,1,0,1,1,1,1] 12):=gF TJ [[0],[1,5,6,7,9,10]] (@uD C) (aG an) (aG an)
theorem ao2 (C:ae):aW C (V7 C) 12 (Cd 55 [1,1,1,0,1,0,0,1,1,0,0,1,1,0,1,0] [1,1,1,0,1,0,0,1,1,0,0,1,1,0,1,1] 12):=gF TK [[0],[1,5,6,7,9,10]] (@iv C) (aG an) (aG (aU (ao1 C) an))
theorem ao3 (C:ae):aW C (V7 C) 12 (Lp [1,1,1,0,1,0,0] 12):=bE TL [EQ,EQ,EQ,H1,EQ,EQ] [[0],[1,2,3,0,0,5,6]] (@Hf C) (aG (aU (ao2 C) an))
noncomputable def aeT (C:ae) (eR:LV) (jT ay:Int):Option LV:=
 (C zT [V.int .i64 ay]).bind fun r1=>
 bif !((V.nth r1 0).toBool) then
  some [V.int .i64 1]
 else
  bif decide ((eR.length:Int)>20000) then
  some [V.int .i64 3]
  else
  (Loop (V6 C ay eR (eR.length:Int) eR jT) 0).bind (bN (fun aeU=>
   some [V.int .i64 aeU]) (un fun (ao4:Int) (ay6:Bool)=>
   bif decide (jT<0) then
    some [V.int .i64 22]
   else
    bif decide (jT≥(eR.length:Int)) then
    some [V.int .i64 22]
    else
    some [V.int .i64 0]))
theorem ao5 {eR:LV} {jT ay:Int} {r:Option LV} (h:aeT CC eR jT ay=r):CC Mw [.list jy eR,V.int .i64 jT,V.int .i64 ay]=r:=bj (aU (ao3 CC) an) h
def s6 (op:Nat):Nat:=if 5≤op then (if op=8 then 1 else 2) else 0
theorem NX {op:Nat} (h:op≤8):CC zS [.int .i64 (op:Int)]=some [.int .i64 (s6 op:Int)]:=by
 refine aoR ?_;rcases (by omega:op=0∨op=1∨op=2∨op=3∨op=4∨op=5∨op=6∨op=7∨op=8) with rfl|rfl|rfl|rfl|rfl|rfl|rfl|rfl|rfl<;>rfl
theorem aeV {p i:Nat} {b:Bool} (h1:b=true→p<i) (h2:b=false→p=0):CC F8 [.int .i64 (p:Int),.int .i64 (i:Int),.bool b]=some [.bool true]:=by
 refine aoS ?_;unfold aeO;cases b with
 | true=>
  refine bT rfl (bT (bU (by omega)) ?_);rw[bU (by have:=h1 rfl;omega)]
 | false=>
  refine bF rfl ?_;rw[h2 rfl];rfl
theorem ao6 {d:Nd} {L i:Nat} (h:d.Ok L i):CC MC [.int .i64 (d.op:Int),.int .i64 (d.x:Int),.int .i64 (d.a:Int),.int .i64 (d.b:Int),.int .i64 (i:Int),.int .i64 (L:Int)]=some [.bool true]:=by
 have o1:=h.o1;have o8:=h.o8;refine aoV ?_;unfold aeP;refine bF (cJ (by omega)) (bF (cJ (by omega)) ?_);have key: ∀{β:Type} (K:Bool ⊕ Unit→Option β),Hd CC (i:Int) (L:Int) ((d.op:Int)==3) (d.op:Int) (d.x:Int) (d.a:Int) (d.b:Int) K=K (.inr ()):=by
  intro β K;unfold Hd;by_cases h3:d.op=3
  ·have:=h.x1 h3;exact bT (by simp[h3]) (bF (cJ (by omega)) (bF (cJ (by omega)) rfl))
  ·have:=h.x0 h3;exact bF (by simp;omega) (bF (by simp[this]) rfl)
 rw[key];simp only[bN];refine bs (NX o8) ?_;rw[V.ct,V.toInt_int];have e1:decide ((s6 d.op:Int)≥1)=decide (5≤d.op):=by
  unfold s6;by_cases h5:5≤d.op
  ·rw[ah h5,bU h5];by_cases h8:d.op=8<;>simp[h8]
  ·rw[ag h5,cJ h5];simp
 have e2:((s6 d.op:Int)==2)=decide (5≤d.op∧d.op≠8):=by
  unfold s6;by_cases h5:5≤d.op
  ·rw[ah h5];by_cases h8:d.op=8<;>simp[h5,h8]
  ·rw[ag h5,cJ (fun h=>h5 h.1)];rfl
 rw[e1];refine bs (aeV (fun hb=>h.a1 (D0 hb)) (fun hb=>h.a0 (by have:=of_decide_eq_false hb;omega))) (bT rfl ?_);refine bs (NX o8) ?_;rw[V.ct,V.toInt_int,e2];refine bs (aeV (fun hb=>h.b1 (D0 hb).1 (D0 hb).2) (fun hb=>h.b0 (by have:=of_decide_eq_false hb;omega))) ?_;rfl
theorem Nd.cells {d:Nd}:(d.v.cell 0).toInt=(d.op:Int)∧(d.v.cell 1).toInt=(d.x:Int)∧(d.v.cell 2).toInt=(d.a:Int)∧(d.v.cell 3).toInt=(d.b:Int):=⟨rfl,rfl,rfl,rfl⟩
section
variable {g:List Nd} {L r:Nat} (h:xT g L) (hr:r<g.length)
include h hr
theorem ao7:CC My [.list jy (g.map Nd.v),.int .i64 (r:Int),.int .i64 (L:Int)]=some [.int .i64 0]:=by
 have l1:=h.l1;have l2:=h.l2;have n1:=h.n1;have n2:=h.n2;refine aoY ?_;unfold aeQ;rw[cH];refine bF (cJ (by omega)) (bF (cJ (by omega)) (bF (cJ (by omega)) ?_));refine bs (eh g.length (fun i=>(i:Int)) (.inr ((g.length:Int),false)) (fun i hi=> ?_) ?_) ?_
 ·simp only[VZ,He];refine bT (cN hi) ?_;refine bs (h.get hi) ?_;simp only[Nd.cells];refine bs (ao6 (h.nd i hi)) (bF rfl ?_);rw[cG (by omega)]
 ·simp only[VZ,He];refine bF (bp (az _)) ?_;rw[bp (az _)]
 ·simp only[bN,un];exact bF (cJ (by omega)) (bF (cJ (by omega)) rfl)
end
theorem ao8 {L:Nat} (l1:1≤L) (l2:L≤6):CC zT [.int .i64 (L:Int)]=some [.bool true]:=by
 refine aez ?_;rcases (by omega:L=1∨L=2∨L=3∨L=4∨L=5∨L=6) with rfl|rfl|rfl|rfl|rfl|rfl<;>rfl
theorem aeW {i a b:Nat} {A B:Bool} (ha:A=true→a<i) (zn:A=false→a=0) (hb:B=true→b<i) (eG:B=false→b=0) {β:Type} {l1 l2:LV} {k1 k2 k3 k4 k5 k6:Int} (K:Int ⊕ Unit→Option β):
  uD CC k1 (i:Int) A B l1 k2 k3 false l2 k4 k5 k6 (a:Int) (b:Int) K=K (.inr ()):=by
 unfold uD;cases A<;>cases B
 ·have:=zn rfl;have:=eG rfl;subst a;subst b;rfl
 ·have h1:=zn rfl;have h2:=hb rfl;subst a
  have e1:decide ((b:Int)<0)=false:=cJ (by omega);have e2:decide ((b:Int)≥(i:Int))=false:=cJ (by omega);simp[e1,e2];omega
 ·have h1:=ha rfl;have h2:=eG rfl;subst b
  have e1:decide ((a:Int)<0)=false:=cJ (by omega);have e2:decide ((a:Int)≥(i:Int))=false:=cJ (by omega);simp[e1,e2];omega
 ·have h1:=ha rfl;have h2:=hb rfl
  have e1:decide ((a:Int)<0)=false:=cJ (by omega);have e2:decide ((a:Int)≥(i:Int))=false:=cJ (by omega);have e3:decide ((b:Int)<0)=false:=cJ (by omega);have e4:decide ((b:Int)≥(i:Int))=false:=cJ (by omega);simp only[e1,e2,e3,e4,cond_true,cond_false,D4]
theorem ao9 {L i op x a b:Nat} {A B:Bool} (ha:A=true→a<i) (zn:A=false→a=0) (hb:B=true→b<i) (eG:B=false→b=0) (hx:op=3→x<L) (sG:op≠3→x=0) {β:Type} {l1 l2:LV} {k2 k3 k4:Int} (K:Int ⊕ Unit→Option β):
  iv CC (L:Int) (i:Int) A B l1 k2 k3 false l2 k4 (op:Int) (x:Int) (a:Int) (b:Int) K=K (.inr ()):=by
 unfold iv;refine bF rfl ?_;by_cases h3:op=3
 ·have:=hx h3;refine bT (by simp[h3]) (bF (cJ (by omega)) (bF (cJ (by omega)) (bF (by simp[h3]) ?_)));rw[aeW ha zn hb eG];rfl
 ·have h4:=sG h3;refine bF (by simp;omega) (bT (by simp;omega) ?_);rw[show ((x:Int) != 0)=false by simp[h4],aeW ha zn hb eG];rfl
section
variable {g:List Nd} {L r:Nat} (h:xT g L) (hr:r<g.length)
include h hr
theorem apa:CC Mw [.list jy (g.map Nd.v),.int .i64 (r:Int),.int .i64 (L:Int)]=some [.int .i64 0]:=by
 have l1:=h.l1;have l2:=h.l2;have n1:=h.n1;have n2:=h.n2;refine ao5 ?_;unfold aeT;refine bs (ao8 l1 l2) (bF rfl ?_);rw[cH];refine bF (cJ (by omega)) ?_;refine bs (eh g.length (fun i=>(i:Int)) (.inr ((g.length:Int),false)) (fun i hi=> ?_) ?_) ?_
 ·simp only[V6,Hf];refine bT (cN hi) ?_;refine bs (h.get hi) ?_;simp only[Nd.cells];have hd:=h.nd i hi;generalize g[i]=d at hd;obtain ⟨op,x,a,b⟩:=d;obtain ⟨o1,o8,x1,x0,a1,a0,b1,b0⟩:=hd;simp only at o1 o8 x1 x0 a1 a0 b1 b0⊢;have hw:wrap .i64 ((i:Int)+1)=((i+1:Nat):Int):=cG (by omega);have bq: ∀k:Nat,((op:Int)==(k:Int))=decide (op=k):=fun k=>by rw[nJ];simp;omega
  have b5:((op:Int)==5)=decide (op=5):=bq 5;have b6:((op:Int)==6)=decide (op=6):=bq 6;have b7:((op:Int)==7)=decide (op=7):=bq 7;have b8:((op:Int)==8)=decide (op=8):=bq 8;have bl:decide ((op:Int)<1)=false:=cJ (by omega);have bg:decide ((op:Int)>8)=false:=cJ (by omega);simp only[b5,b6,b7,b8,bl,bg,cond_false];rcases (by omega:op=1∨op=2∨op=3∨op=4∨op=5∨op=6∨op=7∨op=8) with rfl|rfl|rfl|rfl|rfl|rfl|rfl|rfl
  all_goals
   simp only[Nat.reduceEqDiff,wK,decide_false,cond_true,cond_false];rw[ao9 (L:=L) (by first|exact fun _=>a1 (by omega)|exact fun h=>by cases h) (by first|exact fun _=>a0 (by omega)|exact fun h=>by cases h) (by first|exact fun _=>b1 (by omega) (by omega)|exact fun h=>by cases h) (by first|exact fun _=>b0 (by omega)|exact fun h=>by cases h) x1 x0];simp only[bN,hw]
 ·simp only[V6,Hf];refine bF (bp (az _)) ?_;rw[bp (az _)]
 ·simp only[bN,un];exact bF (cJ (by omega)) (bF (cJ (by omega)) rfl)
end
def Hj (w:List UInt8) (i:Nat):Int:=((w.getD i 0).toNat:Int)-97
def Hk (w:List UInt8) (L:Int):Prop:=1≤L∧L≤6∧w.length≤2048∧∀i,i<w.length→0≤Hj w i∧Hj w i<L
instance (w:List UInt8) (L:Int):Decidable (Hk w L):=by unfold Hk;infer_instance
def ep (L:Nat) (f:Nat→Nat):V:= .list aF (tab L fun x=>iV (f x))
def Da.bI (a:Da):List V:=tab a.n fun q=>V.bool (a.fin q)
def Da.bz (a:Da):List V:=tab a.n fun q=>ep a.L (a.nx q)
@[simp] theorem Da.pJ {a:Da}:a.bI.length=a.n:=by simp[Da.bI]
@[simp] theorem Da.V8 {a:Da}:a.bz.length=a.n:=by simp[Da.bz]
@[simp] theorem kj {L:Nat} {f:Nat→Nat}:(ep L f).toList=tab L fun x=>iV (f x):=by simp[ep]
def dN (a:Da) (l:List V):List V:= .int .i64 a.L:: .int .i64 a.st:: .list ao a.bI:: .list ar a.bz::l
def dh (a:Da):List V:=dN a []
theorem Da.Ok.leaves {a:Da} (h:a.Ok) (l:List V):CJ a.df l=dN a l:=by
 unfold CJ dN;have e1:a.df.F.map V.bool=a.bI:=CK _ false;have e2:a.df.N.map qz=a.bz:=by
  unfold Da.bz;rw[CK _ [],show a.df.N.length=a.n by simp[Da.df,h.nN]];refine dR fun q hq=> ?_;have dz:q<a.N.length:=by rw[h.nN];exact hq
  unfold qz ep;rw[show a.df.N.getD q []=uA (a.N.getD q []) by simp[Da.df,dz],CK _ 0];have hl:(uA (a.N.getD q [])).length=a.L:=by simp only[uA,cH];exact Da.GZ h hq
  rw[hl];exact congrArg _ (dR fun x _=>by rw[aeE];rfl)
 rw[e1,e2];rfl
theorem Da.nq {a:Da} {q:Nat} (hq:q<a.n):idx a.bI (q:Int)=some (.bool (a.fin q)):=np hq
theorem Da.jU {a:Da} {q:Nat} (hq:q<a.n):idx a.bz (q:Int)=some (ep a.L (a.nx q)):=np hq
theorem mG {L x:Nat} {f:Nat→Nat} (hx:x<L):idx (tab L fun x=>iV (f x)) (x:Int)=some (iV (f x)):=np hx
theorem uE {a:Da} (h:a.Ok):CC rz (dh a)=some [.int .i64 0]:=by
 have:=aot h.VU;rwa [h.val,h.leaves] at this
def lets (w:List UInt8):List Nat:=w.map fun b=>b.toNat-97
theorem aeX {w:List UInt8}:(lets w).length=w.length:=by simp[lets]
theorem apb {w:List UInt8} {i:Nat} (hi:i<w.length) (h:0≤Hj w i):(((lets w).getD i 0:Nat):Int)=Hj w i:=by
 unfold lets Hj at*
 rw[fG (by simpa using hi),fG hi] at*
 simp only[List.getElem_map];omega
theorem Hk.WL {w:List UInt8} {L:Nat} (h:Hk w (L:Int)):WL L (lets w):=fun x hx=>by
 obtain ⟨i,hi,rfl⟩:=Ef hx;rw[aeX] at hi;obtain ⟨h1,h2⟩:=h.2.2.2 i hi;have:=apb hi h1;rw[fG (by rw[aeX];exact hi)] at this;omega
section
variable {a:Da} (h:a.Ok) {w:List UInt8} (hw:Hk w (a.L:Int)) {q:Nat} (hq:q<a.n)
include h hw hq
end
section
variable {α:Type} (ke:α→V)
def gK (i:Nat):List α→List V
 | []=>[]
 | a::S=> .bK [ke a,iV (i:Int)]::gK (i+1) S
where iV (n:Int):V:= .int .i64 n
end
theorem CQ {α:Type} {ke:α→V}: ∀(S:List α) (i:Nat),(gK ke i S).length=S.length
 | [],_=>rfl
 | a::S,i=>by simp[gK,CQ S (i+1)]
section
variable {α:Type} [DecidableEq α] {ke:α→V}
variable (hk: ∀a b,il (ke a) (ke b)=decide (a=b))
include hk
theorem qB (x:α): ∀(S:List α) (i:Nat),ez (ke x) (gK ke i S)=decide (x∈S)
 | [],_=>by simp[gK,ez]
 | a::S,i=>by
  have c: ∀(p q:V),(V.bK [p,q]).comp 0=p:=fun p q=>rfl;rw[gK,ez,c,hk,qB x S (i+1)];rw[nJ];simp
theorem uF (x:α) (z:V): ∀(S:List α) (i:Nat),x∈S→fO (ke x) (gK ke i S) z= .int .i64 ((i+S.idxOf x:Nat):Int)
 | [],_,h=>by cases h
 | a::S,i,h=>by
  have c: ∀(p q:V),(V.bK [p,q]).comp 0=p:=fun p q=>rfl;have c1: ∀(p q:V),(V.bK [p,q]).comp 1=q:=fun p q=>rfl;rw[gK,fO,c,c1,hk];by_cases e:x=a
  ·subst e;rw[bU rfl];simp[gK.iV]
  ·rw[cJ e,cond_false,uF x z S (i+1) ((iR.1 h).resolve_left e),show (a::S).idxOf x=S.idxOf x+1 from by rw[List.idxOf_cons,show (a==x)=false from beq_eq_false_iff_ne.2 fun h=>e h.symm];rfl];congr 2;omega
theorem uG (x:α): ∀(S:List α) (i:Nat),x∉S→eB (ke x) (.int .i64 ((i+S.length:Nat):Int)) (gK ke i S)=gK ke i (S++[x])
 | [],i,_=>by simp[gK,eB,gK.iV]
 | a::S,i,h=>by
  have c: ∀(p q:V),(V.bK [p,q]).comp 0=p:=fun p q=>rfl;have e:x≠a:=fun e=>h (by simp[e]);rw[gK,eB,c,hk,cJ e,cond_false,List.cons_append,gK];congr 1;have:=uG x S (i+1) fun hx=>h (by simp[hx]);rw[←this];simp only[List.length_cons];congr 3;omega
end
theorem apc (a b:Nat):il (.int .i64 (a:Int)) (.int .i64 (b:Int))=decide (a=b):=by
 simp only[il,V.cells,nM,se,yG];rw[nJ];simp;omega
theorem apd (a b:Nat):il (.int .u64 (a:Int)) (.int .u64 (b:Int))=decide (a=b):=by
 simp only[il,V.cells,nM,se,yG];rw[nJ];simp;omega
theorem ape (a b:Nat×Nat):il (.agg [.int .i64 (a.1:Int),.int .i64 (a.2:Int)]) (.agg [.int .i64 (b.1:Int),.int .i64 (b.2:Int)])=decide (a=b):=by
 simp only[il,V.cells,nM,se,yG];rw[nJ];simp[Prod.ext_iff];omega
theorem km {n:Nat} (h:n≤1000000000000):cw .i64 (n:Int)=true:=by
 have e1:IntKind.min .i64= -9223372036854775808:=by decide
 have e2:IntKind.max .i64=9223372036854775807:=by decide
 unfold cw;rw[e1,e2];exact lH.2 ⟨bU (by omega),bU (by omega)⟩
theorem CR {n:Nat} (h:n<2^64):cw .u64 (n:Int)=true:=by
 have e1:IntKind.min .u64=0:=by decide
 have e2:IntKind.max .u64=18446744073709551615:=by decide
 unfold cw;rw[e1,e2];exact lH.2 ⟨bU (by omega),bU (by omega)⟩
theorem CS {α:Type} [DecidableEq α] {S:List α} {a:α}:(dj S a).idxOf a=if a∈S then S.idxOf a else S.length:=by
 unfold dj;split
 ·rfl
 ·rename_i h;rw[yM,ag h];simp
noncomputable def aeY (C:ae) (q x cy cz:Int) (iD iw:LV):Option LV:=
 (idx iw q).bind fun x1=>
 (idx x1.toList x).bind fun x2=>
 some [V.int .i64 x2.toInt,V.int .i64 cy,V.int .i64 cz,.list ao iD,.list ar iw]
theorem apf {q x cy cz:Int} {iD iw:LV} {r:Option LV} (h:aeY CC q x cy cz iD iw=r):CC vY [V.int .i64 q,V.int .i64 x,V.int .i64 cy,V.int .i64 cz,.list ao iD,.list ar iw]=r:=bj (L:=bm) an h
noncomputable def aeZ (C:ae) (q oj om:Int) (mH nr:LV):Option LV:=
 (idx mH q).bind fun x1=>
 some [.bool x1.toBool,V.int .i64 oj,V.int .i64 om,.list ao mH,.list ar nr]
theorem apg {q oj om:Int} {mH nr:LV} {r:Option LV} (h:aeZ CC q oj om mH nr=r):CC vZ [V.int .i64 q,V.int .i64 oj,V.int .i64 om,.list ao mH,.list ar nr]=r:=bj (L:=bm) an h
noncomputable def ae0 (C:ae) (x:Int) (aR:LV):Option LV:=
 bif cw .i64 x&&true then
  bif cw .i64 x&&true then
  bif Nat.ble ((aR.length+([V.int .i64 x]:LV).length)*8) aX then
   some [V.int .i64 (aR.length:Int),.list aF (aR++([V.int .i64 x]:LV)),.list iO (eB (V.int .i64 x) (V.int .i64 (aR.length:Int)) ([]:LV))]
  else none
  else none
 else none
theorem aph {x:Int} {aR:LV} {r:Option LV} (h:ae0 CC x aR=r):CC Gz [V.int .i64 x,.list aF aR]=r:=bj (L:=bm) an h
noncomputable def ae1 (C:ae) (x:Int) (aR ca:LV):Option LV:=
 bif cw .i64 x&&true then
  bif !(ez (V.int .i64 x) ca) then
  bif cw .i64 x&&true then
   bif Nat.ble ((aR.length+([V.int .i64 x]:LV).length)*8) aX then
   some [V.int .i64 (aR.length:Int),.list iO (eB (V.int .i64 x) (V.int .i64 (aR.length:Int)) ca),.list aF (aR++([V.int .i64 x]:LV))]
   else none
  else none
  else
  some [V.int .i64 ((fO (V.int .i64 x) ca (V.int .i64 0)).toInt),.list iO ca,.list aF aR]
 else none
theorem api {x:Int} {aR ca:LV} {r:Option LV} (h:ae1 CC x aR ca=r):CC SV [V.int .i64 x,.list aF aR,.list iO ca]=r:=bj (L:=bm) an h
noncomputable def Hl (C:ae) (ay i state t36 lx ly aP aT:Int) (cx bJ cM dO:LV) (t37 gV gW:Int) (gZ g9 rows cd bS:LV) {β:Type} (kn:(Int×Int×Int×LV×LV×LV×LV×LV)→Option β) (kr:(Int×Bool×Int×Int×LV×LV×LV×LV×LV)→Option β):Option β:=
 bif decide (t37<t36) then
  (C vY [V.int .i64 state,V.int .i64 t37,V.int .i64 gV,V.int .i64 gW,.list ao gZ,.list ar g9]).bind fun r3=>
  (C SV [V.int .i64 ((V.nth r3 0).toInt),.list aF cd,.list iO bS]).bind fun r4=>
  aq rows t37 fun x5=>
  kn (wrap .i64 (t37+1),(V.nth (r3.drop 1) 0).toInt,(V.nth ((r3.drop 1).drop 1) 0).toInt,(V.nth (((r3.drop 1).drop 1).drop 1) 0).toList,(V.nth ((((r3.drop 1).drop 1).drop 1).drop 1) 0).toList,aI rows t37 (V.int .i64 ((V.nth r4 0).toInt)),(V.nth ((r4.drop 1).drop 1) 0).toList,(V.nth (r4.drop 1) 0).toList)
 else
  kr (t37,decide (t37<t36),gV,gW,gZ,g9,rows,cd,bS)
noncomputable def NY (C:ae) (ay i state t36 lx ly aP aT:Int) (cx bJ cM dO:LV):=un fun t37=>un fun gV=>un fun gW=>un fun gZ=>un fun g9=>un fun rows=>un fun cd bS=>Hl C ay i state t36 lx ly aP aT cx bJ cM dO t37 gV gW gZ g9 rows cd bS (fun y=>some (Sum.inl y)) (fun r=>some (Sum.inr r))
noncomputable def Hm (C:ae) (ay lx ly aP aT:Int) (bQ cx:LV) (i gV gW:Int) (gZ g9 bJ cd bS cM:LV) {β:Type} (kn:(Int×Int×Int×LV×LV×LV×LV×LV×LV)→Option β) (kr:((Int×Int×Int×LV×LV×Int×Int×LV×LV×LV) ⊕ (Int×Bool×Int×Int×LV×LV×LV×LV×LV×LV))→Option β):Option β:=
 bif decide (i<(bJ.length:Int)) then
  aq bJ i fun x2=>
  bif (decide (0≤ay))&&((decide (ay≤ay))&&(Nat.ble ((ay.toNat)*8) aX)) then
  (Loop (NY C ay i x2.toInt ((List.replicate (ay.toNat) (V.int .i64 0)).length:Int) lx ly aP aT bQ cx bS cM) (0,gV,gW,gZ,g9,List.replicate (ay.toNat) (V.int .i64 0),bJ,cd)).bind (un fun qy=>un fun (kJ:Bool)=>un fun xX=>un fun Hn=>un fun (Ho:LV)=>un fun (Hp:LV)=>un fun (ae2:LV)=>un fun (xY:LV) (we:LV)=>
   bif decide ((xY.length:Int)>512) then
    kr (.inl (3,xX,Hn,Ho,Hp,0,0,([]:LV),([]:LV),([]:LV)))
   else
    bif Nat.ble ((cM.length+([.list aF ae2]:LV).length)*24) aX then
    (C vZ [V.int .i64 x2.toInt,V.int .i64 xX,V.int .i64 Hn,.list ao Ho,.list ar Hp]).bind fun fx=>
    bif Nat.ble ((bS.length+([.bool ((V.nth fx 0).toBool)]:LV).length)*1) aX then
     kn (wrap .i64 (i+1),(V.nth (fx.drop 1) 0).toInt,(V.nth ((fx.drop 1).drop 1) 0).toInt,(V.nth (((fx.drop 1).drop 1).drop 1) 0).toList,(V.nth ((((fx.drop 1).drop 1).drop 1).drop 1) 0).toList,xY,we,bS++([.bool ((V.nth fx 0).toBool)]:LV),cM++([.list aF ae2]:LV))
    else none
    else none)
  else none
 else
  kr (.inr (i,decide (i<(bJ.length:Int)),gV,gW,gZ,g9,bJ,cd,bS,cM))
noncomputable def NZ (C:ae) (ay lx ly aP aT:Int) (bQ cx:LV):=un fun i=>un fun gV=>un fun gW=>un fun gZ=>un fun g9=>un fun bJ=>un fun cd=>un fun bS cM=>Hm C ay lx ly aP aT bQ cx i gV gW gZ g9 bJ cd bS cM (fun y=>some (Sum.inl y)) (fun r=>some (Sum.inr r))
noncomputable def ae3 (C:ae):cE:=bG 161 U4 [EQ,EQ,EQ,EQ,H1,H1,H1,H1,H1,EQ,EQ,EQ,EQ,H1,EQ,EQ,H1,H1,EQ,EQ] [[1,2,3,4,0,0,0,0,0,0,10,11,12,13,0,15,16,0,0,19,20]] (@Hl C) (bG 81 U5 [EQ,H1,H1,H1,H1,H1,EQ,EQ,EQ,EQ,EQ,EQ,H1,H1,H1,H1] [[0,0,0,0,0,0,0,0,0,0],[1,0,0,0,0,0,0,7,8,9,10,11,12,0,0,0,0]] (@Hm C) bm)
theorem apj (C:ae):aW C (ae3 C) 103 (Lp [1,1,1,1,0,1,0,0,1,0,0,1,1,0,1,0,0] 103):=bE U4 [EQ,EQ,EQ,EQ,H1,H1,H1,H1,H1,EQ,EQ,EQ,EQ,H1,EQ,EQ,H1,H1,EQ,EQ] [[1,2,3,4,0,0,0,0,0,0,10,11,12,13,0,15,16,0,0,19,20]] (@Hl C) (aG an)
theorem apk (C:ae):aW C (ae3 C) 103 (Lp [1,1,1,1,0,1,0,0] 103):=bE U5 [EQ,H1,H1,H1,H1,H1,EQ,EQ,EQ,EQ,EQ,EQ,H1,H1,H1,H1] [[0,0,0,0,0,0,0,0,0,0],[1,0,0,0,0,0,0,7,8,9,10,11,12,0,0,0,0]] (@Hm C) (aG (aU (apj C) an))
noncomputable def ae4 (C:ae) (ay start gV gW:Int) (gZ g9:LV):Option LV:=
 (C Gz [V.int .i64 start,.list aF ([]:LV)]).bind fun r1=>
 (Loop (NZ C ay 0 0 ay 0 ([]:LV) ([]:LV)) (0,gV,gW,gZ,g9,(V.nth (r1.drop 1) 0).toList,(V.nth ((r1.drop 1).drop 1) 0).toList,([]:LV),([]:LV))).bind (bN (un fun wc=>un fun qC=>un fun Ao=>un fun (Hq:LV)=>un fun (ae5:LV)=>un fun V9=>un fun apl=>un fun (Hr:LV)=>un fun (Al:LV) (apm:LV)=>
  some [V.int .i64 V9,V.int .i64 apl,V.int .i64 wc,V.int .i64 qC,V.int .i64 Ao,.list ao Hq,.list ar ae5,.list ao Hr,.list ar Al,.list aF apm]) (un fun uH=>un fun (V2:Bool)=>un fun apn=>un fun apo=>un fun (apq:LV)=>un fun (apr:LV)=>un fun (Hs:LV)=>un fun (N0:LV)=>un fun (ae6:LV) (Ht:LV)=>
  some [V.int .i64 ay,V.int .i64 0,V.int .i64 0,V.int .i64 apn,V.int .i64 apo,.list ao apq,.list ar apr,.list ao ae6,.list ar Ht,.list aF Hs]))
theorem aps {ay start gV gW:Int} {gZ g9:LV} {r:Option LV} (h:ae4 CC ay start gV gW gZ g9=r):CC MY [V.int .i64 ay,V.int .i64 start,V.int .i64 gV,V.int .i64 gW,.list ao gZ,.list ar g9]=r:=bj (aU (apk CC) an) h
noncomputable def Hu (C:ae) (t31 cy cz gh gi:Int) (gx bQ cx bJ cd:LV) (t32:Int) (numbers:LV) {β:Type} (kn:(Int×LV)→Option β) (kr:(Int×Bool×LV)→Option β):Option β:=
 bif decide (t32<t31) then
  aq numbers t32 fun x3=>
  kn (wrap .i64 (t32+1),aI numbers t32 (V.int .i64 (-1)))
 else
  kr (t32,decide (t32<t31),numbers)
noncomputable def N3 (C:ae) (t31 cy cz gh gi:Int) (gx bQ cx bJ cd:LV):=un fun t32 numbers=>Hu C t31 cy cz gh gi gx bQ cx bJ cd t32 numbers (fun y=>some (Sum.inl y)) (fun r=>some (Sum.inr r))
noncomputable def Hv (C:ae) (t40 cy cz gh gi:Int) (Wa bQ cx bJ cd:LV) (t41:Int) (numbers:LV) {β:Type} (kn:(Int×LV)→Option β) (kr:(Int×Bool×LV)→Option β):Option β:=
 bif decide (t41<t40) then
  aq Wa t41 fun x7=>
  bif (decide (0≤x7.toInt))&&(decide (x7.toInt<(numbers.length:Int))) then
  (numbers[(x7.toInt:Int).toNat]?).bind fun x8=>
  kn (wrap .i64 (t41+1),aI numbers (x7.toInt) (V.int .i64 t41))
  else none
 else
  kr (t41,decide (t41<t40),numbers)
noncomputable def N4 (C:ae) (t40 cy cz gh gi:Int) (Wa bQ cx bJ cd:LV):=un fun t41 numbers=>Hv C t40 cy cz gh gi Wa bQ cx bJ cd t41 numbers (fun y=>some (Sum.inl y)) (fun r=>some (Sum.inr r))
noncomputable def ae7 (C:ae):cE:=bG 97 UP [EQ,H1,EQ,EQ,EQ,EQ,EQ,H1,EQ,EQ,EQ,EQ] [[1,0,0,3,4,5,6,7,0,9,10,11,12]] (@Hu C) (bG 177 UQ [EQ,H1,EQ,EQ,EQ,EQ,H1,EQ,EQ,EQ,EQ,EQ] [[1,0,0,3,4,5,6,0,8,9,10,11,12]] (@Hv C) bm)
theorem apt (C:ae):aW C (ae7 C) 92 (Lp [1,1,1,1,0,1,0,0] 92):=bE UP [EQ,H1,EQ,EQ,EQ,EQ,EQ,H1,EQ,EQ,EQ,EQ] [[1,0,0,3,4,5,6,7,0,9,10,11,12]] (@Hu C) (aG an)
theorem apu (C:ae):aW C (ae7 C) 92 (Lp [1,1,1,1,1,0,1,0,0] 92):=bE UQ [EQ,H1,EQ,EQ,EQ,EQ,H1,EQ,EQ,EQ,EQ,EQ] [[1,0,0,3,4,5,6,0,8,9,10,11,12]] (@Hv C) (aG an)
noncomputable def ae8 (C:ae) (bO bP:Int) (bu bY:LV):Option LV:=
 (C rz [V.int .i64 bO,V.int .i64 bP,.list ao bu,.list ar bY]).bind fun r1=>
 bif (((V.nth r1 0).toInt):Int) != 0 then
  some [V.int .i64 0,V.int .i64 0,.list ao ([]:LV),.list ar ([]:LV),.list aF ([]:LV)]
 else
  (C MY [V.int .i64 bO,V.int .i64 bP,V.int .i64 bO,V.int .i64 bP,.list ao bu,.list ar bY]).bind fun r2=>
  bif (decide (0≤(((V.nth (((r2.drop 3).drop 1).drop 1) 0).toList).length:Int)))&&((decide ((((V.nth (((r2.drop 3).drop 1).drop 1) 0).toList).length:Int)≤(((V.nth (((r2.drop 3).drop 1).drop 1) 0).toList).length:Int)))&&(Nat.ble ((((((V.nth (((r2.drop 3).drop 1).drop 1) 0).toList).length:Int):Int).toNat)*8) aX)) then
  (Loop (N3 C ((List.replicate (((((V.nth (((r2.drop 3).drop 1).drop 1) 0).toList).length:Int):Int).toNat) (V.int .i64 0)).length:Int) 0 0 ((V.nth r2 0).toInt) ((V.nth (r2.drop 1) 0).toInt) ((V.nth ((((r2.drop 3).drop 4).drop 1).drop 1) 0).toList) ([]:LV) ([]:LV) ((V.nth ((r2.drop 3).drop 4) 0).toList) ((V.nth (((r2.drop 3).drop 4).drop 1) 0).toList)) (0,List.replicate (((((V.nth (((r2.drop 3).drop 1).drop 1) 0).toList).length:Int):Int).toNat) (V.int .i64 0))).bind (un fun kI=>un fun (od:Bool) (apv:LV)=>
   (Loop (N4 C (((V.nth ((((r2.drop 3).drop 4).drop 1).drop 1) 0).toList).length:Int) 0 0 ((V.nth r2 0).toInt) ((V.nth (r2.drop 1) 0).toInt) ((V.nth ((((r2.drop 3).drop 4).drop 1).drop 1) 0).toList) ([]:LV) ([]:LV) ((V.nth ((r2.drop 3).drop 4) 0).toList) ((V.nth (((r2.drop 3).drop 4).drop 1) 0).toList)) (0,apv)).bind (un fun rH=>un fun (xU:Bool) (apw:LV)=>
    some [V.int .i64 ((V.nth r2 0).toInt),V.int .i64 ((V.nth (r2.drop 1) 0).toInt),.list ao ((V.nth ((r2.drop 3).drop 4) 0).toList),.list ar ((V.nth (((r2.drop 3).drop 4).drop 1) 0).toList),.list aF apw]))
  else none
theorem apx {bO bP:Int} {bu bY:LV} {r:Option LV} (h:ae8 CC bO bP bu bY=r):CC Cv [V.int .i64 bO,V.int .i64 bP,.list ao bu,.list ar bY]=r:=bj (aU (apt CC) (aU (apu CC) an)) h
def nV (q:Nat):V:= .int .i64 (q:Int)
def nS (S:List Nat):List V:=S.map nV
def mS (S:List Nat):List V:=gK nV 0 S
theorem CT (a b:Nat):il (nV a) (nV b)=decide (a=b):=apc a b
theorem s7 {S:List Nat}:(nS S).length=S.length:=by simp[nS]
theorem CU {S:List Nat} {i:Nat} (h:i<S.length):(nS S)[i]? =some (nV S[i]):=by simp[nS,h]
theorem apy {x:Nat} (hx:x≤1000000):CC Gz [nV x,.list aF []]=some [nV 0,.list aF (nS [x]),.list iO (mS [x])]:=by
 refine aph ?_;unfold ae0;rw[km (by omega)];exact bT rfl (bT rfl (bT (cap (by simp) (by omega)) rfl))
theorem apz {S:List Nat} {x:Nat} (hx:x≤1000000) (hl:S.length≤1000000):CC SV [nV x,.list aF (nS S),.list iO (mS S)]=some [nV ((dj S x).idxOf x),.list iO (mS (dj S x)),.list aF (nS (dj S x))]:=by
 refine api ?_;unfold ae1;have e1:=qB CT x S 0;rw[km (by omega)];refine bT rfl ?_;rw[CS];by_cases h:x∈S
 ·refine bF (by rw[show ez (.int .i64 (x:Int)) (mS S)=true from e1.trans (bU h)];rfl) ?_;have e2:=uF CT x (.int .i64 0) S 0 h;rw[show fO (.int .i64 (x:Int)) (mS S) (.int .i64 0)=_ from e2,ah h,ed,show dj S x=S by unfold dj;rw[ah h]];rfl
 ·refine bT (by rw[show ez (.int .i64 (x:Int)) (mS S)=false from e1.trans (cJ h)];rfl) ?_;refine bT rfl ?_;refine bT (cap (by rw[s7];simp;omega) (by omega)) ?_;have e2:=uG CT x S 0 h;rw[ed] at e2;rw[s7,show eB (.int .i64 (x:Int)) (.int .i64 (S.length:Int)) (mS S)=_ from e2,ag h,show dj S x=S++[x] by unfold dj;rw[ag h]];simp[nS,nV,mS]
theorem apA {a:Da} {q x:Nat} (hq:q<a.n) (hx:x<a.L):CC vY (nV q::nV x::dh a)=some (nV (a.nx q x)::dh a):=by
 refine apf ?_;unfold aeY;refine bs (Da.jU hq) ?_;rw[kj];exact bs (mG hx) rfl
theorem apB {a:Da} {q:Nat} (hq:q<a.n):CC vZ (nV q::dh a)=some (.bool (a.fin q)::dh a):=by
 refine apg ?_;unfold aeZ;exact bs (Da.nq hq) rfl
section
variable {a:Da} (h:a.Ok)
include h
theorem apC {S U:List Nat} {q:Nat} (hq:q<a.n) (hS: ∀s∈S,s<a.n) (hSn:S.length≤1000) (hp:aJ a.nx S q a.L <+: U) {i c1 c2:Int} {l1 l2 l3 l4:List V}:
  Loop (NY CC (a.L:Int) i (q:Int) ((List.replicate (((a.L:Nat):Int).toNat) (V.int .i64 0)).length:Int) c1 c2 (a.L:Int) 0 l1 l2 l3 l4) (0,(a.L:Int),(a.st:Int),a.bI,a.bz,List.replicate (((a.L:Nat):Int).toNat) (V.int .i64 0),nS S,mS S)=
   some ((a.L:Int),false,(a.L:Int),(a.st:Int),a.bI,a.bz,(tab a.L fun x=>nV (U.idxOf (a.nx q x))),nS (aJ a.nx S q a.L),mS (aJ a.nx S q a.L)):=by
 have h6:=h.l6;rw[Int.toNat_natCast,lu,db];refine (eh a.L (fun x=>((x:Int),(a.L:Int),(a.st:Int),a.bI,a.bz,(tab a.L fun j=>if j<x then nV (U.idxOf (a.nx q j)) else nV 0),nS (aJ a.nx S q x),mS (aJ a.nx S q x))) _ (fun x hx=> ?_) ?_)
 ·simp only[NY,Hl,un,aq,aI];refine bT (cN hx) ?_;refine bs (apA hq hx) ?_;have hT:(aJ a.nx S q x).length≤1000000:=by
   have: ∀x,(aJ a.nx S q x).length≤S.length+x:=by
    intro x
    induction x with
    | zero=>exact az _
    | succ x ih=>rw[aJ,qv];split<;>omega
   have:=this x;omega
  refine bs (apz (S:=aJ a.nx S q x) (by have:=h.fL hq hx;have:=h.cU;omega) hT) ?_;refine (fu hx).trans ?_;rw[cG (by omega),Int.toNat_natCast,nn];have e:(dj (aJ a.nx S q x) (a.nx q x)).idxOf (a.nx q x)=U.idxOf (a.nx q x):=(uz ((rG S q (show x+1≤a.L by omega)).trans hp) uy).symm;show some (Sum.inl _)=some (Sum.inl _);refine congrArg (fun x=>some (Sum.inl x)) ?_;refine gk rfl (gk rfl (gk rfl (gk rfl (gk rfl (gk ?_ (gk rfl rfl))))));refine dR fun j _=> ?_;by_cases hj:j=x
  ·rw[ah hj,br,hj,←e];rfl
  ·rw[ag hj];by_cases cS:j<x
   ·rw[ah cS,br]
   ·rw[ag cS,cl]
 ·simp only[NY,Hl,un,aq,aI];refine bF (bp (az _)) ?_;rw[bp (az _)];have:(tab a.L fun j=>if j<a.L then nV (U.idxOf (a.nx q j)) else nV 0)=tab a.L fun j=>nV (U.idxOf (a.nx q j)):=dR fun j hj=>ah hj;rw[this]
theorem apD:CC MY ([nV a.L,nV a.st]++dh a)=some ([nV a.L,nV 0,.int .i64 0]++(dh a++[.list ao a.trim.bI,.list ar a.trim.bz,.list aF (nS (aj a.L a.nx a.st a.n))])):=by
 have h6:=h.l6;have hm:=h.cU;have hd:=h.qw a.n;refine aps ?_;unfold ae4;refine bs (apy (by have:=h.s;omega)) ?_;have key:Loop (NZ CC (a.L:Int) 0 0 (a.L:Int) 0 ([]:List V) ([]:List V)) (0,(a.L:Int),(a.st:Int),a.bI,a.bz,nS [a.st],mS [a.st],([]:List V),([]:List V))=
   some (.inr (((aj a.L a.nx a.st a.n).length:Int),false,(a.L:Int),(a.st:Int),a.bI,a.bz,nS (aj a.L a.nx a.st a.n),mS (aj a.L a.nx a.st a.n),a.trim.bI,a.trim.bz)):=by
  refine (eh (aj a.L a.nx a.st a.n).length (fun i=>((i:Int),(a.L:Int),(a.st:Int),a.bI,a.bz,nS (aj a.L a.nx a.st i),mS (aj a.L a.nx a.st i),(tab i fun j=>V.bool (a.trim.fin j)),(tab i fun j=>ep a.L (a.trim.nx j)))) _ (fun i hi=> ?_) ?_)
  ·have eP:=xR hd hi;have s8:(aj a.L a.nx a.st i)[i]=(aj a.L a.nx a.st a.n)[i]:=(lp (show i≤a.n by omega)).getElem eP;have hq:(aj a.L a.nx a.st a.n)[i]<a.n:=h.Ai _ _ (ff hi);have hlen:(aj a.L a.nx a.st i).length≤512:=kP (h.qw i) hm;have ay7:(aj a.L a.nx a.st (i+1)).length≤512:=kP (h.qw (i+1)) hm;have gS:=Af hd hi;simp only[NZ,Hm,un,aq];refine bT (bU (by rw[s7];omega)) ?_;refine (eo (CU eP)).trans ?_;refine bT (mE (by omega) (by omega)) ?_;rw[s8];refine bs (apC h hq (h.Ai i) (by omega) (U:=aj a.L a.nx a.st a.n) (by rw[←gS];exact lp (by omega))) ?_;rw[←gS];refine bF (cJ (by rw[s7];omega)) ?_;refine bT (cap (by rw[db];simp;omega) (by omega)) ?_;refine bs (apB hq) ?_;refine bT (cap (by rw[db];simp;omega) (by omega)) ?_;rw[cG (by omega),gg,gg];have e1:a.trim.fin i=a.fin (aj a.L a.nx a.st a.n)[i]:=Ag hi;have e2:ep a.L (a.trim.nx i)= .list aF (tab a.L fun x=>nV ((aj a.L a.nx a.st a.n).idxOf (a.nx (aj a.L a.nx a.st a.n)[i] x))):=by
    unfold ep;refine congrArg _ (dR fun x hx=> ?_);rw[show a.trim.nx i x=_ from v9 hi hx];rfl
   rw[e1,e2];rfl
  ·simp only[NZ,Hm,un,aq];rw[Ah hd,s7];refine bF (bp (az _)) ?_;rw[bp (az _)];have e3:a.trim.n=(aj a.L a.nx a.st a.n).length:=nk;unfold Da.bI Da.bz;rw[e3];rfl
 refine bs key ?_;rfl
end
def lT (U:List Nat) (n:Nat):List V:=tab n fun q=>if q∈U then nV (U.idxOf q) else .int .i64 (-1)
theorem ae9 {U:List Nat} {n i:Nat} (hU:U.Nodup) (hi:i<U.length):(tab n fun q=>if q∈U.take i then nV (U.idxOf q) else V.int .i64 (-1)).set U[i] (.int .i64 (i:Int))=tab n fun q=>if q∈U.take (i+1) then nV (U.idxOf q) else V.int .i64 (-1):=by
 rw[nn];refine dR fun q _=> ?_;have e:q∈U.take (i+1)↔q∈U.take i∨q=U[i]:=by rw[Kt hi,eW,jF]
 by_cases hq:q=U[i]
 ·rw[ah hq,ah (e.2 (.inr hq)),hq,hU.idxOf_getElem i hi];rfl
 ·rw[ag hq];by_cases h2:q∈U.take i
  ·rw[ah h2,ah (e.2 (.inl h2))]
  ·rw[ag h2,ag fun h3=>(e.1 h3).elim h2 hq]
theorem afa {a:Da} (h:a.Ok):CC Cv (dh a)=some (dh a.trim++[.list aF (lT (aj a.L a.nx a.st a.n) a.n)]):=by
 have hm:=h.cU;have hU:=h.Ai a.n;have hle:=h.qw a.n;refine apx ?_;unfold ae8;refine bs (uE h) ?_;refine bF rfl ?_;refine bs (apD h) ?_;have e0:((V.nth (((([nV a.L,nV 0,V.int .i64 0]++(dh a++[V.list ao a.trim.bI,V.list ar a.trim.bz,V.list aF (nS (aj a.L a.nx a.st a.n))])).drop 3).drop 1).drop 1) 0).toList)=a.bI:=rfl;rw[e0,Da.pJ];refine bT (mE (by omega) (by omega)) ?_;rw[Int.toNat_natCast,lu,db];generalize hUd:aj a.L a.nx a.st a.n=U at*
 have l1: ∀{c1 c2 c3 c4:Int} {s1 s2 s3 s4 s5:List V},Loop (N3 CC (a.n:Int) c1 c2 c3 c4 s1 s2 s3 s4 s5) (0,tab a.n fun _=>V.int .i64 0)=some ((a.n:Int),false,tab a.n fun q=>if q∈U.take 0 then nV (U.idxOf q) else V.int .i64 (-1)):=by
  intro c1 c2 c3 c4 s1 s2 s3 s4 s5;refine (eh a.n (fun i=>((i:Int),(tab a.n fun j=>if j<i then V.int .i64 (-1) else V.int .i64 0))) _ (fun i hi=> ?_) ?_)
  ·simp only[N3,Hu,un,aq,aI];refine bT (cN hi) ?_;refine (fu hi).trans ?_;rw[cG (by omega),Int.toNat_natCast,nn];refine congrArg (fun x=>some (Sum.inl (((i+1:Nat):Int),x))) (dR fun j _=> ?_);by_cases hj:j=i
   ·rw[ah hj,br]
   ·rw[ag hj];by_cases cS:j<i
    ·rw[ah cS,br]
    ·rw[ag cS,cl]
  ·simp only[N3,Hu,un,aq,aI];refine bF (bp (az _)) ?_;rw[bp (az _)];refine congrArg (fun x=>some (Sum.inr ((a.n:Int),false,x))) (dR fun j hj=> ?_);rw[ah hj,List.take_zero,ag (by simp)]
 refine bs l1 ?_;simp only[un];have Wb:U.Nodup:=by rw[←hUd];exact Ae _
 have l2: ∀{c1 c2 c3 c4:Int} {s2 s3 s4 s5:List V},Loop (N4 CC ((nS U).length:Int) c1 c2 c3 c4 (nS U) s2 s3 s4 s5) (0,tab a.n fun q=>if q∈U.take 0 then nV (U.idxOf q) else V.int .i64 (-1))=some ((U.length:Int),false,lT U a.n):=by
  intro c1 c2 c3 c4 s2 s3 s4 s5;rw[s7];refine (eh U.length (fun i=>((i:Int),(tab a.n fun q=>if q∈U.take i then nV (U.idxOf q) else V.int .i64 (-1)))) _ (fun i hi=> ?_) ?_)
  ·have hq:=hU U[i] (ff hi);simp only[N4,Hv,un,aq,aI];refine bT (cN hi) ?_;refine (eo (CU hi)).trans ?_;refine (fu (i:=U[i]) hq).trans ?_;rw[cG (by omega)];refine congrArg (fun x=>some (Sum.inl (((i+1:Nat):Int),x))) ?_;exact ae9 Wb hi
  ·simp only[N4,Hv,un,aq,aI];refine bF (bp (az _)) ?_;rw[bp (az _),u0];rfl
 refine bs l2 ?_;rfl
end Go.AM
set_option maxRecDepth 100000
namespace Go.AM
open Go.IntKind (wrap)
section
variable {β:Type} [DecidableEq β]
def bA (g:Nat→β):Nat→List β
 | 0=>[]
 | n+1=>dj (bA g n) (g n)
theorem Wc (g:Nat→β): ∀n,(bA g n).Nodup
 | 0=>List.nodup_nil
 | n+1=>ael (Wc g n)
theorem lU {g:Nat→β} {v:β}: ∀{n},v∈bA g n↔∃q,q<n∧g q=v
 | 0=>⟨fun h=>(by cases h),fun ⟨q,h,_⟩=>(by omega)⟩
 | n+1=>by
  have ih:=lU (g:=g) (v:=v) (n:=n);rw[bA];unfold dj;constructor
  ·intro h;split at h
   ·obtain ⟨q,h1,h2⟩:=ih.1 h;exact ⟨q,by omega,h2⟩
   ·rcases eW.1 h with h|h
    ·obtain ⟨q,h1,h2⟩:=ih.1 h;exact ⟨q,by omega,h2⟩
    ·exact ⟨n,by omega,(jF.1 h).symm⟩
  ·rintro ⟨q,h1,h2⟩;rcases fH q n with c|c
   ·exact (NM (bA g n) (g n)).subset (ih.2 ⟨q,c,h2⟩)
   ·obtain rfl:q=n:=by omega
    rw[←h2];exact uy
theorem apE {g:Nat→β} {m n:Nat} (h:m≤n):bA g m <+: bA g n:=by
 induction n with
 | zero=>rw[tx.1 h];exact lG _
 | succ n ih=>
  rcases fH m (n+1) with c|c
  ·exact (ih (by omega)).trans (NM _ _)
  ·rw[show m=n+1 by omega];exact lG _
theorem wg (g:Nat→β): ∀n,(bA g n).length≤n
 | 0=>az _
 | n+1=>by
  have:=wg g n;rw[bA,qv];split<;>omega
def dF (g:Nat→β) (n q:Nat):Nat:=(bA g n).idxOf (g q)
theorem Hw {g:Nat→β} {n q:Nat} (h:q<n):dF g n q<(bA g n).length:=yN (lU.2 ⟨q,h,rfl⟩)
theorem Hy {g:Nat→β} {n p q:Nat} (hp:p<n) (hq:q<n):dF g n p=dF g n q↔g p=g q:=by
 constructor
 ·intro h;have h1:=Kr (Hw (g:=g) hp);have h2:=Kr (Hw (g:=g) hq);rw[←h1,←h2];exact getElem_congr_idx h
 ·intro h;unfold dF;rw[h]
theorem Hz {g:Nat→β} {m n q:Nat} (h:q<m) (hm:m≤n):dF g n q=dF g m q:=uz (apE hm) (lU.2 ⟨q,h,rfl⟩)
theorem Wd {g:Nat→β} {q:Nat} (h:g q∈bA g q):bA g (q+1)=bA g q:=by rw[bA];unfold dj;rw[ah h]
theorem N5 {g:Nat→β} {q:Nat} (h:g q∉bA g q):bA g (q+1)=bA g q++[g q]:=by rw[bA];unfold dj;rw[ag h]
theorem afb {g:Nat→β} {n q:Nat} (hq:q<n) (h:g q∈bA g q):dF g n q=(bA g q).idxOf (g q):=by
 rw[Hz (show q<q+1 by omega) (by omega)];unfold dF;rw[Wd h]
theorem afc {g:Nat→β} {n q:Nat} (hq:q<n) (h:g q∉bA g q):dF g n q=(bA g q).length:=by
 rw[Hz (show q<q+1 by omega) (by omega)];unfold dF;rw[N5 h,yM,ag h];simp
def rJ (p:Nat→Nat) (n:Nat):Prop:= ∀m,m≤n→bA p m=List.range (bA p m).length
theorem afd (g:Nat→β) (n:Nat): ∀m,m≤n→bA (dF g n) m=List.range (bA g m).length:=by
 intro m
 induction m with
 | zero=>intro _;rfl
 | succ m ih=>
  intro hm;have ih:=ih (by omega);have e1:dF g n m=dF g (m+1) m:=Hz (by omega) hm;have e2:dF g (m+1) m=if g m∈bA g m then (bA g m).idxOf (g m) else (bA g m).length:=by
   unfold dF;rw[bA];unfold dj;split
   ·rfl
   ·rename_i h;rw[yM,ag h];simp
  rw[bA,ih,bA,qv];unfold dj;by_cases h:g m∈bA g m
  ·have:=yN h;rw[ah h] at e2;rw[ah h,ah (by rw[e1,e2];exact jG.2 this)]
  ·rw[ag h] at e2;rw[ag h,ag (by rw[e1,e2];simp),e1,e2,yO]
theorem We (g:Nat→β) (n:Nat):rJ (dF g n) n:=fun m hm=>by
 rw[afd g n m hm,List.length_range]
theorem Wf {γ:Type} [DecidableEq γ] {f:Nat→β} {c:Nat→γ} {n:Nat} (hr: ∀q q',q<n→q'<n→f q=f q'→c q=c q') (hl:(bA f n).length≤(bA c n).length):
  ∀q q',q<n→q'<n→c q=c q'→f q=f q':=by
 intro q q' hq dz hc;refine Decidable.byContradiction fun hf=> ?_;have rep: ∀v∈bA f n,∃q,q<n∧f q=v:=fun v hv=>lU.1 hv;have: ∃R:β→Nat,∀v∈bA f n,R v<n∧f (R v)=v:=by
  classical
  refine ⟨fun v=>if h:v∈bA f n then Classical.choose (rep v h) else 0,fun v hv=> ?_⟩;simp only[hv,rW];exact Classical.choose_spec (rep v hv)
 obtain ⟨R,hR⟩:=this;have lf:bA c n ⊆ ((bA f n).filter fun v=>decide (v≠f q')).map fun v=>c (R v):=by
  intro u hu;obtain ⟨s,hs,rfl⟩:=lU.1 hu;by_cases h:f s=f q'
  ·refine j5.2 ⟨f q,List.mem_filter.2 ⟨lU.2 ⟨q,hq,rfl⟩,bU hf⟩,?_⟩;have h1:=hR (f q) (lU.2 ⟨q,hq,rfl⟩);rw[hr _ _ h1.1 hq h1.2,hc,hr _ _ hs dz h]
  ·refine j5.2 ⟨f s,List.mem_filter.2 ⟨lU.2 ⟨s,hs,rfl⟩,bU h⟩,?_⟩;have h1:=hR (f s) (lU.2 ⟨s,hs,rfl⟩);exact hr _ _ h1.1 hs h1.2
 have h1:=List.Nodup.length_le_of_subset (Wc c n) lf;rw[cH] at h1;have h2:((bA f n).filter fun v=>decide (v≠f q')).length<(bA f n).length:=by
  have hm:f q'∈bA f n:=lU.2 ⟨q',dz,rfl⟩;have bf:=List.length_filter_lt_length_iff_exists (p:=fun v=>decide (v≠f q')) (l:=bA f n);exact bf.2 ⟨f q',hm,by simp⟩
 omega
theorem afe {γ:Type} [DecidableEq γ] {f:Nat→β} {c:Nat→γ} {n:Nat} (hr: ∀q q',q<n→q'<n→f q=f q'→c q=c q'):(bA c n).length≤(bA f n).length:=by
 rcases fH (bA f n).length (bA c n).length with h|h
 ·have:=Wf hr (by omega);have rep: ∀v∈bA f n,∃q,q<n∧f q=v:=fun v hv=>lU.1 hv;have: ∃R:β→Nat,∀v∈bA f n,R v<n∧f (R v)=v:=by
   classical
   refine ⟨fun v=>if h:v∈bA f n then Classical.choose (rep v h) else 0,fun v hv=> ?_⟩;simp only[hv,rW];exact Classical.choose_spec (rep v hv)
  obtain ⟨R,hR⟩:=this;have lf:bA c n ⊆ (bA f n).map fun v=>c (R v):=by
   intro u hu;obtain ⟨s,hs,rfl⟩:=lU.1 hu;have h1:=hR (f s) (lU.2 ⟨s,hs,rfl⟩);exact j5.2 ⟨f s,lU.2 ⟨s,hs,rfl⟩,hr _ _ h1.1 hs h1.2⟩
  have h1:=List.Nodup.length_le_of_subset (Wc c n) lf;rw[cH] at h1;omega
 ·exact h
theorem apF {γ:Type} [DecidableEq γ] {f:Nat→β} {c:Nat→γ} {n:Nat} (h: ∀q q',q<n→q'<n→(f q=f q'↔c q=c q')): ∀q,q<n→dF f n q=dF c n q:=by
 have key: ∀m,m≤n→(bA f m).length=(bA c m).length∧∀q,q<m→dF f m q=dF c m q:=by
  intro m
  induction m with
  | zero=>intro _;exact ⟨rfl,fun q hq=>by omega⟩
  | succ m ih=>
   intro hm;obtain ⟨i1,i2⟩:=ih (by omega);have oL:f m∈bA f m↔c m∈bA c m:=by
    rw[lU,lU];exact ⟨fun ⟨q,h1,h2⟩=>⟨q,h1,(h q m (by omega) (by omega)).1 h2⟩,fun ⟨q,h1,h2⟩=>⟨q,h1,(h q m (by omega) (by omega)).2 h2⟩⟩
   refine ⟨?_,fun q hq=> ?_⟩
   ·rw[bA,bA,qv,qv,i1];by_cases hx:f m∈bA f m
    ·rw[ah hx,ah (oL.1 hx)]
    ·rw[ag hx,ag fun h=>hx (oL.2 h)]
   ·rcases fH q m with c1|c1
    ·exact (Hz (g:=f) c1 (by omega)).trans ((i2 q c1).trans (Hz (g:=c) c1 (by omega)).symm)
    ·obtain rfl:q=m:=by omega
     unfold dF;rw[bA,bA];by_cases hx:f q∈bA f q
     ·obtain ⟨r,h1,h2⟩:=lU.1 hx;have h3:=(h r q (by omega) (by omega)).1 h2;have:=i2 r h1;unfold dF at this;unfold dj;rw[ah hx,ah (oL.1 hx),←h2,←h3,this]
     ·unfold dj;rw[ag hx,ag fun h=>hx (oL.2 h),yM,yM,ag hx,ag fun h=>hx (oL.2 h)];simp[i1]
 exact (key n (az _)).2
end
namespace Da
structure Part (a:Da) (c:Nat→Nat):Prop where
 coarse: ∀q q',q<a.n→q'<a.n→a.rD q a q'→c q=c q'
 fin: ∀q q',q<a.n→q'<a.n→c q=c q'→a.fin q=a.fin q'
def sig (a:Da) (c:Nat→Nat) (q:Nat):List Nat:=c q::(List.range a.L).map fun x=>c (a.nx q x)
theorem Ap {a:Da} {c:Nat→Nat} {q q':Nat}:a.sig c q=a.sig c q'↔c q=c q'∧∀x,x<a.L→c (a.nx q x)=c (a.nx q' x):=by
 unfold sig;rw[yF];refine and_congr Iff.rfl ⟨fun h x hx=> ?_,fun h=>rZ fun x hx=>h x (jG.1 hx)⟩;have:=congrArg (fun l=>l.getD x 0) h;simpa[hx] using this
def N6 (a:Da) (c f:Nat→Nat):Prop:= ∀q q',q<a.n→q'<a.n→(f q=f q'↔a.sig c q=a.sig c q')
theorem N6.part {a:Da} {c f:Nat→Nat} (h:a.N6 c f) (ha:a.Ok) (hc:a.Part c):a.Part f where
 coarse q q' hq dz he:=(h q q' hq dz).2 (Ap.2 ⟨hc.coarse q q' hq dz he,fun x hx=>hc.coarse _ _ (ha.fL hq hx) (ha.fL dz hx) (he.nx hx)⟩)
 fin q q' hq dz he:=hc.fin q q' hq dz (Ap.1 ((h q q' hq dz).1 he)).1
def Aq (a:Da) (p:Nat→Nat):Prop:=(∀q q',q<a.n→q'<a.n→(p q=p q'↔a.rD q a q'))∧rJ p a.n
theorem Part.aff {a:Da} {c:Nat→Nat} (hc:a.Part c) (ha:a.Ok) (hs: ∀q q',q<a.n→q'<a.n→c q=c q'→a.sig c q=a.sig c q'): ∀q q',q<a.n→q'<a.n→(c q=c q'↔a.rD q a q'):=by
 intro q q' hq dz;refine ⟨fun h w=> ?_,hc.coarse q q' hq dz⟩
 induction w generalizing q q' with
 | nil=>intro _;rw[rE,rE];exact hc.fin q q' hq dz h
 | cons x w ih=>
  intro hw;rw[NL,NL];exact ih _ _ (ha.fL hq hw.head) (ha.fL dz hw.head) ((Ap.1 (hs q q' hq dz h)).2 x hw.head) hw.tail
def fy (p:Nat→Nat):Nat→List Nat
 | 0=>[]
 | n+1=>if p n∈bA p n then fy p n else fy p n++[n]
theorem N7 {p:Nat→Nat}: ∀n,(fy p n).map p=bA p n
 | 0=>rfl
 | n+1=>by
  rw[fy,bA];unfold dj;split
  ·exact N7 n
  ·rw[qS,N7 n];rfl
theorem CV {p:Nat→Nat} {n:Nat}:(fy p n).length=(bA p n).length:=by rw[←N7,cH]
theorem Ar {p:Nat→Nat}: ∀{n q},q∈fy p n→q<n
 | 0,q,h=>by cases h
 | n+1,q,h=>by
  rw[fy] at h;split at h
  ·have:=Ar h;omega
  ·rcases eW.1 h with h|h
   ·have:=Ar h;omega
   ·rw[jF.1 h];omega
theorem CW {p:Nat→Nat} {n:Nat} (ho:rJ p n) {c:Nat} (hc:c<(fy p n).length):p (fy p n)[c]=c:=by
 have h1:=ho n (az _);have h2:((fy p n).map p)[c]? =some c:=by rw[N7,h1,Ee (by rw[CV] at hc;exact hc)]
 rw[gD,cp hc] at h2;exact ew h2
theorem HA {p:Nat→Nat} {n q:Nat} (ho:rJ p n) (hq:q<n):p q<(fy p n).length:=by
 have h1:p q∈bA p n:=lU.2 ⟨q,hq,rfl⟩;rw[ho n (az _),jG] at h1;rw[CV];exact h1
def quo (a:Da) (p:Nat→Nat):Da where
 L:=a.L
 st:=p a.st
 F:=(fy p a.n).map a.fin
 N:=(fy p a.n).map fun q=>tab a.L fun x=>p (a.nx q x)
theorem wh {a:Da} {p:Nat→Nat}:(a.quo p).n=(fy p a.n).length:=by simp[quo,n]
theorem afg {a:Da} {p:Nat→Nat} {c:Nat} (hc:c<(fy p a.n).length):(a.quo p).fin c=a.fin (fy p a.n)[c]:=by
 show ((fy p a.n).map a.fin).getD c false=_;rw[fG (by simpa using hc),List.getElem_map]
theorem afh {a:Da} {p:Nat→Nat} {c x:Nat} (hc:c<(fy p a.n).length) (hx:x<a.L):(a.quo p).nx c x=p (a.nx (fy p a.n)[c] x):=by
 show (((fy p a.n).map fun q=>tab a.L fun x=>p (a.nx q x)).getD c []).getD x 0=_;rw[fG (l:=(fy p a.n).map fun q=>tab a.L fun x=>p (a.nx q x)) (by simpa using hc),List.getElem_map,xS hx]
section
variable {a:Da} {p:Nat→Nat} (ha:a.Ok) (hp:a.Aq p)
include ha hp
theorem N8:(a.quo p).Ok where
 l1:=ha.l1
 l6:=ha.l6
 nN:=by rw[wh];simp[quo]
 row r hr:=by
  rw[wh];obtain ⟨q,hq,rfl⟩:=j5.1 (show r∈(fy p a.n).map _ from hr);refine ⟨by simp[quo],fun s hs=> ?_⟩;obtain ⟨x,hx,rfl⟩:=uB.1 hs;exact HA hp.2 (ha.fL (Ar hq) hx)
 s:=by rw[wh];exact HA hp.2 ha.s
 cU:=by
  rw[wh,CV];have:=wg p a.n;have:=ha.cU;omega
theorem N9: ∀(w:List Nat) {q:Nat},q<a.n→WL a.L w→(a.quo p).acc (p q) w=a.acc q w
 | [],q,hq,_=>by
  have hc:=HA hp.2 hq;rw[rE,rE,afg hc];have h1:=(hp.1 _ _ (Ar (ff hc)) hq).1 (CW hp.2 hc);have:=h1 [] WL.nil;rwa [rE,rE] at this
 | x::w,q,hq,hw=>by
  have hc:=HA hp.2 hq;have hr:=Ar (ff hc);have h1:=(hp.1 _ _ hr hq).1 (CW hp.2 hc);have h2:=(hp.1 _ _ (ha.fL hr hw.head) (ha.fL hq hw.head)).2 (h1.nx hw.head);rw[NL,NL,afh hc hw.head,h2];exact N9 w (ha.fL hq hw.head) hw.tail
theorem apG: ∀c d,c<(a.quo p).n→d<(a.quo p).n→(a.quo p).rD c (a.quo p) d→c=d:=by
 intro c d hc hd he;rw[wh] at hc hd;have r1:=Ar (ff hc);have r2:=Ar (ff hd);rw[←CW hp.2 hc,←CW hp.2 hd];refine (hp.1 _ _ r1 r2).2 fun w hw=> ?_;rw[←N9 ha hp w r1 hw,←N9 ha hp w r2 hw,CW hp.2 hc,CW hp.2 hd];exact he w hw
theorem Wg:(a.quo p).trim.Canon a.L (a.acc a.st):=by
 have h:=(N8 ha hp).aok (apG ha hp);exact ⟨h.ok,h.hL,h.st,h.num,h.red,fun w hw=>(h.rF w hw).trans (N9 ha hp w ha.s hw)⟩
end
end Da
end Go.AM
