/-
  Functions of the program, lifted to plain data.
-/
import Derived.Test.YtppefogdkedaiaaGreatDoorProg
import Derived.Tactics
import Derived.Tactics2
import Derived.StillTactics
import Derived.Laws.Pointers
import Derived.Lib.LazyBuf
import Derived.RegionTactic
import Derived.LoopTactic
import Derived.WalkKit
import Derived.Laws.Externs
import Derived.Lib.Builder
import Derived.Recover
import Derived.Test.YtppefogdkedaiaaGreatDoorRows
import Derived.Lib.LaidTab
import Derived.LaidHandle
import Derived.MakeChecks
import Derived.Lay
import Derived.OpenShut
import Derived.ProofKit
import Derived.Handed
import Derived.Test.YtppefogdkedaiaaGreatDoorP3
set_option linter.unusedVariables false
set_option linter.unusedSimpArgs false
set_option maxRecDepth 100000
namespace Go.AM
open Go.Proofs
abbrev LI:FuncId:=4
abbrev GR:FuncId:=5
abbrev GS:FuncId:=6
abbrev GU:FuncId:=7
abbrev tj:FuncId:=8
abbrev GV:FuncId:=9
abbrev BF:FuncId:=12
abbrev GW:FuncId:=13
abbrev GX:FuncId:=14
abbrev yr:FuncId:=15
abbrev GY:FuncId:=16
abbrev yu:FuncId:=17
abbrev vu:FuncId:=18
abbrev GZ:FuncId:=19
abbrev vw:FuncId:=20
abbrev G0:FuncId:=21
abbrev BG:FuncId:=22
abbrev G1:FuncId:=23
abbrev yv:FuncId:=24
abbrev G2:FuncId:=25
abbrev yw:FuncId:=26
abbrev BH:FuncId:=27
abbrev o9:FuncId:=28
abbrev vy:FuncId:=29
abbrev mS:FuncId:=30
abbrev yx:FuncId:=31
abbrev G3:FuncId:=32
abbrev BI:FuncId:=33
abbrev G4:FuncId:=34
abbrev yz:FuncId:=35
abbrev BJ:FuncId:=36
abbrev vz:FuncId:=37
abbrev yA:FuncId:=38
abbrev kH:FuncId:=39
abbrev G5:FuncId:=40
abbrev G6:FuncId:=41
abbrev BK:FuncId:=42
abbrev BL:FuncId:=43
abbrev mT:FuncId:=44
abbrev qc:FuncId:=45
abbrev G7:FuncId:=46
abbrev pb:FuncId:=47
abbrev yB:FuncId:=48
abbrev kI:FuncId:=49
abbrev tk:FuncId:=50
abbrev G8:FuncId:=51
abbrev tm:FuncId:=52
abbrev qd:FuncId:=53
abbrev vA:FuncId:=54
abbrev lz:FuncId:=55
abbrev qe:FuncId:=56
abbrev qf:FuncId:=57
abbrev qg:FuncId:=58
abbrev qh:FuncId:=59
abbrev qi:FuncId:=60
abbrev qj:FuncId:=61
abbrev pc:FuncId:=62
abbrev yC:FuncId:=63
abbrev yD:FuncId:=64
abbrev G9:FuncId:=65
abbrev Ha:FuncId:=66
abbrev Hb:FuncId:=67
abbrev vB:FuncId:=68
abbrev qk:FuncId:=69
abbrev tn:FuncId:=70
abbrev rW:FuncId:=71
abbrev mf:FuncId:=72
abbrev BM:FuncId:=73
abbrev tp:FuncId:=74
abbrev yE:FuncId:=75
abbrev yF:FuncId:=76
abbrev mU:FuncId:=77
abbrev vC:FuncId:=78
abbrev ql:FuncId:=79
abbrev pd:FuncId:=80
abbrev Hc:FuncId:=82
abbrev Hd:FuncId:=83
abbrev BN:FuncId:=84
abbrev bn:FuncId:=85
abbrev He:FuncId:=86
abbrev qm:FuncId:=87
abbrev gI:FuncId:=89
abbrev BO:FuncId:=90
abbrev yG:FuncId:=91
abbrev Hf:FuncId:=92
abbrev BP:FuncId:=93
abbrev BQ:FuncId:=94
abbrev Hg:FuncId:=95
abbrev BR:FuncId:=96
abbrev Hh:FuncId:=97
abbrev Hi:FuncId:=98
abbrev vD:FuncId:=99
abbrev nW:FuncId:=100
abbrev Hj:FuncId:=102
abbrev BT:FuncId:=103
abbrev BU:FuncId:=104
abbrev Hk:FuncId:=105
abbrev Hl:FuncId:=106
abbrev yH:FuncId:=107
abbrev BV:FuncId:=108
abbrev yI:FuncId:=109
abbrev nX:TypeId:=3
abbrev mg:TypeId:=4
abbrev db:TypeId:=5
abbrev Ti:TypeId:=22
abbrev aa:TypeId:=24
abbrev dD:TypeId:=54
abbrev aD:TypeId:=58
abbrev eh:TypeId:=64
abbrev aJ:TypeId:=72
abbrev LJ:Nat:=131
abbrev BW:Nat:=132
abbrev Hm:Nat:=133
abbrev Hn:Nat:=134
abbrev Ho:Nat:=135
abbrev LL:Nat:=136
abbrev Hp:Nat:=137
abbrev LM:Nat:=138
abbrev LN:Nat:=139
abbrev LO:Nat:=140
abbrev LP:Nat:=141
abbrev Hq:Nat:=142
abbrev LQ:Nat:=143
abbrev Hr:Nat:=145
abbrev Hs:Nat:=146
def vE:List V:=[.int .u8 0,.int .u8 1,.int .u8 56,.int .u8 2,.int .u8 57,.int .u8 49,.int .u8 28,.int .u8 3,.int .u8 61,.int .u8 58,.int .u8 42,.int .u8 50,.int .u8 38,.int .u8 29,.int .u8 17,.int .u8 4,.int .u8 62,.int .u8 47,.int .u8 59,.int .u8 36,.int .u8 45,.int .u8 43,.int .u8 51,.int .u8 22,.int .u8 53,.int .u8 39,.int .u8 33,.int .u8 30,.int .u8 24,.int .u8 18,.int .u8 12,.int .u8 5,.int .u8 63,.int .u8 55,.int .u8 48,.int .u8 27,.int .u8 60,.int .u8 41,.int .u8 37,.int .u8 16,.int .u8 46,.int .u8 35,.int .u8 44,.int .u8 21,.int .u8 52,.int .u8 32,.int .u8 23,.int .u8 11,.int .u8 54,.int .u8 26,.int .u8 40,.int .u8 15,.int .u8 34,.int .u8 20,.int .u8 31,.int .u8 10,.int .u8 25,.int .u8 14,.int .u8 19,.int .u8 9,.int .u8 13,.int .u8 8,.int .u8 7,.int .u8 6]
abbrev af:VS:= .one (.int .i64)
abbrev aO:VS:= .one (.bool)
abbrev cF:VS:= .one (.list aa)
abbrev bE:VS:= .one (.whole aa 0)
abbrev cG:VS:= .one (.aY 0 0 0)
abbrev jX:VS:= .one (.str)
abbrev cQ:VS:= .one (.list aJ)
abbrev adj:VS:= .one (.whole aD 3)
abbrev gJ:VS:= .one (.aY 1 0 0)
abbrev fN:VS:= .one (.int .u64)
abbrev adk:VS:= .one (.whole aD 4)
abbrev vF:VS:= .one (.qV)
abbrev kJ:VS:= .one (.aY 2 0 0)
abbrev BX:VS:= .one (.whole aa 4)
abbrev BY:VS:= .one (.whole aa 1)
abbrev vG:VS:= .one (.cD eh 3)
abbrev Tj:VS:= .one (.whole aJ 4)
abbrev adl:VS:= .one (.whole db 2)
abbrev yJ:VS:= .one (.whole aa 5)
abbrev yK:VS:= .one (.whole aa 3)
abbrev BZ:VS:= .one (.whole aa 2)
abbrev vH:VS:= .one (.whole aa 6)
abbrev adm:VS:= .one (.whole aD 5)
abbrev LR:VS:= .one (.whole dD 5)
abbrev adn:VS:= .one (.whole db 3)
abbrev Tk:VS:= .one (.whole dD 2)
abbrev Tl:VS:= .one (.whole aJ 2)
abbrev Ht:VS:= .one (.aY 3 0 0)
abbrev ado:VS:= .one (.whole aJ 5)
abbrev Hu:VS:= .one (.whole aJ 0)
abbrev adp:VS:= .one (.whole db 1)
abbrev adq:VS:= .one (.whole aD 0)
abbrev Hv:VS:= .one (.whole dD 7)
abbrev LU:VS:= .one (.whole aD 2)
abbrev lA:VS:= .agg [.int .i64,.int .i64,.list aa]
abbrev LV:VS:= .agg [.str]
abbrev Hw:VS:= .agg [.int .i64,.int .i64,.list aa,.int .i64,.int .i64,.list aa,.bool]
abbrev adr:VS:= .agg [.int .i64,.bool]
abbrev Hy:VS:= .agg [.int .i64,.int .i64,.whole aa 0]
abbrev rX:BS:= .var 61 [adj]
abbrev ia:BS:= .var 24 [af,af,cF]
abbrev tq:BS:= .var 3 [af]
abbrev mV:BS:= .var 56 [jX]
abbrev vI:BS:= .var 61 [adk]
abbrev Hz:BS:= .var 4 [aO]
abbrev ads:BS:= .var 58 [Tj]
abbrev adt:BS:= .var 87 [vF,adl]
abbrev adu:BS:= .var 61 [adm]
abbrev adv:BS:= .var 87 [vF,adn]
abbrev LW:BS:= .var 127 [fN]
abbrev adw:BS:= .var 58 [ado]
abbrev B0:BS:= .var 77 [af,af,BX,af,af,yJ,aO]
abbrev adx:BS:= .var 68 [af,BY,Tk,af,vG]
abbrev ady:BS:= .var 87 [vF,adp]
abbrev adz:BS:= .var 68 [af,BX,LR,af,vG]
abbrev HA:BS:= .var 79 [af,aO]
abbrev adA:BS:= .var 58 [Tl]
abbrev adB:BS:= .var 33 [af,af,.one (.whole mg 2),.one (.whole dD 3)]
abbrev adC:BS:= .var 68 [af,BX,LR,af,.one (.cD eh 6)]
abbrev Tm:BS:= .var 33 [af,af,.one (.whole mg 8),.one (.whole dD 9)]
abbrev cH:BS:= .arr aa false
abbrev kK:BS:= .arr aJ false
abbrev LX:BS:= .arr db false
abbrev mX:BS:= .arr dD false
abbrev tt:BS:= .arr mg false
abbrev fb:BS:= .nest aD
abbrev bf:List BS:=[cH]
abbrev gz:List BS:=[tq]
abbrev nY:List BS:=[ads,rX,.dead,fb,kK]
abbrev pe:List BS:=[adt,.dead,LX]
abbrev qn:List BS:=[mV,rX,ia,fb]
abbrev qo:List BS:=[rX,ia,vI,fb,fb]
abbrev tu:List BS:=[mV,tq,rX,fb]
abbrev tv:List BS:=[mV,vI,Hz,adu,fb,fb]
abbrev vJ:List BS:=[adv,.dead,ia,LX]
abbrev yL:List BS:=[.dead,cH]
abbrev yM:List BS:=[Hz,adw,vI,.dead,fb,kK]
abbrev B1:List BS:=[adx,cH,mX,.map eh]
abbrev B4:List BS:=[ady,LX]
abbrev HB:List BS:=[adz,.dead,.dead,.map eh,cH,mX]
abbrev HC:List BS:=[cH,LW]
abbrev HD:List BS:=[adA,rX,kK,fb]
abbrev Tn:List BS:=[adB,adC,tt,mX,cH,mX,.map eh]
abbrev fx:List (Nat × VS):=[(0,aO)]
abbrev gA:List (Nat × VS):=[(0,af)]
abbrev iI:List (Nat × VS):=[(0,lA)]
abbrev nZ:List (Nat × VS):=[(0,lA),(1,af)]
abbrev vK:List (Nat × VS):=[(0,bE)]
abbrev yN:List (Nat × VS):=[(0,cG)]
abbrev B5:List (Nat × VS):=[(0,fN)]
abbrev B6:List (Nat × VS):=[(0,adq)]
abbrev B7:List (Nat × VS):=[(0,BY)]
abbrev HE:List (Nat × VS):=[(0,LV),(1,lA),(2,cQ)]
abbrev HF:List (Nat × VS):=[(0,af),(1,cG),(2,gJ),(3,kJ)]
abbrev HG:List (Nat × VS):=[(0,adr),(1,lA)]
abbrev HH:List (Nat × VS):=[(0,af),(1,af)]
abbrev To:List (Nat × VS):=[(0,jX),(1,af),(5,af)]
def LY:Shape × List (Out × Shape):=(⟨To,[]⟩,[(.ret,⟨[(4,aO)],[]⟩),(.exit 0,⟨To++[(17,aO)],[]⟩)])
def LZ:Shape × List (Out × Shape):=(⟨[(4,cG),(7,gJ)],Tn⟩,[(.ret,⟨[(4,cG),(5,af)],[.var 33 [af,af,.one (.whole mg 1),Tk],tt,mX]⟩),(.exit 0,⟨[(4,cG),(7,gJ),(22,aO)],Tn⟩)])
abbrev Tp:List (Nat × VS):=[(1,jX),(2,cG),(4,gJ),(23,af),(24,af)]
def L0:Shape × List (Out × Shape):=(⟨Tp,[ia,.var 24 [af,af,BZ],cH]⟩,[(.ret,⟨[(4,cG),(5,af)],[.var 24 [af,af,BY],cH]⟩),(.exit 0,⟨Tp++[(25,aO)],[ia,.var 24 [af,af,BZ],cH]⟩)])
def L1:Shape × List (Out × Shape):=(⟨[(1,af),(2,cG),(5,af),(6,aO),(39,aO)],[ia]⟩,[(.norm,⟨[(1,af),(2,cG),(5,af),(6,aO)],[ia]⟩)])
abbrev Tq:List (Nat × VS):=[(1,af),(2,cG),(5,af),(6,aO),(7,af)]
def L3:Shape × List (Out × Shape):=(⟨Tq,[ia]⟩,[(.exit 1,⟨Tq++[(63,aO)],[ia]⟩)])
abbrev Tr:List (Nat × VS):=[(1,af),(2,cG),(6,af),(7,af),(8,af)]
def L4:Shape × List (Out × Shape):=(⟨Tr,[ia]⟩,[(.exit 0,⟨Tr++[(20,aO)],[ia]⟩)])
abbrev Ts:List (Nat × VS):=[(0,cG),(3,.one (.whole nX 4)),(16,af),(17,af)]
def L5:Shape × List (Out × Shape):=(⟨Ts,[.var 68 [af,yJ,.one (.whole dD 6),af,vG],.dead,.dead,.map eh,.arr nX false,cH,mX]⟩,[(.ret,⟨[(2,af)],HB⟩),(.exit 0,⟨Ts++[(18,aO)],[.var 68 [af,yJ,.one (.whole dD 6),af,vG],.dead,.dead,.map eh,.arr nX false,cH,mX]⟩)])
abbrev Tt:List (Nat × VS):=[(2,.one (.aY 4 0 0)),(3,.one (.aY 5 0 0)),(21,vH),(22,af),(23,af)]
def L6:Shape × List (Out × Shape):=(⟨Tt,[.var 68 [af,vH,Hv,af,vG],.dead,.dead,.map eh,Tm,.var 33 [af,af,.one (.whole mg 10),Hv],cH,mX,tt,mX,tt]⟩,[(.exit 0,⟨Tt++[(24,aO)],[.var 68 [af,vH,Hv,af,vG],.dead,.dead,.map eh,Tm,.var 33 [af,af,.one (.whole mg 10),Hv],cH,mX,tt,mX,tt]⟩)])
abbrev Tu:List (Nat × VS):=[(0,jX),(1,af),(18,af),(19,af)]
def L7:Shape × List (Out × Shape):=(⟨Tu,[]⟩,[(.ret,⟨[(4,aO)],[]⟩),(.exit 0,⟨Tu++[(20,aO)],[]⟩)])
abbrev Tv:List (Nat × VS):=[(1,af),(53,cF),(54,af),(55,af)]
def L8:Shape × List (Out × Shape):=(⟨Tv,[]⟩,[(.ret,⟨[(4,aO)],[]⟩),(.exit 1,⟨Tv++[(56,aO)],[]⟩)])
abbrev Tw:List (Nat × VS):=[(1,cG),(2,gJ),(3,BZ),(20,cF),(21,af),(22,af)]
def L9:Shape × List (Out × Shape):=(⟨Tw,[ia,.var 24 [af,af,yK],cH,cH]⟩,[(.exit 0,⟨Tw++[(23,aO)],[ia,.var 24 [af,af,yK],cH,cH]⟩)])
abbrev Tx:List (Nat × VS):=[(19,cF),(20,af),(21,af)]
def Ma:Shape × List (Out × Shape):=(⟨Tx,[]⟩,[(.ret,⟨[(2,aO)],[]⟩),(.exit 1,⟨Tx++[(22,aO)],[]⟩)])
abbrev Tz:List (Nat × VS):=[(2,cQ),(3,cG),(7,gJ),(20,cF),(21,af),(22,af)]
def Mb:Shape × List (Out × Shape):=(⟨Tz,[mV,.var 61 [LU],fb]⟩,[(.exit 0,⟨Tz++[(23,aO)],[mV,.var 61 [LU],fb]⟩)])
abbrev TA:List (Nat × VS):=[(3,cG),(4,gJ),(7,Tl),(8,Ht),(9,af)]
def Mc:Shape × List (Out × Shape):=(⟨TA,[mV,ia,kK,tq]⟩,[(.exit 0,⟨TA++[(28,aO)],[mV,ia,kK,tq]⟩)])
abbrev TB:List (Nat × VS):=[(3,cG),(8,gJ),(10,LU),(11,Ht),(12,af)]
def Md:Shape × List (Out × Shape):=(⟨TB,[mV,tq,fb,vI,fb]⟩,[(.exit 2,⟨TB++[(48,aO)],[mV,tq,fb,vI,fb]⟩)])
abbrev TC:List (Nat × VS):=[(2,cQ),(3,cG),(4,gJ),(7,kJ),(20,cF),(21,af),(22,af)]
def Me:Shape × List (Out × Shape):=(⟨TC,[mV,ia,rX,fb]⟩,[(.exit 0,⟨TC++[(23,aO)],[mV,ia,rX,fb]⟩)])
def Mf:Shape × List (Out × Shape):=(⟨[(1,.fn qc [] [.aY 0 0 0,.aY 1 0 0,.aY 2 0 0]),(4,af),(5,fN),(6,cQ),(7,af),(8,af)],qn⟩,[(.exit 2,⟨[(1,.fn qc [] [.aY 0 0 0,.aY 1 0 0,.aY 2 0 0]),(4,af),(5,fN),(6,cQ),(7,af),(8,af),(14,aO)],qn⟩)])
def Mg:Shape × List (Out × Shape):=(⟨[(1,.fn qc [] [.aY 0 0 0,.aY 1 0 0,.aY 2 0 0]),(6,cQ),(7,af),(8,af)],qn⟩,[(.exit 0,⟨[(1,.fn qc [] [.aY 0 0 0,.aY 1 0 0,.aY 2 0 0]),(6,cQ),(7,af),(8,af),(9,aO)],qn⟩)])
def Mh:Shape × List (Out × Shape):=(⟨[(0,af),(1,cG),(2,gJ),(3,kJ),(10,aO)],qn⟩,[(.norm,⟨[],qn⟩)])
def Mi:Shape × List (Out × Shape):=(⟨[(3,cG),(4,gJ),(5,kJ),(6,Ht),(24,aO)],[ia,B0,.var 24 [af,af,vH],.var 24 [af,af,.one (.whole aa 7)],cH,cH,cH,cH]⟩,[(.norm,⟨[(3,cG),(4,gJ),(5,kJ)],[ia,.var 77 [af,af,yK,af,af,BX,aO],.var 24 [af,af,yJ],cH,cH,cH]⟩)])
abbrev TD:List (Nat × VS):=[(1,af),(2,cG),(23,cF),(24,af),(25,af)]
def Mj:Shape × List (Out × Shape):=(⟨TD,gz⟩,[(.ret,⟨[(6,aO)],gz⟩),(.exit 0,⟨TD++[(26,aO)],gz⟩)])
def Mk:Shape × List (Out × Shape):=(⟨[(0,cG),(3,kJ),(5,af),(28,aO)],vJ⟩,[(.norm,⟨[],pe⟩)])
def Ml:Shape × List (Out × Shape):=(⟨[(0,cG),(3,kJ),(5,af),(22,aO)],vJ⟩,[(.norm,⟨[],pe⟩)])
def Mm:Shape × List (Out × Shape):=(⟨[(0,cG),(3,kJ),(5,af),(14,aO)],vJ⟩,[(.norm,⟨[],pe⟩)])
def Mn:Shape × List (Out × Shape):=(⟨[(0,cG),(3,kJ),(5,af),(10,aO)],vJ⟩,[(.norm,⟨[],pe⟩)])
def Mo:Shape × List (Out × Shape):=(⟨[(0,cG),(3,kJ),(5,af),(6,aO)],vJ⟩,[(.norm,⟨[],pe⟩)])
abbrev TE:List (Nat × VS):=[(0,Hu),(1,cQ),(6,af)]
def Mp:Shape × List (Out × Shape):=(⟨TE,[kK]⟩,[(.exit 0,⟨TE++[(12,aO)],[kK]⟩)])
abbrev TF:List (Nat × VS):=[(0,af),(1,cG),(2,gJ),(3,kJ),(10,af),(11,af)]
def Mq:Shape × List (Out × Shape):=(⟨TF,qo⟩,[(.exit 0,⟨TF++[(12,aO)],qo⟩)])
abbrev TG:List (Nat × VS):=[(0,af),(1,cG),(2,gJ),(3,kJ),(5,Tj),(6,af)]
def Mr:Shape × List (Out × Shape):=(⟨TG,[mV,tq,rX,fb,kK]⟩,[(.exit 0,⟨TG++[(13,aO)],[mV,tq,rX,fb,kK]⟩)])
abbrev TH:List (Nat × VS):=[(2,cG),(3,gJ),(4,kJ),(5,yK),(6,BX),(7,af),(21,cF),(22,af),(23,af)]
def Ms:Shape × List (Out × Shape):=(⟨TH,[HA,ia,.var 77 [af,af,yJ,af,af,vH,aO],cH,cH,cH,cH]⟩,[(.exit 0,⟨TH++[(24,aO)],[HA,ia,.var 77 [af,af,yJ,af,af,vH,aO],cH,cH,cH,cH]⟩)])
abbrev TI:List (Nat × VS):=[(2,cG),(4,gJ),(5,BZ),(6,yK),(7,aO),(20,cF),(21,af),(22,af)]
def Mt:Shape × List (Out × Shape):=(⟨TI,[HA,B0,cH,cH,cH,cH]⟩,[(.exit 0,⟨TI++[(23,aO)],[HA,B0,cH,cH,cH,cH]⟩)])
abbrev TJ:List (Nat × VS):=[(4,cG),(6,BY),(7,aO),(11,BZ),(54,yK),(55,af),(56,af)]
def Mu:Shape × List (Out × Shape):=(⟨TJ,[B0,cH,cH,cH,cH,cH]⟩,[(.exit 2,⟨TJ++[(57,aO)],[B0,cH,cH,cH,cH,cH]⟩)])
def Mv:Shape × List (Out × Shape):=(⟨[(0,cG),(2,jX),(3,af),(9,kJ),(10,cF),(11,af),(12,af),(18,aO)],vJ⟩,[(.norm,⟨[(0,cG),(2,jX),(3,af),(9,kJ),(10,cF),(11,af),(12,af)],vJ⟩)])
abbrev TK:List (Nat × VS):=[(0,cG),(2,jX),(3,af),(10,cF),(11,af),(12,af)]
def Mw:Shape × List (Out × Shape):=(⟨TK,pe⟩,[(.exit 0,⟨TK++[(13,aO)],pe⟩)])
def Mx:Shape × List (Out × Shape):=(⟨[(0,cF),(1,.fn mf [] []),(7,af),(8,af)],[]⟩,[(.ret,⟨[(4,af)],[]⟩),(.exit 0,⟨[(0,cF),(1,.fn mf [] []),(7,af),(8,af),(9,aO)],[]⟩)])
def My:Shape × List (Out × Shape):=(⟨[(0,bE),(1,.fn lz [] []),(5,af),(6,af)],bf⟩,[(.exit 0,⟨[(0,bE),(1,.fn lz [] []),(5,af),(6,af),(19,aO)],bf⟩)])
abbrev TL:List (Nat × VS):=[(0,af),(5,bE),(8,cF),(9,af),(10,af)]
def Mz:Shape × List (Out × Shape):=(⟨TL,bf⟩,[(.exit 0,⟨TL++[(11,aO)],bf⟩)])
def MA:Shape × List (Out × Shape):=(⟨[(0,bE),(1,.fn qm [] []),(5,af),(6,.one (.sub aa 0)),(7,af)],bf⟩,[(.exit 2,⟨[(0,bE),(1,.fn qm [] []),(5,af),(6,.one (.sub aa 0)),(7,af),(35,aO)],bf⟩)])
def MB:Shape × List (Out × Shape):=(⟨[(0,bE),(1,.fn qm [] []),(5,af)],bf⟩,[(.ret,⟨[(4,BY)],yL⟩),(.exit 0,⟨[(0,bE),(1,.fn qm [] []),(5,af),(15,aO)],bf⟩)])
def MC:Shape × List (Out × Shape):=(⟨[(0,bE),(1,af),(2,af),(3,af),(4,.fn bn [] []),(10,aO),(11,aO),(12,af),(39,aO)],bf⟩,[(.norm,⟨[(0,bE),(1,af),(2,af),(3,af),(4,.fn bn [] []),(10,aO),(11,aO),(12,af)],bf⟩)])
def MD:Shape × List (Out × Shape):=(⟨[(0,bE),(1,af),(2,af),(3,af),(4,.fn bn [] []),(10,aO),(11,aO),(12,af),(13,af),(14,af),(56,aO)],bf⟩,[(.norm,⟨[(0,bE),(1,af),(2,af),(3,af),(4,.fn bn [] []),(10,aO),(11,aO),(12,af),(13,af),(14,af)],bf⟩)])
def ME:Shape × List (Out × Shape):=(⟨[(0,bE),(1,af),(2,af),(3,af),(4,.fn bn [] []),(10,aO),(11,aO),(12,af),(13,af),(75,aO)],bf⟩,[(.ret,⟨[(0,bE),(1,af),(2,af),(3,af),(4,.fn bn [] []),(10,aO),(11,aO),(12,af),(13,af),(80,aO)],bf⟩),(.norm,⟨[(0,bE),(1,af),(2,af),(3,af),(4,.fn bn [] []),(10,aO),(11,aO),(12,af),(13,af)],bf⟩)])
def MF:Shape × List (Out × Shape):=(⟨[(0,bE),(1,af),(2,af),(3,af),(4,.fn bn [] []),(10,aO),(11,aO)],bf⟩,[(.ret,⟨[],bf⟩)])
def MG:Shape × List (Out × Shape):=(⟨[(0,cF),(1,cF),(2,.fn bn [] []),(11,cF),(12,af),(13,af)],[]⟩,[(.ret,⟨[(6,af)],[]⟩),(.exit 0,⟨[(0,cF),(1,cF),(2,.fn bn [] []),(11,cF),(12,af),(13,af),(14,aO)],[]⟩)])
def MH:Shape × List (Out × Shape):=(⟨[(0,bE),(1,af),(2,af),(3,.fn bn [] []),(8,af),(9,af)],bf⟩,[(.exit 2,⟨[(0,bE),(1,af),(2,af),(3,.fn bn [] []),(8,af),(9,af),(34,aO)],bf⟩)])
def MI:Shape × List (Out × Shape):=(⟨[(0,bE),(1,af),(2,af),(3,.fn bn [] []),(8,af)],bf⟩,[(.exit 0,⟨[(0,bE),(1,af),(2,af),(3,.fn bn [] []),(8,af),(14,aO)],bf⟩)])
def MJ:Shape × List (Out × Shape):=(⟨[(0,bE),(3,.fn bn [] []),(8,af),(9,af),(10,af),(11,af)],bf⟩,[(.exit 0,⟨[(0,bE),(3,.fn bn [] []),(8,af),(9,af),(10,af),(11,af),(21,aO)],bf⟩)])
def MK:Shape × List (Out × Shape):=(⟨[(0,bE),(3,.fn bn [] []),(8,af),(9,af),(12,af)],bf⟩,[(.exit 2,⟨[(0,bE),(3,.fn bn [] []),(8,af),(9,af),(12,af),(33,aO)],bf⟩)])
def ML:Shape × List (Out × Shape):=(⟨[(0,bE),(1,af),(8,af),(9,gJ),(10,fN),(11,af),(12,af),(45,aO)],HC⟩,[(.norm,⟨[(0,bE),(1,af),(8,af),(9,gJ),(10,fN),(11,af),(12,af)],HC⟩)])
abbrev TM:List (Nat × VS):=[(0,bE),(1,af),(8,af),(9,gJ),(10,fN),(11,af)]
def MM:Shape × List (Out × Shape):=(⟨TM,HC⟩,[(.exit 0,⟨TM++[(35,aO)],HC⟩)])
def MN:Shape × List (Out × Shape):=(⟨[(0,cF),(3,.fn bn [] []),(11,cG),(12,af),(13,af),(14,af),(36,aO)],gz⟩,[(.norm,⟨[(0,cF),(3,.fn bn [] []),(11,cG),(12,af),(13,af),(14,af)],gz⟩)])
def MO:Shape × List (Out × Shape):=(⟨[(0,cF),(3,.fn bn [] []),(10,af),(11,cG),(12,af),(13,af),(14,af),(34,aO)],gz⟩,[(.norm,⟨[(11,cG),(13,af)],gz⟩)])
abbrev TN:List (Nat × VS):=[(0,bE),(8,af),(9,af)]
def MP:Shape × List (Out × Shape):=(⟨TN,bf⟩,[(.exit 0,⟨TN++[(15,aO)],bf⟩)])
def MQ:Shape × List (Out × Shape):=(⟨[(0,bE),(1,af),(2,af),(3,.fn bn [] []),(9,af),(10,af)],bf⟩,[(.exit 2,⟨[(0,bE),(1,af),(2,af),(3,.fn bn [] []),(9,af),(10,af),(36,aO)],bf⟩)])
def MR:Shape × List (Out × Shape):=(⟨[(0,bE),(1,af),(2,af),(3,.fn bn [] []),(9,af),(10,af),(11,af)],bf⟩,[(.exit 4,⟨[(0,bE),(1,af),(2,af),(3,.fn bn [] []),(9,af),(10,af),(11,af)],bf⟩)])
def MS:Shape × List (Out × Shape):=(⟨[(0,bE),(1,af),(2,af),(3,.fn bn [] []),(9,af),(10,af),(65,aO)],bf⟩,[(.norm,⟨[(0,bE),(1,af),(2,af),(3,.fn bn [] []),(9,af),(10,af)],bf⟩)])
def MT:Shape × List (Out × Shape):=(⟨[(0,bE),(1,af),(2,af),(3,.fn bn [] []),(9,af),(10,af),(12,af)],bf⟩,[(.exit 6,⟨[(0,bE),(1,af),(2,af),(3,.fn bn [] []),(9,af),(10,af),(12,af)],bf⟩)])
def MU:Shape × List (Out × Shape):=(⟨[(0,bE),(1,af),(2,af),(3,.fn bn [] []),(9,af),(10,af)],bf⟩,[(.ret,⟨[(8,aO)],bf⟩),(.exit 0,⟨[(0,bE),(1,af),(2,af),(3,.fn bn [] []),(9,af),(10,af),(16,aO)],bf⟩)])
def MV:Shape × List (Out × Shape):=(⟨[(0,bE),(1,af),(4,.fn bn [] []),(11,af),(12,af)],bf⟩,[(.exit 2,⟨[(0,bE),(1,af),(4,.fn bn [] []),(11,af),(12,af),(47,aO)],bf⟩)])
def MW:Shape × List (Out × Shape):=(⟨[(0,bE),(1,af),(4,.fn bn [] []),(11,af),(12,af)],bf⟩,[(.exit 4,⟨[(0,bE),(1,af),(4,.fn bn [] []),(11,af),(12,af),(65,aO)],bf⟩)])
def MX:Shape × List (Out × Shape):=(⟨[(0,bE),(1,af),(4,.fn bn [] []),(11,af),(12,af)],bf⟩,[(.exit 0,⟨[(0,bE),(1,af),(4,.fn bn [] []),(11,af),(12,af),(70,aO)],bf⟩)])
def MY:Shape × List (Out × Shape):=(⟨[(0,bE),(1,af),(4,.fn bn [] []),(12,af),(13,af)],bf⟩,[(.exit 0,⟨[(0,bE),(1,af),(4,.fn bn [] []),(12,af),(13,af),(47,aO)],bf⟩)])
def MZ:Shape × List (Out × Shape):=(⟨[(0,bE),(1,af),(4,.fn bn [] []),(12,af),(13,af)],bf⟩,[(.exit 2,⟨[(0,bE),(1,af),(4,.fn bn [] []),(12,af),(13,af),(66,aO)],bf⟩)])
def M0:Shape × List (Out × Shape):=(⟨[(0,bE),(1,af),(4,.fn bn [] []),(12,af),(13,af)],bf⟩,[(.exit 6,⟨[(0,bE),(1,af),(4,.fn bn [] []),(12,af),(13,af),(120,aO)],bf⟩)])
def M1:Shape × List (Out × Shape):=(⟨[(0,bE),(1,af),(4,.fn bn [] []),(12,af),(13,af)],bf⟩,[(.exit 8,⟨[(0,bE),(1,af),(4,.fn bn [] []),(12,af),(13,af),(139,aO)],bf⟩)])
def M3:Shape × List (Out × Shape):=(⟨[(0,bE),(1,af),(4,.fn bn [] []),(12,af),(13,af)],bf⟩,[(.exit 4,⟨[(0,bE),(1,af),(4,.fn bn [] []),(12,af),(13,af),(144,aO)],bf⟩)])
def M4:Shape × List (Out × Shape):=(⟨[(0,fN),(2,af),(4,aO)],[]⟩,[(.norm,⟨[(0,fN),(2,af)],[]⟩)])
def M5:Shape × List (Out × Shape):=(⟨[(0,fN),(2,af),(8,aO)],[]⟩,[(.norm,⟨[(0,fN),(2,af)],[]⟩)])
def M6:Shape × List (Out × Shape):=(⟨[(0,bE),(2,af),(3,af),(4,.fn bn [] []),(10,af),(11,af),(40,aO)],bf⟩,[(.norm,⟨[(0,bE),(2,af),(3,af),(4,.fn bn [] []),(10,af),(11,af)],bf⟩)])
def M7:Shape × List (Out × Shape):=(⟨[(0,bE),(2,af),(3,af),(4,.fn bn [] []),(10,af)],bf⟩,[(.exit 0,⟨[(0,bE),(2,af),(3,af),(4,.fn bn [] []),(10,af),(11,af),(18,aO)],bf⟩),(.ret,⟨[(0,bE),(2,af),(3,af),(4,.fn bn [] []),(10,af),(11,af),(58,aO)],bf⟩)])
def M8:Shape × List (Out × Shape):=(⟨[(0,cF),(1,.fn lz [] []),(7,af),(8,af)],[]⟩,[(.ret,⟨[(4,af)],[]⟩),(.exit 0,⟨[(0,cF),(1,.fn lz [] []),(7,af),(8,af),(9,aO)],[]⟩)])
def M9:Shape × List (Out × Shape):=(⟨[(0,bE),(1,.fn pd [] []),(5,af),(6,af)],bf⟩,[(.exit 0,⟨[(0,bE),(1,.fn pd [] []),(5,af),(6,af),(19,aO)],bf⟩)])
def Na:Shape × List (Out × Shape):=(⟨[(0,cF),(1,.fn pd [] []),(7,af),(8,af)],[]⟩,[(.ret,⟨[(4,af)],[]⟩),(.exit 0,⟨[(0,cF),(1,.fn pd [] []),(7,af),(8,af),(9,aO)],[]⟩)])
def Nb:Shape × List (Out × Shape):=(⟨[(0,bE),(1,.fn mf [] []),(5,af),(6,af)],bf⟩,[(.exit 0,⟨[(0,bE),(1,.fn mf [] []),(5,af),(6,af),(19,aO)],bf⟩)])
def Nc:Shape × List (Out × Shape):=(⟨[(1,.fn qg [] [.aY 0 0 0]),(4,af),(5,fN),(6,cQ),(7,af),(8,af)],gz⟩,[(.exit 2,⟨[(1,.fn qg [] [.aY 0 0 0]),(4,af),(5,fN),(6,cQ),(7,af),(8,af),(14,aO)],gz⟩)])
def Nd:Shape × List (Out × Shape):=(⟨[(1,.fn qg [] [.aY 0 0 0]),(6,cQ),(7,af),(8,af)],gz⟩,[(.exit 0,⟨[(1,.fn qg [] [.aY 0 0 0]),(6,cQ),(7,af),(8,af),(9,aO)],gz⟩)])
def Nf:Shape × List (Out × Shape):=(⟨[(1,.fn qj [] [.aY 0 0 0,.aY 1 0 0,.aY 2 0 0]),(4,af),(5,fN),(6,cQ),(7,af),(8,af)],tu⟩,[(.exit 2,⟨[(1,.fn qj [] [.aY 0 0 0,.aY 1 0 0,.aY 2 0 0]),(4,af),(5,fN),(6,cQ),(7,af),(8,af),(14,aO)],tu⟩)])
def Ng:Shape × List (Out × Shape):=(⟨[(1,.fn qj [] [.aY 0 0 0,.aY 1 0 0,.aY 2 0 0]),(6,cQ),(7,af),(8,af)],tu⟩,[(.exit 0,⟨[(1,.fn qj [] [.aY 0 0 0,.aY 1 0 0,.aY 2 0 0]),(6,cQ),(7,af),(8,af),(9,aO)],tu⟩)])
def Nh:Shape × List (Out × Shape):=(⟨[(1,.fn qi [] [.aY 0 0 0,.aY 1 0 0,.aY 2 0 0]),(4,af),(5,fN),(6,cQ),(7,af),(8,af)],qo⟩,[(.exit 2,⟨[(1,.fn qi [] [.aY 0 0 0,.aY 1 0 0,.aY 2 0 0]),(4,af),(5,fN),(6,cQ),(7,af),(8,af),(14,aO)],qo⟩)])
def Ni:Shape × List (Out × Shape):=(⟨[(1,.fn qi [] [.aY 0 0 0,.aY 1 0 0,.aY 2 0 0]),(6,cQ),(7,af),(8,af)],qo⟩,[(.exit 0,⟨[(1,.fn qi [] [.aY 0 0 0,.aY 1 0 0,.aY 2 0 0]),(6,cQ),(7,af),(8,af),(9,aO)],qo⟩)])
def Nj:Shape × List (Out × Shape):=(⟨[(1,.fn qh [] [.aY 0 0 0,.aY 1 0 0]),(4,af),(5,fN),(6,cQ),(7,af),(8,af)],nY⟩,[(.exit 2,⟨[(1,.fn qh [] [.aY 0 0 0,.aY 1 0 0]),(4,af),(5,fN),(6,cQ),(7,af),(8,af),(14,aO)],nY⟩)])
def Nk:Shape × List (Out × Shape):=(⟨[(1,.fn qh [] [.aY 0 0 0,.aY 1 0 0]),(6,cQ),(7,af),(8,af)],nY⟩,[(.exit 0,⟨[(1,.fn qh [] [.aY 0 0 0,.aY 1 0 0]),(6,cQ),(7,af),(8,af),(9,aO)],nY⟩)])
def Nl:Shape × List (Out × Shape):=(⟨[(1,.fn qd [] [.aY 0 0 0,.aY 1 0 0]),(4,af),(5,fN),(6,cQ),(7,af),(8,af)],nY⟩,[(.exit 2,⟨[(1,.fn qd [] [.aY 0 0 0,.aY 1 0 0]),(4,af),(5,fN),(6,cQ),(7,af),(8,af),(14,aO)],nY⟩)])
def Nn:Shape × List (Out × Shape):=(⟨[(1,.fn qd [] [.aY 0 0 0,.aY 1 0 0]),(6,cQ),(7,af),(8,af)],nY⟩,[(.exit 0,⟨[(1,.fn qd [] [.aY 0 0 0,.aY 1 0 0]),(6,cQ),(7,af),(8,af),(9,aO)],nY⟩)])
def No:Shape × List (Out × Shape):=(⟨[(1,.fn qe [] [.aY 0 0 0,.aY 1 0 0,.aY 2 0 0,.aY 3 0 0]),(4,af),(5,fN),(6,cQ),(7,af),(8,af)],tv⟩,[(.exit 2,⟨[(1,.fn qe [] [.aY 0 0 0,.aY 1 0 0,.aY 2 0 0,.aY 3 0 0]),(4,af),(5,fN),(6,cQ),(7,af),(8,af),(14,aO)],tv⟩)])
def Np:Shape × List (Out × Shape):=(⟨[(1,.fn qe [] [.aY 0 0 0,.aY 1 0 0,.aY 2 0 0,.aY 3 0 0]),(6,cQ),(7,af),(8,af)],tv⟩,[(.exit 0,⟨[(1,.fn qe [] [.aY 0 0 0,.aY 1 0 0,.aY 2 0 0,.aY 3 0 0]),(6,cQ),(7,af),(8,af),(9,aO)],tv⟩)])
def Nq:Shape × List (Out × Shape):=(⟨[(1,.fn qf [] [.aY 0 0 0,.aY 1 0 0,.aY 2 0 0]),(4,af),(5,fN),(6,cQ),(7,af),(8,af)],yM⟩,[(.exit 2,⟨[(1,.fn qf [] [.aY 0 0 0,.aY 1 0 0,.aY 2 0 0]),(4,af),(5,fN),(6,cQ),(7,af),(8,af),(14,aO)],yM⟩)])
def Nr:Shape × List (Out × Shape):=(⟨[(1,.fn qf [] [.aY 0 0 0,.aY 1 0 0,.aY 2 0 0]),(6,cQ),(7,af),(8,af)],yM⟩,[(.exit 0,⟨[(1,.fn qf [] [.aY 0 0 0,.aY 1 0 0,.aY 2 0 0]),(6,cQ),(7,af),(8,af),(9,aO)],yM⟩)])
def Ns:Shape × List (Out × Shape):=(⟨[(0,cF),(1,.fn kH [] []),(7,af),(8,af)],[]⟩,[(.ret,⟨[(4,af)],[]⟩),(.exit 0,⟨[(0,cF),(1,.fn kH [] []),(7,af),(8,af),(9,aO)],[]⟩)])
def adD:List (Nat × FuncId):=[(4,LI),
 (5,GR),
 (6,GS),
 (7,GU),
 (8,tj),
 (9,GV),
 (12,BF),
 (13,GW),
 (14,GX),
 (15,yr),
 (16,GY),
 (17,yu),
 (18,vu),
 (19,GZ),
 (20,vw),
 (21,G0),
 (22,BG),
 (23,G1),
 (24,yv),
 (25,G2),
 (26,yw),
 (27,BH),
 (28,o9),
 (29,vy),
 (30,mS),
 (31,yx),
 (32,G3),
 (33,BI),
 (34,G4),
 (35,yz),
 (36,BJ),
 (37,vz),
 (38,yA),
 (39,kH),
 (40,G5),
 (41,G6),
 (42,BK),
 (43,BL),
 (44,mT),
 (45,qc),
 (46,G7),
 (47,pb),
 (48,yB),
 (49,kI),
 (50,tk),
 (51,G8),
 (52,tm),
 (53,qd),
 (54,vA),
 (55,lz),
 (56,qe),
 (57,qf),
 (58,qg),
 (59,qh),
 (60,qi),
 (61,qj),
 (62,pc),
 (63,yC),
 (64,yD),
 (65,G9),
 (66,Ha),
 (67,Hb),
 (68,vB),
 (69,qk),
 (70,tn),
 (71,rW),
 (72,mf),
 (73,BM),
 (74,tp),
 (75,yE),
 (76,yF),
 (77,mU),
 (78,vC),
 (79,ql),
 (80,pd),
 (82,Hc),
 (83,Hd),
 (84,BN),
 (85,bn),
 (86,He),
 (87,qm),
 (89,gI),
 (90,BO),
 (91,yG),
 (92,Hf),
 (93,BP),
 (94,BQ),
 (95,Hg),
 (96,BR),
 (97,Hh),
 (98,Hi),
 (99,vD),
 (100,nW),
 (102,Hj),
 (103,BT),
 (104,BU),
 (105,Hk),
 (106,Hl),
 (107,yH),
 (108,BV),
 (109,yI),
 (131,tm),
 (132,rW),
 (133,yE),
 (134,rW),
 (135,yE),
 (136,mT),
 (137,vy),
 (138,mT),
 (139,mT),
 (140,mT),
 (141,mT),
 (142,mT),
 (143,mT),
 (145,tm),
 (146,rW)]
def adE:List (Nat × Shape):=[(4,⟨[(0,lA),(1,jX),(2,jX)],[]⟩),
 (5,⟨nZ,[]⟩),
 (6,⟨iI,[]⟩),
 (7,⟨[(0,jX),(1,af)],[]⟩),
 (8,⟨[],[]⟩),
 (9,⟨nZ,[]⟩),
 (12,⟨[(0,lA),(1,jX)],[]⟩),
 (13,⟨nZ,[]⟩),
 (14,⟨[(0,lA),(1,jX)],[]⟩),
 (15,⟨gA,[]⟩),
 (16,⟨iI,[]⟩),
 (17,⟨nZ,[]⟩),
 (18,⟨nZ,[]⟩),
 (19,⟨[],[]⟩),
 (20,⟨nZ,[]⟩),
 (21,⟨nZ,[]⟩),
 (22,⟨iI,[]⟩),
 (23,⟨yN,B1⟩),
 (24,⟨yN,B1⟩),
 (25,⟨yN,B1⟩),
 (26,⟨iI,[]⟩),
 (27,⟨[(0,jX),(1,af)],[]⟩),
 (28,⟨[(0,LV)],[]⟩),
 (29,⟨[(0,Hu),(1,af)],[kK]⟩),
 (30,⟨HE,[]⟩),
 (31,⟨[(0,cQ),(1,af)],[]⟩),
 (32,⟨iI,[]⟩),
 (33,⟨nZ,[]⟩),
 (34,⟨iI,[]⟩),
 (35,⟨nZ,[]⟩),
 (36,⟨[(0,cG),(1,lA)],B1⟩),
 (37,⟨iI,[]⟩),
 (38,⟨iI,[]⟩),
 (39,⟨iI,[]⟩),
 (40,⟨[(0,LV),(1,cF),(2,cQ)],[]⟩),
 (41,⟨HE,[]⟩),
 (42,⟨HE,[]⟩),
 (43,⟨HE,[]⟩),
 (44,⟨[(0,cQ),(1,.fn qc [] [.aY 0 0 0,.aY 1 0 0,.aY 2 0 0])],qn⟩),
 (45,⟨HF,qn⟩),
 (46,⟨[(0,Hw)],[]⟩),
 (47,⟨HG,[]⟩),
 (48,⟨[(0,lA),(1,af),(2,cG)],gz⟩),
 (49,⟨[(0,af),(1,cF)],[]⟩),
 (50,⟨[(0,cG),(1,lA)],B4⟩),
 (51,⟨yN,B4⟩),
 (52,⟨[(0,cF),(1,.fn mf [] [])],[]⟩),
 (53,⟨[(0,af),(1,cG),(2,gJ)],HD⟩),
 (54,⟨[(0,Hu),(1,cQ),(2,af)],[kK]⟩),
 (55,⟨iI,[]⟩),
 (56,⟨[(0,af),(1,cG),(2,gJ),(3,kJ),(4,Ht)],tv⟩),
 (57,⟨HF,[Hz,.var 58 [.one (.whole aJ 3)],vI,kK,fb]⟩),
 (58,⟨[(0,af),(1,cG)],gz⟩),
 (59,⟨[(0,af),(1,cG),(2,gJ)],HD⟩),
 (60,⟨HF,qo⟩),
 (61,⟨HF,tu⟩),
 (62,⟨B5,[]⟩),
 (63,⟨HG,[]⟩),
 (64,⟨HG,[]⟩),
 (65,⟨[(0,cF)],[]⟩),
 (66,⟨[(0,cF)],[]⟩),
 (67,⟨[(0,cF)],[]⟩),
 (68,⟨[],[]⟩),
 (69,⟨[(0,cG),(1,.one (.int .u8))],B4⟩),
 (70,⟨[(0,cG),(1,cF),(2,jX),(3,af)],B4⟩),
 (71,⟨[(0,cF),(1,.fn mf [] [])],[]⟩),
 (72,⟨iI,[]⟩),
 (73,⟨HG,[]⟩),
 (74,⟨[],[]⟩),
 (75,⟨[(0,bE),(1,.fn lz [] [])],bf⟩),
 (76,⟨[(0,af),(1,cF)],[]⟩),
 (77,⟨[(0,af),(1,cF),(2,lA)],[]⟩),
 (78,⟨vK,bf⟩),
 (79,⟨[],[]⟩),
 (80,⟨iI,[]⟩),
 (82,⟨[(0,cG),(1,jX)],B4⟩),
 (83,⟨gA,[]⟩),
 (84,⟨[(0,bE),(1,.fn bn [] [])],bf⟩),
 (85,⟨[(0,lA),(1,lA)],[]⟩),
 (86,⟨[(0,bE),(1,.fn qm [] [])],bf⟩),
 (87,⟨[(0,lA),(1,lA)],[]⟩),
 (89,⟨[(0,bE),(1,af),(2,af),(3,af),(4,.fn bn [] [])],bf⟩),
 (90,⟨B5,[]⟩),
 (91,⟨HH,[]⟩),
 (92,⟨[(0,cF),(1,cF),(2,.fn bn [] [])],[]⟩),
 (93,⟨[(0,bE),(1,af),(2,af),(3,.fn bn [] [])],bf⟩),
 (94,⟨[(0,bE),(1,af),(2,af),(3,.fn bn [] [])],bf⟩),
 (95,⟨[(0,bE),(1,af),(2,af),(3,.fn bn [] [])],bf⟩),
 (96,⟨[(0,cF),(1,af),(2,af),(3,.fn bn [] [])],[]⟩),
 (97,⟨[(0,bE),(1,af),(2,af),(3,.fn bn [] [])],bf⟩),
 (98,⟨[(0,bE),(1,af),(2,af),(3,.fn bn [] [])],bf⟩),
 (99,⟨[(0,bE),(1,af),(2,af),(3,af),(4,.fn bn [] [])],bf⟩),
 (100,⟨[(0,bE),(1,af),(2,af),(3,af),(4,.fn bn [] [])],bf⟩),
 (102,⟨B5,[]⟩),
 (103,⟨gA,[]⟩),
 (104,⟨[(0,bE),(1,af),(2,af),(3,af),(4,.fn bn [] [])],bf⟩),
 (105,⟨gA,[]⟩),
 (106,⟨yN,[LW]⟩),
 (107,⟨[(0,cF),(1,af),(2,cG),(3,.fn bn [] [])],gz⟩),
 (108,⟨[(0,cF),(1,af),(2,af),(3,af),(4,cG),(5,.fn bn [] [])],gz⟩),
 (109,⟨[(0,cF),(1,af),(2,af),(3,cG),(4,.fn bn [] [])],gz⟩),
 (131,⟨[(0,cF),(1,.fn lz [] [])],[]⟩),
 (132,⟨[(0,cF),(1,.fn lz [] [])],[]⟩),
 (133,⟨[(0,bE),(1,.fn pd [] [])],bf⟩),
 (134,⟨[(0,cF),(1,.fn pd [] [])],[]⟩),
 (135,⟨[(0,bE),(1,.fn mf [] [])],bf⟩),
 (136,⟨[(0,cQ),(1,.fn qg [] [.aY 0 0 0])],gz⟩),
 (137,⟨[(0,.one (.row aJ 0 [0])),(1,af)],[fb]⟩),
 (138,⟨[(0,cQ),(1,.fn qj [] [.aY 0 0 0,.aY 1 0 0,.aY 2 0 0])],tu⟩),
 (139,⟨[(0,cQ),(1,.fn qi [] [.aY 0 0 0,.aY 1 0 0,.aY 2 0 0])],qo⟩),
 (140,⟨[(0,cQ),(1,.fn qh [] [.aY 0 0 0,.aY 1 0 0])],HD⟩),
 (141,⟨[(0,cQ),(1,.fn qd [] [.aY 0 0 0,.aY 1 0 0])],HD⟩),
 (142,⟨[(0,cQ),(1,.fn qe [] [.aY 0 0 0,.aY 1 0 0,.aY 2 0 0,.aY 3 0 0])],tv⟩),
 (143,⟨[(0,cQ),(1,.fn qf [] [.aY 0 0 0,.aY 1 0 0,.aY 2 0 0])],[Hz,.var 58 [.one (.whole aJ 3)],vI,kK,fb]⟩),
 (145,⟨[(0,cF),(1,.fn kH [] [])],[]⟩),
 (146,⟨[(0,cF),(1,.fn kH [] [])],[]⟩)]
def adF:List (Nat × Shape):=[(4,⟨fx,[]⟩),
 (5,⟨gA,[]⟩),
 (6,⟨gA,[]⟩),
 (7,⟨fx,[]⟩),
 (8,⟨fx,[]⟩),
 (9,⟨[(0,.agg [.int .i64,.int .i64,.whole mg 0,.whole dD 1]),(1,af)],[tt,mX]⟩),
 (12,⟨fx,[]⟩),
 (13,⟨fx,[]⟩),
 (14,⟨nZ,[]⟩),
 (15,⟨fx,[]⟩),
 (16,⟨fx,[]⟩),
 (17,⟨fx,[]⟩),
 (18,⟨HH,[]⟩),
 (19,⟨[(0,Hy)],bf⟩),
 (20,⟨gA,[]⟩),
 (21,⟨yN,B1⟩),
 (22,⟨iI,[]⟩),
 (23,⟨fx,HB⟩),
 (24,⟨gA,HB⟩),
 (25,⟨[(0,.agg [.int .i64,.int .i64,.whole mg 4,.whole dD 5])],[.var 68 [af,vH,LR,af,vG],.dead,.dead,.map eh,tt,mX,cH]⟩),
 (26,⟨fx,[]⟩),
 (27,⟨fx,[]⟩),
 (28,⟨[(0,Hu)],[kK]⟩),
 (29,⟨[],[kK]⟩),
 (30,⟨B6,[fb]⟩),
 (31,⟨fx,[]⟩),
 (32,⟨fx,[]⟩),
 (33,⟨nZ,[]⟩),
 (34,⟨fx,[]⟩),
 (35,⟨fx,[]⟩),
 (36,⟨gA,HB⟩),
 (37,⟨iI,[]⟩),
 (38,⟨[(0,jX)],[]⟩),
 (39,⟨fx,[]⟩),
 (40,⟨B6,[fb]⟩),
 (41,⟨B6,[fb]⟩),
 (42,⟨B6,[fb]⟩),
 (43,⟨B6,[fb]⟩),
 (44,⟨[],qn⟩),
 (45,⟨[],qn⟩),
 (46,⟨nZ,[]⟩),
 (47,⟨[(0,Hw)],[]⟩),
 (48,⟨fx,gz⟩),
 (49,⟨iI,[]⟩),
 (50,⟨[],pe⟩),
 (51,⟨[(0,jX)],[.var 87 [vF,vF],.dead]⟩),
 (52,⟨fx,[]⟩),
 (53,⟨[],nY⟩),
 (54,⟨[],[kK]⟩),
 (55,⟨fx,[]⟩),
 (56,⟨[],tv⟩),
 (57,⟨[],yM⟩),
 (58,⟨[],gz⟩),
 (59,⟨[],nY⟩),
 (60,⟨[],qo⟩),
 (61,⟨[],tu⟩),
 (62,⟨gA,[]⟩),
 (63,⟨[(0,Hw)],[]⟩),
 (64,⟨[(0,Hw)],[]⟩),
 (65,⟨iI,[]⟩),
 (66,⟨iI,[]⟩),
 (67,⟨iI,[]⟩),
 (68,⟨[(0,Hy)],bf⟩),
 (69,⟨[(0,vF)],pe⟩),
 (70,⟨[],pe⟩),
 (71,⟨gA,[]⟩),
 (72,⟨fx,[]⟩),
 (73,⟨iI,[]⟩),
 (74,⟨[(0,Hy)],bf⟩),
 (75,⟨B7,yL⟩),
 (76,⟨vK,bf⟩),
 (77,⟨iI,[]⟩),
 (78,⟨B7,yL⟩),
 (79,⟨[(0,Hy)],bf⟩),
 (80,⟨fx,[]⟩),
 (82,⟨[(0,af),(1,vF)],pe⟩),
 (83,⟨gA,[]⟩),
 (84,⟨[],bf⟩),
 (85,⟨gA,[]⟩),
 (86,⟨B7,yL⟩),
 (87,⟨fx,[]⟩),
 (89,⟨[],bf⟩),
 (90,⟨gA,[]⟩),
 (91,⟨gA,[]⟩),
 (92,⟨gA,[]⟩),
 (93,⟨[],bf⟩),
 (94,⟨[],bf⟩),
 (95,⟨[],bf⟩),
 (96,⟨HH,[]⟩),
 (97,⟨[],bf⟩),
 (98,⟨fx,bf⟩),
 (99,⟨gA,bf⟩),
 (100,⟨[(0,af),(1,aO)],bf⟩),
 (102,⟨gA,[]⟩),
 (103,⟨fx,[]⟩),
 (104,⟨[],bf⟩),
 (105,⟨B5,[]⟩),
 (106,⟨B5,[LW]⟩),
 (107,⟨gA,gz⟩),
 (108,⟨gA,gz⟩),
 (109,⟨HH,gz⟩),
 (131,⟨fx,[]⟩),
 (132,⟨gA,[]⟩),
 (133,⟨B7,yL⟩),
 (134,⟨gA,[]⟩),
 (135,⟨B7,yL⟩),
 (136,⟨[],gz⟩),
 (137,⟨[],[fb]⟩),
 (138,⟨[],tu⟩),
 (139,⟨[],qo⟩),
 (140,⟨[],nY⟩),
 (141,⟨[],nY⟩),
 (142,⟨[],tv⟩),
 (143,⟨[],yM⟩),
 (145,⟨fx,[]⟩),
 (146,⟨gA,[]⟩)]
def adG:List (Nat × Shape):=[(75,⟨vK,bf⟩),
 (78,⟨vK,bf⟩),
 (86,⟨vK,bf⟩),
 (133,⟨vK,bf⟩),
 (135,⟨vK,bf⟩)]
def adH:List (Nat × List (Nat × List Nat)):=[(4,[(0,[1,2,3]),(1,[1,2,3,26]),(2,[6]),(3,[1,2,3,7,8]),(4,[1,2,3,7,8,35]),(5,[6]),(6,[6])]),
 (5,[(0,[1,2]),(1,[1,2,5]),(2,[4]),(3,[1,2,9]),(4,[4]),(5,[13]),(6,[4]),(7,[4])]),
 (6,[(0,[1]),(1,[3]),(2,[2])]),
 (7,[(0,[0,1]),(1,[0,1,13]),(2,[4]),(3,[0,1,5]),(4,[0,1,5,17]),(5,[0,1,5]),(6,[0,1,5,32]),(7,[4]),(8,[4])]),
 (8,[(0,[]),(1,[1,2]),(2,[0])]),
 (9,[(0,[1,2,4]),(1,[1,2,4,6]),(2,[1,2,4,6,13]),(3,[4,5]),(4,[4,7]),(5,[4,7,22]),(6,[4,7,8]),(7,[4,7,8,26]),(8,[4,5]),(9,[4,5])]),
 (12,[(0,[1,2]),(1,[1,2,14]),(2,[4]),(3,[1,2,5]),(4,[1,2,5,6]),(5,[1,2,5,6]),(6,[4])]),
 (13,[(0,[1,2]),(1,[4])]),
 (14,[(0,[1,2,4]),(1,[1,2,4,6]),(2,[1,2,4,6,13]),(3,[4,5]),(4,[1,2,4,18]),(5,[4,5]),(6,[1,2,4]),(7,[1,2,4,23,24]),(8,[1,2,4,23,24,25]),(9,[1,2,4,7,23,24]),(10,[1,2,4,8,9,23,24]),(11,[1,2,4,8,9,23,24,38]),(12,[4,5]),(13,[1,2,4,23,24]),(14,[1,2,4,23,24]),(15,[4,5])]),
 (15,[(0,[0]),(1,[2])]),
 (16,[(0,[1]),(1,[3,4]),(2,[2])]),
 (17,[(0,[1,2]),(1,[1,2,5]),(2,[1,2,5,6]),(3,[1,2,5,6,20]),(4,[1,2,5,6]),(5,[1,2,5,6,20,26]),(6,[1,2,5,6,20,26]),(7,[1,2,5,6,20,26]),(8,[1,2,5,6]),(9,[1,2,5,6,20,32]),(10,[1,2,5,6,32]),(11,[1,2,5,6]),(12,[1,2,5,6,39]),(13,[1,2,5,6]),(14,[1,2,5,6]),(15,[1,2,5,6,7]),(16,[1,2,5,6,7,63]),(17,[1,2,5,6,7]),(18,[1,2,5,6,7]),(19,[4])]),
 (18,[(0,[1,2]),(1,[1,2,6,7]),(2,[1,2,6,7,8]),(3,[1,2,6,7,8,20]),(4,[1,2,6,7,8]),(5,[1,2,6,7,8,9,10]),(6,[1,2,6,7,8]),(7,[4,5])]),
 (19,[(0,[0]),(1,[0,1,2]),(2,[0])]),
 (20,[(0,[1,2]),(1,[1,2,10]),(2,[4]),(3,[1,2,13]),(4,[4]),(5,[17]),(6,[4]),(7,[4])]),
 (21,[(0,[1,2]),(1,[1,2,5]),(2,[2,5]),(3,[5]),(4,[4])]),
 (22,[(0,[1,2]),(1,[1,2,5]),(2,[2]),(3,[2])]),
 (23,[(0,[0]),(1,[2])]),
 (24,[(0,[0]),(1,[0,3]),(2,[0,3,16,17]),(3,[0,3,16,17,18]),(4,[0,3,4,16,17]),(5,[0,3,4,5,6,16,17]),(6,[0,3,4,5,6,16,17,38]),(7,[2]),(8,[0,3,4,5,7,8,16,17]),(9,[0,3,4,5,7,16,17,51]),(10,[0,3,4,5,16,17,58]),(11,[2]),(12,[0,3,4,7,16,17]),(13,[0,3,16,17]),(14,[0,3,16,17]),(15,[0]),(16,[]),(17,[2])]),
 (25,[(0,[0,2]),(1,[0,2,3]),(2,[2,3,21,22,23]),(3,[2,3,21,22,23,24]),(4,[2,3,5,21,22,23]),(5,[2,3,21,22,23]),(6,[2,3,21,22,23]),(7,[2])]),
 (26,[(0,[1]),(1,[2])]),
 (27,[(0,[0,1]),(1,[0,1,16]),(2,[4]),(3,[0,1,18,19]),(4,[0,1,18,19,20]),(5,[0,1,5,18,19]),(6,[0,1,18,19,34]),(7,[4]),(8,[0,1,18,19]),(9,[4])]),
 (28,[(0,[1]),(1,[2])]),
 (29,[(0,[])]),
 (30,[(0,[2,3,4]),(1,[2,3,4,9]),(2,[2,3,4,9,10]),(3,[6]),(4,[2,3,4,9,17]),(5,[6]),(6,[2,3,4,9,26]),(7,[2,3,4,9,26]),(8,[6]),(9,[2,3,4,33]),(10,[6]),(11,[2,3,4,7]),(12,[7]),(13,[6])]),
 (31,[(0,[0,1]),(1,[4])]),
 (32,[(0,[1]),(1,[2])]),
 (33,[(0,[1,2,4]),(1,[4,5])]),
 (34,[(0,[1]),(1,[1,3]),(2,[2])]),
 (35,[(0,[1,2]),(1,[1,2,9]),(2,[4]),(3,[1,2,27]),(4,[4]),(5,[1,2,29]),(6,[4]),(7,[1,2,29,30]),(8,[1,2,29,30]),(9,[4]),(10,[1,2,29,37]),(11,[1,2,29,37]),(12,[1,2,29,37]),(13,[1,2,44]),(14,[4]),(15,[1,2,29,45]),(16,[1,2,45]),(17,[1,2,51]),(18,[4]),(19,[1,53,54,55]),(20,[1,53,54,55,56]),(21,[1,6,53,54,55]),(22,[1,53,54,55,62]),(23,[4]),(24,[1,53,54,55]),(25,[4])]),
 (36,[(0,[0,3]),(1,[0,3,5]),(2,[0,3,5]),(3,[5]),(4,[4])]),
 (37,[(0,[1,2]),(1,[1,2,9]),(2,[2]),(3,[1,2,3]),(4,[1,2,3,20,21,22]),(5,[1,2,3,20,21,22,23]),(6,[1,2,3,4,5,20,21,22]),(7,[1,2,3,20,21,22]),(8,[1,2,3,20,21,22]),(9,[2])]),
 (38,[(0,[1]),(1,[1,6]),(2,[2]),(3,[1,3]),(4,[3]),(5,[2])]),
 (39,[(0,[1]),(1,[1,6]),(2,[1,6,7]),(3,[1,6,7]),(4,[2]),(5,[1,6,10]),(6,[2]),(7,[1,6,15]),(8,[1,6,15]),(9,[19,20,21]),(10,[19,20,21,22]),(11,[4,19,20,21]),(12,[19,20,21,27]),(13,[2]),(14,[19,20,21]),(15,[2]),(16,[1,29]),(17,[2]),(18,[2])]),
 (40,[(0,[1,2,3]),(1,[1,2,3,7]),(2,[2,3,7,20,21,22]),(3,[2,3,7,20,21,22,23]),(4,[2,3,7,9,20,21,22]),(5,[2,3,7,9,10,20,21,22]),(6,[2,3,7,9,10,20,21,22]),(7,[2,3,7,9,11,20,21,22]),(8,[2,3,7,11,12,20,21,22]),(9,[2,3,7,20,21,22]),(10,[2,3,7,20,21,22]),(11,[6])]),
 (41,[(0,[2,3,4]),(1,[2,3,4,7,8]),(2,[3,4,7,8]),(3,[3,4,7,8,9]),(4,[3,4,7,8,9,28]),(5,[3,4,7,8,9]),(6,[3,4,7,8,9]),(7,[3,8,10]),(8,[3,8,10,11]),(9,[3,8,10,11,12]),(10,[3,8,10,11,12,48]),(11,[3,8,10,11,12]),(12,[3,8,10,11,12,13]),(13,[3,8,10,11,12,13]),(14,[3,8,10,11,12,13]),(15,[3,8,10,11,12]),(16,[6])]),
 (42,[(0,[2,3,4]),(1,[2,3,4,7]),(2,[2,3,4,7,20,21,22]),(3,[2,3,4,7,20,21,22,23]),(4,[2,3,4,7,9,20,21,22]),(5,[2,3,4,7,10,20,21,22]),(6,[2,3,4,7,20,21,22]),(7,[2,3,4,7,20,21,22]),(8,[6])]),
 (43,[(0,[2,3,4]),(1,[2,3,7]),(2,[2,3,7,8]),(3,[7]),(4,[6])]),
 (44,[(0,[1,6,7,8]),(1,[1,6,7,8,9]),(2,[1,4,5,6,7,8]),(3,[1,4,5,6,7,8,14]),(4,[1,4,5,6,7,8]),(5,[1,4,5,6,7,8]),(6,[1,6,7,8])]),
 (45,[(0,[0,1,2,3]),(1,[0,1,2,3,10]),(2,[]),(3,[0,2,20]),(4,[])]),
 (46,[(0,[1,2]),(1,[1,2,7]),(2,[2,3]),(3,[2,3])]),
 (47,[(0,[2,3,4]),(1,[2,3,4,5,6]),(2,[2,3,4,5,6,12]),(3,[2,3,4,5,6,12,13]),(4,[4]),(5,[2,3,4,5,6,12,18]),(6,[3,4,5,6,24]),(7,[3,4,5]),(8,[4]),(9,[2,3,4,5,12,31]),(10,[2,3,4,5,12,31]),(11,[2,3,4,5,12,31]),(12,[4]),(13,[2,3,4,5,12,38]),(14,[4,7]),(15,[4,7,8]),(16,[4]),(17,[2,3,4,5,57]),(18,[4]),(19,[4])]),
 (48,[(0,[1,2,3]),(1,[1,2,3,16]),(2,[6]),(3,[1,2,3]),(4,[1,2,23,24,25]),(5,[1,2,23,24,25,26]),(6,[1,2,8,23,24,25]),(7,[1,2,23,24,25,34]),(8,[6]),(9,[1,2,23,24,25]),(10,[6])]),
 (49,[(0,[0,1,4]),(1,[0,1,4,6]),(2,[0,1,4,6,7]),(3,[4]),(4,[0,1,4,6,11]),(5,[4]),(6,[0,1,4,15]),(7,[4]),(8,[0,1,4,21]),(9,[4]),(10,[0,4,5]),(11,[4,5,26]),(12,[4,5,26,27]),(13,[4,5,37]),(14,[4]),(15,[4]),(16,[4,5,45]),(17,[4,5,47]),(18,[4]),(19,[4,5,57]),(20,[4]),(21,[4]),(22,[4])]),
 (50,[(0,[0,3]),(1,[0,3,5]),(2,[0,3,5,6]),(3,[]),(4,[0,3,5,10]),(5,[]),(6,[0,3,5,14]),(7,[]),(8,[0,3,5,22]),(9,[]),(10,[0,3,5,28]),(11,[]),(12,[0,3,5,34]),(13,[]),(14,[0,3,5,40]),(15,[0,3]),(16,[]),(17,[0,3,48]),(18,[0]),(19,[])]),
 (51,[(0,[0]),(1,[2])]),
 (52,[(0,[0,1]),(1,[4])]),
 (53,[(0,[])]),
 (54,[(0,[0,1,6]),(1,[0,1,6,12]),(2,[0,1,6]),(3,[0,1,6])]),
 (55,[(0,[1]),(1,[2])]),
 (56,[(0,[0,2,3,4,6]),(1,[0,2,6]),(2,[])]),
 (57,[(0,[0,2,3,12]),(1,[])]),
 (58,[(0,[])]),
 (59,[(0,[0,1,2,7]),(1,[])]),
 (60,[(0,[0,1,2,3,10,11]),(1,[0,1,2,3,10,11,12]),(2,[0,1,2,3,5,10,11]),(3,[0,1,2,3,5,10,11,16]),(4,[0,1,2,3,10,11]),(5,[0,1,2,3,10,11]),(6,[0,1,2,3,10,11])]),
 (61,[(0,[0,1,2,3,5]),(1,[0,1,2,3,5,6]),(2,[0,1,2,3,5,6,13]),(3,[0,1,2,3,5,6]),(4,[0,1,2,3,5,6]),(5,[0,1,2,3,5]),(6,[0,3,5]),(7,[])]),
 (62,[(0,[0]),(1,[0,4]),(2,[2]),(3,[2])]),
 (63,[(0,[2,3,4]),(1,[2,3,4,5,6]),(2,[2,3,4,5,6,7]),(3,[2,3,4,5,6,7,21,22,23]),(4,[2,3,4,5,6,7,21,22,23,24]),(5,[2,3,4,5,6,7,8,9,21,22,23]),(6,[2,3,4,5,6,7,8,10,21,22,23]),(7,[2,3,4,5,6,7,10,21,22,23]),(8,[2,3,4,5,6,7,21,22,23,42]),(9,[2,3,4,5,6,7,21,22,23]),(10,[2,3,4,5,6,7,21,22,23]),(11,[3,4,7,11]),(12,[3,4,7,11,56]),(13,[3,4,7,11,56,57]),(14,[4,11]),(15,[3,4,7,11,56,62]),(16,[4,11]),(17,[4,7,11,70]),(18,[4,11]),(19,[4])]),
 (64,[(0,[2,3,4]),(1,[2,3,4,5]),(2,[2,3,4,5,6]),(3,[2,3,4,5,6,7]),(4,[2,4,5,6,7,20,21,22]),(5,[2,4,5,6,7,20,21,22,23]),(6,[2,4,5,6,7,8,9,20,21,22]),(7,[2,4,5,6,7,8,9,20,21,22,28]),(8,[2,4,5,6,7,20,21,22]),(9,[2,4,5,6,8,10,20,21,22]),(10,[2,4,5,6,7,20,21,22]),(11,[2,4,5,6,7,20,21,22]),(12,[4,5,6,7,11]),(13,[4,6,7,11,54,55,56]),(14,[4,6,7,11,54,55,56,57]),(15,[4,6,7,11,12,13,54,55,56]),(16,[4,6,7,11,12,13,54,55,56,63]),(17,[4,6,7,11,54,55,56]),(18,[4,6,7,11,12,14,54,55,56]),(19,[4,6,7,11,54,55,56]),(20,[4,6,7,11,54,55,56]),(21,[4])]),
 (65,[(0,[0,2]),(1,[0,2,5]),(2,[2]),(3,[2,3]),(4,[2])]),
 (66,[(0,[0,2]),(1,[0,2,5]),(2,[2]),(3,[2,3]),(4,[2])]),
 (67,[(0,[0,2]),(1,[0,2,5]),(2,[2]),(3,[2,3]),(4,[2])]),
 (68,[(0,[0]),(1,[0])]),
 (69,[(0,[0,1]),(1,[0,1]),(2,[]),(3,[4])]),
 (70,[(0,[0,2,3,10,11,12]),(1,[0,2,3,10,11,12,13]),(2,[0,2,3,8,9,10,11,12]),(3,[0,2,3,9,10,11,12,18]),(4,[0,2,3,9,10,11,12]),(5,[0,2,3,9,10,11,12,26]),(6,[0,2,3,10,11,12]),(7,[0,2,3,9,10,11,12]),(8,[0,2,3,10,11,12]),(9,[0,2,3,10,11,12]),(10,[0,2,3,10,11,12])]),
 (71,[(0,[0,1]),(1,[0,1,7,8]),(2,[0,1,7,8,9]),(3,[0,1,5,7,8]),(4,[0,1,5,7,8,16]),(5,[4]),(6,[0,1,7,8]),(7,[4])]),
 (72,[(0,[1]),(1,[2])]),
 (73,[(0,[2,3,4]),(1,[3,4,6]),(2,[4]),(3,[4])]),
 (74,[(0,[0]),(1,[0])]),
 (75,[(0,[0,1]),(1,[0,1,5]),(2,[0,1,5,12]),(3,[4]),(4,[0,1,5,6]),(5,[0,1,5,6,19]),(6,[0,1,5,6]),(7,[0,1,5,6,7]),(8,[0,1,5,6,7,29]),(9,[0,1,5,6]),(10,[0,1,5,6]),(11,[0,5]),(12,[4])]),
 (76,[(0,[0,1]),(1,[0,1,5]),(2,[0,5,8,9,10]),(3,[0,5,8,9,10,11]),(4,[0,5,7,8,9,10]),(5,[0,5,7,8,9,10,17]),(6,[0,5,8,9,10]),(7,[0,5,8,9,10]),(8,[0,5,8,9,10]),(9,[4])]),
 (77,[(0,[0,1,5,6]),(1,[0,1,5,6,8]),(2,[0,1,5,6,8,9]),(3,[6]),(4,[0,1,6,12]),(5,[6]),(6,[6])]),
 (78,[(0,[0]),(1,[0]),(2,[2])]),
 (79,[(0,[0]),(1,[0])]),
 (80,[(0,[1]),(1,[2])]),
 (82,[(0,[0,1]),(1,[0,1]),(2,[1]),(3,[4,5])]),
 (83,[(0,[0]),(1,[3]),(2,[3,4]),(3,[2]),(4,[3,6]),(5,[2]),(6,[3,8]),(7,[2]),(8,[3,10]),(9,[2]),(10,[12]),(11,[2]),(12,[2])]),
 (84,[(0,[0,1,4]),(1,[])]),
 (85,[(0,[2,3]),(1,[2,3,9]),(2,[4]),(3,[2,3,19]),(4,[4]),(5,[4])]),
 (86,[(0,[0,1]),(1,[0,1,10]),(2,[4]),(3,[0,1,5]),(4,[0,1,5,15]),(5,[0,1,5]),(6,[0,1,5,28]),(7,[0,1,5,6]),(8,[0,1,5,6,7]),(9,[0,1,5,6,7,35]),(10,[0,1,5,6,7]),(11,[0,1,5,6,7,49]),(12,[0,1,5,6,7]),(13,[0,1,5,6,7]),(14,[0,5]),(15,[4]),(16,[4])]),
 (87,[(0,[2,3]),(1,[4])]),
 (89,[(0,[0,1,2,3,4,10]),(1,[0,1,2,3,4,10,11]),(2,[0,1,2,3,4,10,11,12]),(3,[0,1,2,3,4,10,11,12,25]),(4,[]),(5,[0,1,2,3,4,10,11,12,32]),(6,[]),(7,[0,1,2,3,4,10,11,12,39]),(8,[0,1,2,3,4,10,11,12]),(9,[0,1,2,3,4,10,11,12]),(10,[0,1,2,3,4,10,11,12,13,14]),(11,[0,1,2,3,4,10,11,12,13,14,56]),(12,[0,1,2,3,4,10,11,12,13]),(13,[0,1,2,3,4,10,11,12,13]),(14,[0,1,2,3,4,10,11,12,13,14]),(15,[0,1,2,3,4,10,11,12,13,75]),(16,[0,1,2,3,4,10,11,12,13,80]),(17,[0,1,2,3,4,10,11,12,13,97]),(18,[0,2,3,4,10,11,15]),(19,[0,1,2,3,4,10,11]),(20,[0,1,2,3,4,12,16,17]),(21,[0,1,2,3,4,11,12,16]),(22,[0,1,2,3,4,11,12,16,18,19]),(23,[0,1,2,3,4,11,16,18,19,20]),(24,[0,1,2,3,4,11,16,18,19,20,125]),(25,[0,1,2,3,4,10,11,16]),(26,[0,2,3,4,10,11,16]),(27,[0,1,2,3,4,10,11]),(28,[0,1,2,3,4,10,11,16]),(29,[0,1,3,4,10,11,16]),(30,[0,1,2,3,4,10,11])]),
 (90,[(0,[0]),(1,[2]),(2,[2])]),
 (91,[(0,[0,1]),(1,[0,1,5]),(2,[0,1,5,6]),(3,[0,1,6,11]),(4,[12]),(5,[4]),(6,[4]),(7,[0,1,13]),(8,[4]),(9,[0,1,16]),(10,[4]),(11,[19]),(12,[4]),(13,[4])]),
 (92,[(0,[0,1,2]),(1,[0,1,2,11,12,13]),(2,[0,1,2,11,12,13,14]),(3,[0,1,2,7,8,11,12,13]),(4,[0,1,2,7,8,11,12,13,21]),(5,[6]),(6,[0,1,2,8,9,11,12,13]),(7,[0,1,2,10,11,12,13]),(8,[0,1,2,10,11,12,13,31]),(9,[6]),(10,[0,1,2,11,12,13]),(11,[38]),(12,[6]),(13,[6])]),
 (93,[(0,[0,1,2,3,8]),(1,[0,1,2,3,8,14]),(2,[0,1,2,3,8]),(3,[0,1,2,3,8,9]),(4,[0,1,2,3,8,9,34]),(5,[0,1,2,3,8,9]),(6,[0,1,2,3,8,9])]),
 (94,[(0,[0,1,2,3,8]),(1,[0,1,2,3,8,9]),(2,[0,3,8,9,10]),(3,[0,3,8,9,10,11]),(4,[0,3,8,9,10,11,21]),(5,[0,3,8,9,10,11]),(6,[0,3,8,9,10,11]),(7,[0,3,8,9,12]),(8,[0,3,8,9,12,33]),(9,[0,3,8,9,12]),(10,[0,3,8,9,12]),(11,[0,3,8,9,12])]),
 (95,[(0,[0,1,8]),(1,[0,1,8,17]),(2,[0,1,8,9]),(3,[0,1,8,9,10]),(4,[0,1,8,9,10,11]),(5,[0,1,8,9,10,11,35]),(6,[0,1,8,9,10,11]),(7,[0,1,8,9,10,11,12]),(8,[0,1,8,9,10,11,12,45]),(9,[0,1,8,9,10,11,12]),(10,[0,1,8,9,10,11])]),
 (96,[(0,[0,1,2,3]),(1,[0,1,3,10]),(2,[0,1,3,10,11]),(3,[0,1,3,10,11,12]),(4,[0,1,3,10,11,12,13]),(5,[0,3,10,11,12,13,14]),(6,[0,3,10,11,12,13,14,34]),(7,[0,3,11,12,13,14,36]),(8,[0,3,11,12,13,14]),(9,[0,3,11,12,13,14]),(10,[0,3,11,12,13,14]),(11,[11,13]),(12,[13,55]),(13,[8,9]),(14,[13,55,57]),(15,[8,9]),(16,[13,60]),(17,[8,9])]),
 (97,[(0,[0,2,8]),(1,[0,8,9]),(2,[0,8,9,15]),(3,[0,8,9]),(4,[0,8,9]),(5,[0,8,9])]),
 (98,[(0,[0,1,2,3]),(1,[0,1,2,3,9]),(2,[0,1,2,3,9,10]),(3,[0,1,2,3,9,10,16]),(4,[0,1,2,3,9,10]),(5,[0,1,2,3,9,10,36]),(6,[0,1,2,3,9,10]),(7,[0,1,2,3,9,10,41]),(8,[8]),(9,[0,1,2,3,9,10,45]),(10,[8]),(11,[0,1,2,3,9,10]),(12,[0,1,2,3,9,10,65]),(13,[0,1,2,3,9,10,11]),(14,[0,1,2,3,9,10,11,69]),(15,[0,1,2,3,9,10,11]),(16,[0,1,2,3,9,10,11,84]),(17,[0,1,2,3,9,10,11]),(18,[0,1,2,3,9,10,104]),(19,[0,1,2,3,9,10,12]),(20,[0,1,2,3,9,10,12,109]),(21,[0,1,2,3,9,10,12]),(22,[0,1,2,3,9,10,12,124]),(23,[0,1,2,3,9,10,12]),(24,[8])]),
 (99,[(0,[0,1,2,3,4]),(1,[0,1,2,4]),(2,[0,1,4,11,12]),(3,[0,1,4,11,12,47]),(4,[0,1,4,11,12]),(5,[0,1,4,11,12,65]),(6,[0,1,4,11,12]),(7,[0,1,4,11,12,70]),(8,[0,1,4,11,12]),(9,[0,1,4,11,12]),(10,[0,1,4,11,12]),(11,[10])]),
 (100,[(0,[0,1,2,3,4]),(1,[0,1,2,4]),(2,[0,1,4,12,13]),(3,[0,1,4,12,13,47]),(4,[0,1,4,12,13]),(5,[0,1,4,12,13,66]),(6,[0,1,4,12,13]),(7,[0,1,4,12,13,71]),(8,[13]),(9,[10,11]),(10,[0,1,4,12,13]),(11,[0,1,4,12,13]),(12,[0,1,4,12,13]),(13,[0,1,4,12,13,120]),(14,[0,1,4,12,13]),(15,[0,1,4,12,13,139]),(16,[0,1,4,12,13]),(17,[0,1,4,12,13,144]),(18,[0,1,4,12,13]),(19,[0,1,4,12,13]),(20,[0,1,4,12,13]),(21,[13]),(22,[10,11])]),
 (102,[(0,[0,2]),(1,[0,2,4]),(2,[0]),(3,[0,2]),(4,[0,2,8]),(5,[0,2]),(6,[0,2]),(7,[0,2,14]),(8,[0,2]),(9,[0,2]),(10,[2])]),
 (103,[(0,[0]),(1,[2])]),
 (104,[(0,[0,2,3,4,10]),(1,[0,2,3,4,10,11]),(2,[0,2,3,4,10,11,18]),(3,[0,2,3,4,10,11,40]),(4,[0,2,3,4,10,11]),(5,[0,2,3,4,10,11,58]),(6,[0,2,3,4,11]),(7,[0,2,3,4,10])]),
 (105,[(0,[0]),(1,[2])]),
 (106,[(0,[0]),(1,[0]),(2,[0]),(3,[0]),(4,[2])]),
 (107,[(0,[0,1,2,3]),(1,[8])]),
 (108,[(0,[0,1,2,3,4,5]),(1,[0,1,2,3,4,5]),(2,[0,1,2,4,5]),(3,[2]),(4,[12])]),
 (109,[(0,[0,1,2,3,4]),(1,[1,2,3,22]),(2,[1,2]),(3,[10,11]),(4,[10,11])])]
def adI:List (Nat × List (Nat × List Nat)):=[(4,[(26,[1,2,3]),(35,[1,2,3,7])]),
 (5,[(5,[]),(9,[]),(13,[])]),
 (6,[]),
 (7,[(13,[0,1]),(17,[0,1,5]),(32,[0,1,5])]),
 (8,[]),
 (9,[(13,[1,2,4]),(22,[4,7]),(26,[4,7])]),
 (12,[(14,[1,2])]),
 (13,[]),
 (14,[(13,[1,2,4]),(18,[1,2,4]),(25,[1,2,4,23,24]),(38,[1,2,4,8,23,24])]),
 (15,[]),
 (16,[]),
 (17,[(26,[1,2,5,6,20,26]),(32,[1,2,5,6,32]),(39,[1,2,5,6]),(63,[1,2,5,7])]),
 (18,[(20,[1,2,6,7,8])]),
 (19,[]),
 (20,[(10,[1,2]),(13,[1,2]),(17,[])]),
 (21,[]),
 (22,[(5,[1,2])]),
 (23,[]),
 (24,[(18,[0,3,16,17]),(38,[0,3,4,5,16,17]),(51,[0,3,4,7,16,17]),(58,[0,3,4,5,16,17])]),
 (25,[(24,[2,3,21,22,23])]),
 (26,[]),
 (27,[(16,[0,1]),(20,[0,1,18,19]),(34,[0,1,18,19])]),
 (28,[]),
 (29,[]),
 (30,[(10,[2,3,4]),(17,[2,3,4]),(26,[2,3,4,9,26]),(33,[2,3,4])]),
 (31,[]),
 (32,[]),
 (33,[]),
 (34,[]),
 (35,[(9,[1,2]),(27,[1,2]),(30,[1,2,29,30]),(37,[1,2,29,37]),(44,[1,2]),(45,[1,2,45]),(51,[1,2]),(56,[1,53,54,55]),(62,[1,53,54,55])]),
 (36,[]),
 (37,[(9,[1,2]),(23,[1,2,3,20,21,22])]),
 (38,[(6,[1])]),
 (39,[(7,[1,6,7]),(10,[]),(15,[1,6,15]),(22,[19,20,21]),(27,[19,20,21]),(29,[])]),
 (40,[(23,[2,3,7,20,21,22])]),
 (41,[(28,[3,4,7,8,9]),(48,[3,8,10,11,12])]),
 (42,[(23,[2,3,4,7,20,21,22])]),
 (43,[]),
 (44,[(9,[1,6,7,8]),(14,[1,4,5,6,7,8])]),
 (45,[(10,[]),(20,[])]),
 (46,[(7,[1,2])]),
 (47,[(13,[4,5]),(18,[4,5]),(24,[3,4,5]),(31,[2,3,4,5,12,31]),(38,[4,5]),(57,[4,5])]),
 (48,[(16,[1,2,3]),(26,[1,2,23,24,25]),(34,[1,2,23,24,25])]),
 (49,[(7,[0,1,4]),(11,[0,1,4]),(15,[0,1,4]),(21,[0,1,4]),(27,[4]),(37,[4,5]),(45,[4]),(47,[4,5]),(57,[4,5])]),
 (50,[(6,[]),(10,[]),(14,[]),(22,[]),(28,[]),(34,[]),(40,[]),(48,[])]),
 (51,[]),
 (52,[]),
 (53,[]),
 (54,[(12,[0,1,6])]),
 (55,[]),
 (56,[]),
 (57,[(12,[])]),
 (58,[]),
 (59,[(7,[])]),
 (60,[(12,[0,1,2,3,10,11]),(16,[0,1,2,3,10,11])]),
 (61,[(13,[0,1,2,3,5,6])]),
 (62,[(4,[0])]),
 (63,[(24,[2,3,4,5,6,7,21,22,23]),(42,[2,3,4,5,6,7,21,22,23]),(57,[4,11]),(62,[4,11]),(70,[4,11])]),
 (64,[(23,[2,4,5,6,7,20,21,22]),(28,[2,4,5,6,8,9,20,21,22]),(57,[4,6,7,11,54,55,56]),(63,[4,6,7,11,12,13,54,55,56])]),
 (65,[(5,[0,2])]),
 (66,[(5,[0,2])]),
 (67,[(5,[0,2])]),
 (68,[]),
 (69,[]),
 (70,[(13,[0,2,3,10,11,12]),(18,[0,2,3,9,10,11,12]),(26,[0,2,3,9,10,11,12])]),
 (71,[(9,[0,1,7,8]),(16,[0,1,7,8])]),
 (72,[]),
 (73,[(6,[3,4])]),
 (74,[]),
 (75,[(12,[0,1,5]),(19,[0,1,5,6]),(29,[0,1,5,6])]),
 (76,[(11,[0,5,8,9,10]),(17,[0,5,8,9,10])]),
 (77,[(9,[0,1,6]),(12,[0,1,6])]),
 (78,[]),
 (79,[]),
 (80,[]),
 (82,[]),
 (83,[(4,[]),(6,[]),(8,[]),(10,[]),(12,[])]),
 (84,[]),
 (85,[(9,[2,3]),(19,[2,3])]),
 (86,[(10,[0,1]),(15,[0,1,5]),(28,[0,1,5]),(35,[0,1,5,6,7]),(49,[0,1,5,6,7])]),
 (87,[]),
 (89,[(25,[0,1,2,3,4,10,11,12]),(32,[0,1,2,3,4,10,11,12]),(39,[0,1,2,3,4,10,11,12]),(56,[0,1,2,3,4,10,11,12,13,14]),(75,[0,1,2,3,4,10,11,12,13]),(80,[0,1,2,3,4,10,11,12,13]),(97,[0,1,2,3,4,12,13]),(125,[0,1,2,3,4,10,11])]),
 (90,[]),
 (91,[(11,[0,1,6]),(12,[]),(13,[0,1]),(16,[0,1]),(19,[])]),
 (92,[(14,[0,1,2,11,12,13]),(21,[0,1,2,7,8,11,12,13]),(31,[0,1,2,11,12,13]),(38,[])]),
 (93,[(14,[0,1,2,3,8]),(34,[0,1,2,3,8,9])]),
 (94,[(21,[0,3,8,9,10,11]),(33,[0,3,8,9,12])]),
 (95,[(17,[]),(35,[0,1,8,9,10,11]),(45,[0,1,8,9,10,11,12])]),
 (96,[(34,[11,13]),(36,[0,3,11,12,13,14]),(57,[8,9]),(60,[8,9])]),
 (97,[(15,[0,8,9])]),
 (98,[(16,[0,1,2,3,9,10]),(36,[0,1,2,3,9,10]),(41,[0,1,2,3,9,10]),(45,[0,1,2,3,9,10]),(65,[0,1,2,3,9,10]),(69,[0,1,2,3,9,10,11]),(84,[0,1,2,3,9,10,11]),(104,[0,1,2,3,9,10]),(109,[0,1,2,3,9,10,12]),(124,[0,1,2,3,9,10,12])]),
 (99,[(47,[0,1,4,11,12]),(65,[0,1,4,11,12]),(70,[0,1,4,11,12])]),
 (100,[(47,[0,1,4,12,13]),(66,[0,1,4,12,13]),(71,[0,1,4,12,13]),(120,[0,1,4,12,13]),(139,[0,1,4,12,13]),(144,[0,1,4,12,13])]),
 (102,[(4,[0,2]),(8,[0,2]),(14,[0,2])]),
 (103,[]),
 (104,[(18,[0,2,3,4,10,11]),(40,[0,2,3,4,10,11]),(58,[0,2,3,4,10,11])]),
 (105,[]),
 (106,[]),
 (107,[]),
 (108,[]),
 (109,[(22,[1,2])])]
def adJ:List (Nat × List (Nat × List Nat)):=[(4,[]),
 (5,[(0,[])]),
 (6,[]),
 (7,[(0,[]),(1,[0,1,5])]),
 (8,[]),
 (9,[(0,[4,7]),(1,[4,7])]),
 (12,[]),
 (13,[]),
 (14,[(0,[2,4]),(1,[1,2,4,23,24])]),
 (15,[]),
 (16,[]),
 (17,[(0,[1,2,5,6]),(1,[6]),(2,[1,2,5,6,7])]),
 (18,[(0,[6,7]),(1,[1,2,6,7,8])]),
 (19,[]),
 (20,[]),
 (21,[]),
 (22,[]),
 (23,[]),
 (24,[(0,[0,3]),(1,[0,3,16,17])]),
 (25,[(0,[2,3]),(1,[2,3,21,22,23])]),
 (26,[]),
 (27,[(0,[]),(1,[0,1,18,19])]),
 (28,[]),
 (29,[]),
 (30,[(0,[2,3,4])]),
 (31,[]),
 (32,[]),
 (33,[]),
 (34,[]),
 (35,[(0,[1,2]),(1,[]),(2,[1,53,54,55])]),
 (36,[]),
 (37,[(0,[1,2,3]),(1,[1,2,3,20,21,22])]),
 (38,[]),
 (39,[(0,[]),(1,[]),(2,[19,20,21])]),
 (40,[(0,[7]),(1,[2,3,7,20,21,22])]),
 (41,[(0,[3,4,7,8]),(1,[3,4,7,8,9]),(2,[11]),(3,[3,8,10,11,12])]),
 (42,[(0,[7]),(1,[2,3,4,7,20,21,22])]),
 (43,[]),
 (44,[(0,[]),(1,[1,6,7,8]),(2,[1,6,7,8]),(3,[1,4,5,6,7,8])]),
 (45,[(0,[])]),
 (46,[]),
 (47,[(0,[4,5])]),
 (48,[(0,[]),(1,[1,2,23,24,25])]),
 (49,[(0,[0,1,4]),(1,[4]),(2,[4,5])]),
 (50,[(0,[])]),
 (51,[]),
 (52,[]),
 (53,[]),
 (54,[(0,[]),(1,[0,1,6])]),
 (55,[]),
 (56,[]),
 (57,[]),
 (58,[]),
 (59,[]),
 (60,[(0,[]),(1,[0,1,2,3,10,11])]),
 (61,[(0,[0,1,2,3,5]),(1,[0,1,2,3,5,6])]),
 (62,[]),
 (63,[(0,[3,4,5,6,7]),(1,[2,3,4,5,6,7,21,22,23]),(2,[4,11])]),
 (64,[(0,[4,5,6,7]),(1,[2,4,5,6,7,20,21,22]),(2,[4,6,7,11]),(3,[4,6,7,11,54,55,56])]),
 (65,[]),
 (66,[]),
 (67,[]),
 (68,[]),
 (69,[]),
 (70,[(0,[]),(1,[0,2,3,10,11,12])]),
 (71,[(0,[]),(1,[0,1,7,8])]),
 (72,[]),
 (73,[]),
 (74,[]),
 (75,[(0,[0,5]),(1,[0,1,5,6])]),
 (76,[(0,[5]),(1,[0,5,8,9,10])]),
 (77,[(0,[0,1,6])]),
 (78,[]),
 (79,[]),
 (80,[]),
 (82,[]),
 (83,[(0,[])]),
 (84,[]),
 (85,[]),
 (86,[(0,[0]),(1,[0,1,5]),(2,[0,5]),(3,[0,1,5,6,7])]),
 (87,[]),
 (89,[(0,[]),(1,[0,1,2,3,4,10,11])]),
 (90,[]),
 (91,[]),
 (92,[(0,[0,1]),(1,[0,1,2,11,12,13])]),
 (93,[(0,[]),(1,[0,1,2,3,8]),(2,[0,1,2,3,8]),(3,[0,1,2,3,8,9])]),
 (94,[(0,[0,3,8,9,10]),(1,[0,3,8,9,10,11]),(2,[]),(3,[0,3,8,9,12])]),
 (95,[(0,[]),(1,[0,1,8,9,10,11])]),
 (96,[(0,[8,9])]),
 (97,[(0,[]),(1,[0,8,9])]),
 (98,[(0,[]),(1,[0,1,2,3,9,10]),(2,[0,1,2,3,9,10]),(3,[0,1,2,3,9,10]),(4,[0,1,2,3,9,10]),(5,[0,1,2,3,9,10,11]),(6,[0,1,2,3,9,10]),(7,[0,1,2,3,9,10,12])]),
 (99,[(0,[11]),(1,[0,1,4,11,12]),(2,[0,1,4,11,12]),(3,[0,1,4,11,12]),(4,[0,1,4,11,12]),(5,[0,1,4,11,12])]),
 (100,[(0,[0,1,4,12,13]),(1,[0,1,4,12,13]),(2,[0,1,4,12,13]),(3,[0,1,4,12,13]),(4,[0,1,13]),(5,[0,1,4,12,13]),(6,[0,1,4,12,13]),(7,[0,1,4,12,13]),(8,[0,1,4,12,13]),(9,[0,1,4,12,13])]),
 (102,[]),
 (103,[]),
 (104,[(0,[]),(1,[0,2,3,4,10])]),
 (105,[]),
 (106,[]),
 (107,[]),
 (108,[]),
 (109,[])]
def adK:List (Nat × List (Nat × List Nat)):=[(14,[(0,[2]),(1,[2]),(2,[2]),(4,[2]),(6,[2]),(7,[2]),(8,[2]),(9,[2]),(10,[2]),(11,[2]),(13,[2]),(14,[2])])]
def adL:List (Nat × List Nat):=[(14,[0]),
 (22,[0]),
 (37,[0]),
 (46,[0]),
 (47,[0]),
 (49,[0]),
 (65,[0]),
 (66,[0]),
 (67,[0]),
 (73,[0])]
def adM:List (Nat × List (Nat × List (Nat × Nat))):=[(4,[(1,[(1,13),(15,7)]),(2,[(0,8)]),(3,[(2,14)]),(5,[(3,8)]),(6,[(2,12),(7,12),(10,8)])]),
 (5,[(1,[(1,15)]),(3,[(1,16)]),(5,[(2,17)])]),
 (6,[(1,[(1,18)])]),
 (7,[(1,[(1,15)])]),
 (8,[(1,[(0,19),(1,9)])]),
 (9,[(1,[(2,20)]),(4,[(1,22),(3,21)]),(5,[(1,23)]),(6,[(1,24)]),(9,[(1,25)])]),
 (12,[(1,[(1,26),(5,27)]),(4,[(1,28)]),(5,[(1,29)]),(6,[(3,30),(8,31)])]),
 (13,[(1,[(1,32),(4,6)])]),
 (14,[(1,[(1,20)]),(4,[(1,27)]),(6,[(1,22)]),(10,[(6,33)])]),
 (16,[(1,[(1,18)])]),
 (17,[(18,[(6,17)])]),
 (18,[(5,[(6,18)])]),
 (20,[(3,[(1,34)]),(5,[(2,35)])]),
 (21,[(3,[(2,36)])]),
 (22,[(1,[(1,26)]),(3,[(1,37)])]),
 (24,[(5,[(13,33)]),(8,[(5,38)]),(12,[(2,36)])]),
 (25,[(5,[(3,39)])]),
 (26,[(1,[(1,20)])]),
 (30,[(3,[(4,40)]),(5,[(6,41)]),(8,[(3,42)]),(10,[(6,43)]),(12,[(2,44)])]),
 (32,[(1,[(1,5)])]),
 (33,[(1,[(3,47),(4,46)])]),
 (34,[(2,[(1,48)])]),
 (35,[(22,[(2,35)])]),
 (36,[(2,[(5,38)])]),
 (37,[(7,[(3,37)]),(9,[(3,49)])]),
 (38,[(1,[(1,26)]),(4,[(1,50)]),(5,[(0,51)])]),
 (39,[(6,[(2,145)]),(12,[(1,39)]),(17,[(9,39)])]),
 (40,[(1,[(5,30)]),(5,[(1,28)]),(6,[(2,141)]),(7,[(3,30)]),(8,[(5,55)]),(9,[(2,142)])]),
 (41,[(1,[(1,28)]),(2,[(2,136)]),(6,[(2,29)]),(7,[(3,30)]),(12,[(1,28)]),(13,[(2,29)]),(14,[(5,140)])]),
 (42,[(1,[(6,30)]),(5,[(3,30)]),(6,[(2,139)])]),
 (43,[(1,[(3,30)]),(3,[(2,138)])]),
 (44,[(5,[(4,62),(6,45)])]),
 (45,[(0,[(3,28)]),(2,[(5,137)]),(4,[(6,137)])]),
 (46,[(1,[(2,20)])]),
 (47,[(12,[(2,63)]),(14,[(5,47)]),(15,[(3,49)]),(16,[(4,49)]),(18,[(2,64)])]),
 (48,[(7,[(4,48)])]),
 (49,[(3,[(1,65)]),(5,[(1,66)]),(7,[(1,67)]),(18,[(0,68)]),(19,[(5,55)])]),
 (50,[(3,[(1,69)]),(5,[(1,69)]),(7,[(5,69)]),(9,[(3,70)]),(11,[(3,70)]),(13,[(3,70)]),(15,[(1,69)]),(16,[(3,70)]),(18,[(3,70)]),(19,[(1,69)])]),
 (52,[(1,[(2,71)])]),
 (53,[(0,[(6,54)])]),
 (55,[(1,[(14,72)])]),
 (56,[(0,[(1,28)]),(1,[(5,143)])]),
 (57,[(0,[(5,31)]),(1,[(6,54)])]),
 (59,[(0,[(2,31)]),(1,[(6,54)])]),
 (61,[(0,[(1,28)])]),
 (63,[(6,[(2,47)]),(11,[(3,49),(7,49)])]),
 (64,[(8,[(4,73)]),(9,[(2,47)]),(19,[(3,49)]),(21,[(1,49),(3,49)])]),
 (65,[(1,[(1,131)]),(2,[(0,74)]),(3,[(1,76),(2,135)]),(4,[(1,78),(2,79),(3,77)])]),
 (66,[(1,[(1,52)]),(2,[(0,79)]),(3,[(1,76),(2,133)]),(4,[(1,68),(2,77)])]),
 (67,[(1,[(1,52)]),(2,[(0,79)]),(3,[(1,76),(2,75)]),(4,[(1,78),(2,74),(3,77)])]),
 (70,[(4,[(2,82)]),(5,[(2,83)]),(6,[(2,50)]),(7,[(1,69)]),(8,[(2,50)]),(9,[(1,69)])]),
 (71,[(4,[(5,72)])]),
 (73,[(3,[(1,37)])]),
 (74,[(1,[(0,79)])]),
 (75,[(1,[(2,132)]),(8,[(2,55)])]),
 (78,[(1,[(1,84)]),(2,[(1,86)])]),
 (84,[(1,[(4,90),(6,89)])]),
 (85,[(2,[(4,91)]),(4,[(4,91)]),(5,[(4,92)])]),
 (86,[(6,[(10,87)]),(11,[(10,87)])]),
 (87,[(1,[(2,85)])]),
 (89,[(4,[(4,93)]),(6,[(4,94)]),(8,[(4,95)]),(10,[(4,96)]),(12,[(4,97)]),(16,[(4,98)]),(17,[(13,85)]),(18,[(5,99)]),(20,[(5,100)]),(26,[(5,89)]),(29,[(6,89)])]),
 (90,[(2,[(1,102)])]),
 (91,[(1,[(1,103)]),(2,[(1,103)])]),
 (92,[(7,[(3,85)])]),
 (93,[(4,[(14,85)])]),
 (94,[(6,[(5,104)]),(11,[(5,104)])]),
 (95,[(3,[(1,105)]),(7,[(0,106)])]),
 (96,[(8,[(3,107)]),(9,[(3,107)]),(10,[(3,107)]),(11,[(5,108)])]),
 (98,[(5,[(14,85)]),(16,[(10,85)]),(22,[(10,85)])]),
 (99,[(3,[(13,85)]),(5,[(13,85)])]),
 (100,[(3,[(13,85)]),(5,[(13,85)]),(13,[(13,85)]),(15,[(13,85)])]),
 (104,[(3,[(19,85)]),(5,[(13,85)])]),
 (105,[(1,[(2,90)])]),
 (107,[(1,[(8,108)])]),
 (108,[(1,[(5,109)]),(2,[(5,109)]),(3,[(5,109)])]),
 (109,[(1,[(9,85)])]),
 (131,[(1,[(2,132)])]),
 (132,[(4,[(5,55)])]),
 (133,[(1,[(2,134)]),(8,[(2,80)])]),
 (134,[(4,[(5,80)])]),
 (135,[(1,[(2,71)]),(8,[(2,72)])]),
 (136,[(5,[(4,62),(6,58)])]),
 (138,[(5,[(4,62),(6,61)])]),
 (139,[(5,[(4,62),(6,60)])]),
 (140,[(5,[(4,62),(6,59)])]),
 (141,[(5,[(4,62),(6,53)])]),
 (142,[(5,[(4,62),(6,56)])]),
 (143,[(5,[(4,62),(6,57)])]),
 (145,[(1,[(2,146)])]),
 (146,[(4,[(5,39)])])]
def adN:List (Nat × List (Nat × (Shape × List (Out × Shape)))):=[(7,[(65,LY)]),
 (9,[(81,LZ)]),
 (14,[(129,L0)]),
 (17,[(639,L1),(257,L3)]),
 (18,[(49,L4)]),
 (24,[(49,L5)]),
 (25,[(49,L6)]),
 (27,[(65,L7)]),
 (35,[(321,L8)]),
 (37,[(81,L9)]),
 (39,[(161,Ma)]),
 (40,[(49,Mb)]),
 (41,[(65,Mc),(161,Md)]),
 (42,[(49,Me)]),
 (44,[(49,Mf),(17,Mg)]),
 (45,[(175,Mh)]),
 (47,[(399,Mi)]),
 (48,[(81,Mj)]),
 (50,[(463,Mk),(367,Ml),(239,Mm),(175,Mn),(111,Mo)]),
 (54,[(17,Mp)]),
 (60,[(17,Mq)]),
 (61,[(33,Mr)]),
 (63,[(65,Ms)]),
 (64,[(81,Mt),(225,Mu)]),
 (70,[(303,Mv),(17,Mw)]),
 (71,[(33,Mx)]),
 (75,[(81,My)]),
 (76,[(49,Mz)]),
 (86,[(145,MA),(65,MB)]),
 (89,[(639,MC),(911,MD),(1215,ME),(33,MF)]),
 (92,[(33,MG)]),
 (93,[(65,MH),(17,MI)]),
 (94,[(65,MJ),(129,MK)]),
 (95,[(735,ML),(81,MM)]),
 (96,[(591,MN),(559,MO)]),
 (97,[(33,MP)]),
 (98,[(81,MQ),(225,MR),(1055,MS),(321,MT),(49,MU)]),
 (99,[(49,MV),(81,MW),(50,MX)]),
 (100,[(49,MY),(81,MZ),(209,M0),(241,M1),(210,M3)]),
 (102,[(79,M4),(143,M5)]),
 (104,[(655,M6),(17,M7)]),
 (132,[(33,M8)]),
 (133,[(81,M9)]),
 (134,[(33,Na)]),
 (135,[(81,Nb)]),
 (136,[(49,Nc),(17,Nd)]),
 (138,[(49,Nf),(17,Ng)]),
 (139,[(49,Nh),(17,Ni)]),
 (140,[(49,Nj),(17,Nk)]),
 (141,[(49,Nl),(17,Nn)]),
 (142,[(49,No),(17,Np)]),
 (143,[(49,Nq),(17,Nr)]),
 (146,[(33,Ns)])]
def adO:List (Nat × List (Nat × List Nat)):=[(30,[(11,[46])]),
 (41,[(8,[42])]),
 (75,[(12,[41])]),
 (86,[(15,[64])]),
 (133,[(12,[41])]),
 (135,[(12,[41])])]
def HI (k:Nat):FuncId:=(dO adD k).getD 0
def av:cP where
 aQ:=HI
 sin:=fun k=>(dO adE k).getD ⟨[],[]⟩
 gS:=fun k=>(dO adF k).getD ⟨[],[]⟩
 live:=fun k r=>(dO ((dO adH (HI k)).getD []) r).getD []
 join:=fun k r=>(dO ((dO adI (HI k)).getD []) r).getD []
 blk:=fun k r=>(dO ((dO adJ (HI k)).getD []) r).getD []
 pur:=fun k r=>(dO ((dO adK k).getD []) r).getD []
 ux:=fun k=>(dO adL k).getD []
 alt:=fun k=>dO adG k
 PI:=fun k r=>(dO ((dO adO k).getD []) r).getD []
 ck:=fun k r i=>(dO ((dO ((dO adM k).getD []) r).getD []) i).getD 0
 iv:=fun k x=>dO ((dO adN k).getD []) x
 xg:=[]
 EY:=fun _=>0
 ext:=fun f=>bif Nat.beq f 81 then some 87 else none
 oK:=fun f=>none
 idle:=fun f=>false
 mv:=fun k=>(dO ([(23,[1,2]),(24,[1,2]),(25,[1,2]),(36,[1,2]),(50,[1]),(51,[1]),(53,[2]),(57,[3]),(59,[2]),(69,[1]),(70,[1]),(82,[1]),(140,[2]),(141,[2]),(143,[3])]:List (Nat × List Nat)) k).getD []
 aF:=fun g=>bif Nat.beq g 0 then .pref [5,5,5,5,5,5,5,5,5,5,5,5,5,5,5,5,5,5,5,5,5,5,5,5,5,5,5,5,5,5,5,5,5,5,5,5,5,5,5,5,5,5,5,5,5,5,5,5,5,5,5,5,5,5,5,5,5,5,5,5,5,5,5,5] vE else .undef
noncomputable abbrev PG:Program:=Tryz.prog
noncomputable abbrev CC:ae:=Call Tryz.prog av
end Go.AM
set_option maxRecDepth 100000
namespace Go.AM
open Go.Proofs Go.RowKit
theorem adP (hP:Bo PG) (f:FuncId) (e:TypeId) (h:av.oK f=some e):RD PG f e:=by
 have h1:av.oK f=none:=by kernel_rfl
 rw[h1] at h
 cases h
theorem adQ {w:World} {b:Nat} {C:Array Value} {T:TypeId} (h:w.heap[b]? =some (.cells C T (0,0))):w.shape? b=some (T,C.size)∧w.frozen? ⟨b,0,none⟩=false∧w.cell? ⟨b,0,none⟩=C[0]? :=by
 refine ⟨by simp[World.shape?,h],by simp[World.frozen?,h],cell?_cells h⟩
set_option maxHeartbeats 1000000 in
theorem adR (b:Nat) (w:World) (h0:w.cell? ⟨b,0,none⟩=some (.pointer (some ⟨b,0,none⟩))):
  Calls Tryz.prog 81 #[.pointer (some ⟨b,0,none⟩)] w fun e w'=>e= .returned (.tuple #[])∧w'=w:=by
 obtain ⟨j,hj⟩:=Ad.1 (show (Tryz.prog.info? 87).isSome=true by kernel_rfl)
 have hu:Tryz.prog.underlying 84=some (.pointer 87):=by kernel_rfl
 go_enter Tryz.func81,Tryz.ntmps81
 go_wp2
 rw[Lib.run_neq_ptr_same w _ hu hj]
 go_wp2
 go_end0
 exact ⟨rfl,rfl⟩
set_option maxHeartbeats 1000000 in
theorem adS (b n:Nat) (w:World) (hn:0<n) (h0:w.cell? ⟨b,0,none⟩=some (.pointer none)) (tw:w.shape? b=some (87,n)) (Lv:w.frozen? ⟨b,0,none⟩=false) (hl:liesAt Tryz.prog Tryz.prog.depth 87 (n/Tryz.prog.cellsOf 87) 0 87 1=true):
  Calls Tryz.prog 81 #[.pointer (some ⟨b,0,none⟩)] w fun e w'=>e= .returned (.tuple #[])∧w'=w.setCell ⟨b,0,none⟩ (.pointer (some ⟨b,0,none⟩)):=by
 obtain ⟨j,hj⟩:=Ad.1 (show (Tryz.prog.info? 87).isSome=true by kernel_rfl)
 have hjs:j.size≠0:=by
  have U:(Tryz.prog.info? 87).map (·.size)=some 2:=by kernel_rfl
  rw[hj] at U
  simp at U
  omega
 have hu:Tryz.prog.underlying 84=some (.pointer 87):=by kernel_rfl
 have mM:Tryz.prog.underlying 112=some .unsafePointer:=by kernel_rfl
 go_enter Tryz.func81,Tryz.ntmps81
 go_wp2
 rw[Lib.run_to_unsafe w ⟨b,0,none⟩ hu mM hj hjs tw hn]
 simp only[Result.andThen]
 rw[Oper.upon_value]
 go_wp2
 rw[run_callFunc_extern Tryz.func88 (by kernel_rfl) (by kernel_rfl) (by kernel_rfl) (e:=Extern.AbiNoEscape.same) (by kernel_rfl)]
 rw[Lib.run_noEscape]
 simp only[Result.andThen]
 rw[Oper.upon_value]
 go_wp2
 rw[Lib.run_from_unsafe w ⟨b,0,none⟩ mM hu hj tw hl]
 simp only[Result.andThen]
 rw[Oper.upon_value]
 go_wp2
 go_end0
 exact ⟨rfl,rfl⟩
theorem adT (hP:Bo Tryz.prog):ji Tryz.prog av where
 count:=hP
 oK:=adP hP
 ext:=by
  intro f T h b C w hh hs hc
  have hf:f=81∧T=87:=by
   have h1:av.ext f=bif Nat.beq f 81 then some 87 else none:=by kernel_rfl
   rw[h1] at h
   cases hb:Nat.beq f 81 with
   | true=>rw[hb] at h;rw[a8] at hb;exact ⟨hb,(cT h).symm⟩
   | false=>rw[hb] at h;cases h
  obtain ⟨rfl,rfl⟩:=hf
  obtain ⟨h1,U,h3⟩:=adQ hh
  refine ⟨MuLone.run_callFunc_enter Tryz.func81 (hP _ _ Tryz.func81) (by kernel_rfl:Tryz.f81.body=some (cj Tryz.prog 81)) _ _,?_⟩
  have iY:Tryz.prog.cellsOf 87=2:=by kernel_rfl
  rcases hc with hc|hc
  ·refine (adS b C.size w (by omega) (h3.trans hc) h1 U (by rw[hs,iY];kernel_rfl)).mono ?_
   rintro e w' ⟨rfl,rfl⟩
   exact ⟨rfl,.inr rfl⟩
  ·refine (adR b w (h3.trans hc)).mono ?_
   rintro e w' ⟨rfl,rfl⟩
   exact ⟨rfl,.inl rfl⟩
 idle:=by
  intro f h
  have h1:av.idle f=false:=by kernel_rfl
  rw[h1] at h
  cases h
end Go.AM
set_option maxRecDepth 100000
namespace Go.AM
open Go.Proofs Go.Proofs.YtppefogdkedaiaaGreatDoor Go.Lib Go.MakeChecks
def rY:List Int:=[0,1,56,2,57,49,28,3,61,58,42,50,38,29,17,4,62,47,59,36,45,43,51,22,53,39,33,30,24,18,12,5,63,55,48,27,60,41,37,16,46,35,44,21,52,32,23,11,54,26,40,15,34,20,31,10,25,14,19,9,13,8,7,6]
theorem adU:vE=rY.map fun z=> .int .u8 z:=by kernel_rfl
theorem adV:Rows.laid_math_bits_deBruijn64tab (H:=Unit)=tabData .u8 rY:=by kernel_rfl
def B8 : List (String × DataW Unit) := [("math/bits.deBruijn64tab", Rows.laid_math_bits_deBruijn64tab)]
theorem aah {W:World} (h:laidMetH Tryz.prog B8 W):gV Tryz.prog av.aF W (mQ W):=by
 have h1 : laidMetH Tryz.prog [("math/bits.deBruijn64tab", tabData .u8 rY)] W := by
  have : B8 = [("math/bits.deBruijn64tab", tabData .u8 rY)] := by unfold B8; rw [adV]
  rwa [this] at h
 rw[laidMetH_plain _ _ _ (by kernel_rfl)] at h1
 have hn : Tryz.prog.globalNamed "math/bits.deBruijn64tab" = some 0 := by kernel_rfl
 have ht:=tabIs_of_head (g:=0) (t:=100) (e:=5) (n:=64) hn (by kernel_rfl) (by kernel_rfl) (by kernel_rfl) (by kernel_rfl) (by kernel_rfl) h1
 have hlen:rY.length=64:=by kernel_rfl
 have hc: ∀i,i<64→W.cell? ⟨0,i,none⟩=some (.int .u8 (rY.getD i 0)):=fun i hi=>ht.cell hn i (by rw[hlen];exact hi)
 intro g
 have hg:av.aF g=bif Nat.beq g 0 then .pref (List.replicate 64 5) vE else .undef:=by kernel_rfl
 rw[hg]
 cases hb:Nat.beq g 0 with
 | false=>exact .inl rfl
 | true=>
  rw[a8] at hb
  subst hb
  refine .inr ⟨List.replicate 64 5,vE,rfl,by kernel_rfl,fun _=> ?_,fun j t x hj hx=> ?_⟩
  ·have h0:=hc 0 (by omega)
   unfold mQ
   unfold World.cell? at h0
   by_cases hz:0<W.heap.size
   ·exact hz
   ·have:W.heap[0]? =none:=Array.getElem?_eq_none (by omega)
    simp[this] at h0
  ·have HJ:j<64:=by
    have:=(bu.1 hj).1
    simpa using this
   rw[EI,ah HJ] at hj
   cases hj
   rw[adU,gC] at hx
   have nM:rY[j]? =some (rY.getD j 0):=by
    rw[bN (by rw[hlen];exact HJ)]
    simp[List.getD,bN (show j<rY.length by rw[hlen];exact HJ)]
   rw[nM] at hx
   cases hx
   exact ⟨_,by simpa using hc j HJ,.int (by kernel_rfl)⟩
theorem own:ownKnob Tryz.prog.godebug=none:=by kernel_rfl
theorem adW:Bo Tryz.prog:=adb (by kernel_rfl)
theorem mixed:Tryz.prog.follows .mixedOrders=true:=by kernel_rfl
theorem aag:ji Tryz.prog av:=adT adW
noncomputable def PE (os:Os):World:=World.laidAll Tryz.prog os B8
theorem aae (os:Os) (args:Array Value):laidMetH Tryz.prog B8 ((PE os).forCall (fun _ _=>0) ⟨#[],args,[]⟩).memory:=by
 rw[laidMetH_plain _ _ _ (by kernel_rfl)]
 exact laidMet_laidAll args (by kernel_rfl) (by kernel_rfl)
end Go.AM
namespace Go.AM
open Go.ChangeShapes Go.WideShapes Go.ChangeAt Go.RowKit
section
variable {P:Program} {H:Type} {enc:TypeId × Value→H}
theorem ik.adX {t:TypeId} {l:List UInt8} (h:ik P t (.str l)):P.underlying t=some .string:=by
 cases ha:bL P t with
 | true=>obtain ⟨xs,e,_⟩:=h.1 ha;cases e
 | false=>
  have:=h.one ha
  cases this with
  | str hu _=>exact hu
theorem PF {w:World} {base:Nat} {spare:Nat→Bool} {held:Bool} {I:Nat→Prop} {β:Nat→Option Nat} {hp:Nat→Option an} {more:List TypeId} {gs:List (DataW H)}: ∀{ts:List TypeId} {vs:List Value} {ds:List (DataW H)} {ps:List MemPlace} {xs:List V},
  DataW.TrodAll enc P w base spare held ts vs ds ps→qM P ts xs→(∀(j:Nat) v x,vs[j]? =some v→xs[j]? =some x→ao P w I β hp v x)→
  (∀n∈DataW.weightsEach P (ts++more) (ds++gs),n≤reachBytes)→∀l,V.str l∈xs→l.length≤reachBytes
 | [],vs,ds,ps,xs,_,hw,_,_,l,hl=>by
  cases xs with
  | nil=>cases hl
  | cons x xs=>exact hw.elim
 | t::ts,vs,ds,ps,xs,h,hw,hr,hz,l,hl=>by
  obtain ⟨v,AJ,d,GL,a,b,rfl,rfl,rfl,h1,U⟩:=trodAll_cons h
  obtain ⟨x,ys,rfl,hx,hy⟩:=ED hw
  have TO: ∀n∈DataW.weightsEach P (ts++more) (GL++gs),n≤reachBytes:=fun n hn=>hz n (by
   rw[List.cons_append,List.cons_append,DataW.weightsEach];exact EO _ hn)
  rcases dp.1 hl with e|hl
  ·subst e
   have hv:=hr 0 v _ rfl rfl
   obtain ⟨fuel,h1⟩:=h1
   have hu:P.underlying t=some .string:=ik.adX hx
   obtain ⟨s,hs,hd,_⟩:=DataW.trod_string hu h1
   obtain ⟨rfl,rfl⟩:=Prod.mk.inj hd
   have FG:v= .string s:=by
    cases hv with
    | str=>simpa[Value.cells] using hs
   subst FG
   cases hv with
   | str l8=>
    refine hz _ ?_
    rw[List.cons_append,List.cons_append,DataW.weightsEach,DataW.weights,l8]
    simp
  ·exact PF U hy (fun j v x a b=>hr (j+1) v x (by simpa using a) (by simpa using b)) TO l hl
end
end Go.AM
namespace Go.AM
theorem wrap_u64 (n:Int):IntKind.u64.wrap n=n %18446744073709551616:=by simp[IntKind.wrap,IntKind.bits,IntKind.signed]
theorem tx {A:Nat} (h:A<2^64):IntKind.wrap .u64 (A:Int)=A:=by
 rw[wrap_u64];omega
theorem yO {n A:Nat} (h:A<2^n):(BitVec.ofInt n (A:Int)).toNat=A:=by
 rw[BitVec.ofInt_natCast,BitVec.toNat_ofNat];exact Nat.mod_eq_of_lt h
theorem adY {n A B:Nat} (hA:A<2^n) (hB:B<2^n):(BitVec.ofInt n (A:Int)|||BitVec.ofInt n (B:Int)).toNat=A|||B:=by
 rw[BitVec.toNat_or,yO hA,yO hB]
theorem bv_and {n A B:Nat} (hA:A<2^n) (hB:B<2^n):(BitVec.ofInt n (A:Int)&&&BitVec.ofInt n (B:Int)).toNat=A&&&B:=by
 rw[BitVec.toNat_and,yO hA,yO hB]
theorem u64_or {A B:Nat} (hA:A<2^64) (hB:B<2^64):IntKind.wrap .u64 ((BitVec.ofInt (IntKind.bits .u64) (A:Int)|||BitVec.ofInt (IntKind.bits .u64) (B:Int)).toNat)=((A|||B:Nat):Int):=by
 rw[adY (n:=IntKind.bits .u64) hA hB]
 exact tx (EP hA hB)
theorem u64_and {A B:Nat} (hA:A<2^64) (hB:B<2^64):IntKind.wrap .u64 ((BitVec.ofInt (IntKind.bits .u64) (A:Int)&&&BitVec.ofInt (IntKind.bits .u64) (B:Int)).toNat)=((A&&&B:Nat):Int):=by
 rw[bv_and (n:=IntKind.bits .u64) hA hB]
 exact tx (oD Nat.and_le_left hA)
theorem Nt {m:Nat} (h:m<64):IntKind.wrap .u64 (1*2^(min m (IntKind.bits .u64)))=((2^m:Nat):Int):=by
 have e:min m (IntKind.bits .u64)=m:=Nat.min_eq_left (by show m≤64;omega)
 rw[e]
 have:(1*2^m:Int)=((2^m:Nat):Int):=by simp
 rw[this]
 exact tx (Ai (by omega) h)
theorem yP {A m:Nat} (h:m<64):Int.fdiv (A:Int) (2^(min m (IntKind.bits .u64)))=((A/2^m:Nat):Int):=by
 have e:min m (IntKind.bits .u64)=m:=Nat.min_eq_left (by show m≤64;omega)
 rw[e]
 have:(2^m:Int)=((2^m:Nat):Int):=by simp
 rw[this,Int.fdiv_eq_ediv_of_nonneg _ (Int.natCast_nonneg _)]
 exact Int.natCast_ediv ..
theorem adZ {A m:Nat} (hA:A<2^64) (h:m<64):
  (IntKind.wrap .u64 ((BitVec.ofInt (IntKind.bits .u64) (Int.fdiv (A:Int) (2^(min m (IntKind.bits .u64))))&&&BitVec.ofInt (IntKind.bits .u64) 1).toNat)==1)=A.testBit m:=by
 rw[yP h]
 have:=u64_and (A:=A/2^m) (B:=1) (oD (Nat.div_le_self _ _) hA) (by omega)
 rw[show ((1:Nat):Int)=1 from rfl] at this
 rw[this]
 rw[Nat.and_one_is_mod,Nat.testBit_eq_decide_div_mod_eq]
 by_cases hb:A/2^m %2=1
 ·simp[hb]
 ·have:A/2^m %2=0:=by omega
  simp[this]
end Go.AM
set_option maxRecDepth 100000
namespace Go.AM
open Go.Proofs
theorem pf:maxLen≤9223372036854775807:=by unfold maxLen;omega
theorem n0:cJ=35184372088832:=by unfold cJ;rfl
section
variable {α β:Type} {o:Option α} {a:α} {f:α→Option β} {r:Option β} {x y z:β} {b:Bool}
theorem bs (h:o=some a) (U:f a=r):o.bind f=r:=by rw[h];exact U
theorem bT (hb:b=true) (h:x=z):(bif b then x else y)=z:=by rw[hb];exact h
theorem bF (hb:b=false) (h:y=z):(bif b then x else y)=z:=by rw[hb];exact h
end
section
variable {X R A α:Type} {step:X→Option (X ⊕ R)}
theorem TP (good:Nat→Prop) [DecidablePred good] (n:Nat) (s:Nat→X) (bad ok:R) (h: ∀i,i<n→step (s i)=some (if good i then .inl (s (i+1)) else .inr bad)) (he:step (s n)=some (.inr ok)):
  Loop step (s 0)=some (if∀i,i<n→good i then ok else bad):=by
 have go: ∀(d k:Nat),k+d=n→((∀i,k≤i→i<n→good i)→Loop step (s k)=some ok)∧((¬∀i,k≤i→i<n→good i)→Loop step (s k)=some bad):=by
  intro d
  induction d with
  | zero=>
   intro k hk
   have:k=n:=by omega
   subst this
   exact ⟨fun _=>bj he,fun hx=>absurd (fun i h1 U=>by omega) hx⟩
  | succ d ih=>
   intro k hk
   have h1:=h k (by omega)
   by_cases hg:good k
   ·rw[ah hg] at h1
    rw[bW h1]
    obtain ⟨i1,i2⟩:=ih (k+1) (by omega)
    refine ⟨fun ha=>i1 fun i h1 U=>ha i (by omega) U,fun ha=>i2 fun hx=>ha fun i h1 U=> ?_⟩
    by_cases hi:i=k
    ·rw[hi];exact hg
    ·exact hx i (by omega) U
   ·rw[ai hg] at h1
    rw[bj h1]
    exact ⟨fun ha=>absurd (ha k (bU _) (by omega)) hg,fun _=>rfl⟩
 obtain ⟨g1,g2⟩:=go n 0 (by omega)
 by_cases ha: ∀i,i<n→good i
 ·rw[ah ha];exact g1 fun i _ h=>ha i h
 ·rw[ai ha];exact g2 fun hx=>ha fun i h=>hx i (by omega) h
end
inductive Ex where
 | node (op letter:Int) (kids:List Ex)
namespace Ex
def op:Ex→Int| .node o _ _=>o
def letter:Ex→Int| .node _ l _=>l
def kids:Ex→List Ex| .node _ _ ks=>ks
theorem ind {p:Ex→Prop} (h: ∀o l ks,(∀k∈ks,p k)→p (.node o l ks)): ∀e,p e
 | .node o l ks=>h o l ks fun k hk=>ind h k
termination_by e=>SizeOf.sizeOf e
decreasing_by
 have:=EE hk
 simp
 omega
mutual
def enc:Ex→V
 | .node o l ks=> .agg [.int .i64 o,.int .i64 l,.list aa (B9 ks)]
def B9:List Ex→List V
 | []=>[]
 | k::ks=>enc k::B9 ks
end
theorem TQ: ∀ks,B9 ks=ks.map enc
 | []=>by simp only[B9,fl]
 | k::ks=>by simp only[B9,cr,TQ ks]
theorem eY (e:Ex):e.enc= .agg [.int .i64 e.op,.int .i64 e.letter,.list aa (e.kids.map enc)]:=by
 cases e;simp only[enc,op,letter,kids,TQ]
mutual
def size:Ex→Nat
 | .node _ _ ks=>1+aR ks
def aR:List Ex→Nat
 | []=>0
 | k::ks=>size k+aR ks
end
mutual
def depth:Ex→Nat
 | .node _ _ ks=>1+cR ks
def cR:List Ex→Nat
 | []=>0
 | k::ks=>max (depth k) (cR ks)
end
theorem size_pos: ∀e:Ex,0<e.size
 | .node _ _ ks=>by simp only[size];omega
theorem ad0: ∀e:Ex,0<e.depth
 | .node _ _ ks=>by simp only[depth];omega
theorem ad1: ∀e:Ex,e.depth≤e.size:=ind fun o l ks ih=>by
 have: ∀ks:List Ex,(∀k∈ks,k.depth≤k.size)→cR ks≤aR ks:=by
  intro ks
  induction ks with
  | nil=>intro _;simp only[cR,aR];omega
  | cons k ks ih=>
   intro h
   have h1:=h k (by simp)
   have U:=ih fun k hk=>h k (by simp[hk])
   simp only[cR,aR];omega
 have:=this ks ih
 simp only[depth,size];omega
inductive Ok:Ex→Prop
 | node {o l:Int} {ks:List Ex}:(-9223372036854775808≤o∧o≤9223372036854775807)→(-9223372036854775808≤l∧l≤9223372036854775807)→ks.length≤maxLen→(∀k∈ks,Ok k)→Ok (.node o l ks)
theorem Ok.oa {o l:Int} {ks:List Ex} (h:Ok (.node o l ks)): ∀k∈ks,Ok k:=by cases h;assumption
theorem Ok.len {o l:Int} {ks:List Ex} (h:Ok (.node o l ks)):ks.length≤maxLen:=by cases h;assumption
end Ex
open Ex
abbrev bY (e:Ex) (l:List V):List V:= .int .i64 e.op:: .int .i64 e.letter:: .list aa (e.kids.map enc)::l
theorem PD: ∀(n:Nat) (x:V),SizeOf.sizeOf x<n→ik PG aa x→∃e:Ex,x=e.enc∧e.Ok
 | 0,x,h,_=>by omega
 | n+1,x,h,hw=>by
  obtain ⟨xs,rfl,hl,hx⟩:=hw.lh (by kernel_rfl)
  have e1:ba PG aa=[nX,nX,Ti]:=by kernel_rfl
  rw[e1] at hl hx
  match xs,hl,hx,h with
  | [a,b,c],_,hx,h=>
   obtain ⟨o,rfl,ho⟩:=(hx 0 nX a rfl rfl).et (k:= .i64) (by kernel_rfl)
   obtain ⟨l,rfl,hl⟩:=(hx 1 nX b rfl rfl).et (k:= .i64) (by kernel_rfl)
   obtain ⟨es,rfl,he,oX⟩:=(hx 2 Ti c rfl rfl).ade (e:=aa) (by kernel_rfl)
   have: ∃ks:List Ex,es=ks.map enc∧∀k∈ks,k.Ok:=SZ fun y hy=>PD n y (by
    have:=EE hy
    simp at h
    omega) (oX y hy)
   obtain ⟨ks,rfl,bq⟩:=this
   refine ⟨.node o l ks,by rw[eY];rfl,.node ?_ ?_ (by simpa using he) bq⟩
   ·exact ho
   ·exact hl
noncomputable def TR (C:ae) (aj ar:Int) (ag:List V) (letters:Int):Option (List V):=
 bif decide ((letters:Int)<1) then
  some [.int .i64 1]
 else
  bif decide ((letters:Int)>6) then
  some [.int .i64 1]
  else
  (C G4 [.int .i64 aj,.int .i64 ar,.list aa ag]).bind fun r1=>
  bif !((V.nth r1 0).toBool) then
   some [.int .i64 3]
  else
   (C yz [.int .i64 aj,.int .i64 ar,.list aa ag,.int .i64 letters]).bind fun r2=>
   bif !((V.nth r2 0).toBool) then
   some [.int .i64 4]
   else
   some [.int .i64 0]
theorem ad2 {aj ar:Int} {ag:List V} {letters:Int} {r:Option (List V)} (h:TR CC aj ar ag letters=r):CC vw [.int .i64 aj,.int .i64 ar,.list aa ag,.int .i64 letters]=r:=
 aZ (key:=20) (L:=bX) (bs:=[]) (by kernel_rfl) aw (aX (by kernel_rfl) h)
noncomputable def TS (C:ae) (aj ar:Int) (ag:List V):Option (List V):=
 (C yB [.int .i64 aj,.int .i64 ar,.list aa ag,.int .i64 40,.int .i64 400]).bind fun r1=>
 some [.bool ((V.nth r1 0).toBool)]
theorem ad3 {aj ar:Int} {ag:List V} {r:Option (List V)} (h:TS CC aj ar ag=r):CC G4 [.int .i64 aj,.int .i64 ar,.list aa ag]=r:=
 aZ (key:=34) (L:=bX) (bs:=[]) (by kernel_rfl) aw (aX (by kernel_rfl) h)
noncomputable abbrev TT:Code:=cj Tryz.prog (av.aQ 48)
noncomputable def yQ (C:ae) (depth:Int) (t23:List V) (t24 t25 oc:Int) {β:Type} (kn:(Int × Int)→Option β) (kr:((Bool × Int) ⊕ (Int × Bool × Int))→Option β):Option β:=
 bif decide ((t25:Int)<t24) then
  (idx t23 t25).bind fun x1=>
  (C yB [.int .i64 ((x1.cell 0).toInt),.int .i64 ((x1.cell 1).toInt),.list aa ((x1.cell 2).toList),.int .i64 (IntKind.wrap .i64 (depth-1)),.int .i64 oc]).bind fun r2=>
  bif !((V.nth r2 0).toBool) then
  kr (.inl (false,(V.nth (r2.drop 1) 0).toInt))
  else
  kn (IntKind.wrap .i64 (t25+1),(V.nth (r2.drop 1) 0).toInt)
 else
  kr (.inr (t25,decide ((t25:Int)<t24),oc))
noncomputable def vL (C:ae) (depth:Int) (t23:List V) (t24:Int):(Int × Int)→Option ((Int × Int) ⊕ ((Bool × Int) ⊕ (Int × Bool × Int))):=un fun t25 oc=>yQ C depth t23 t24 t25 oc (fun y=>some (.inl y)) (fun r=>some (.inr r))
noncomputable def TU (C:ae):b8:=fun β n ds k=>
 bif Nat.beq n 81 then bM Mj [false,false,false,true,true] [[0,0],[1,2,3,0,0,0]] (@yQ C) ds k else
 none
abbrev ad4 (C:ae) (b:bZ):Prop:=b6 Tryz.prog av C (TU C) 48 (cl Tryz.prog (av.aQ 48)) (av.sin 48).bc.length b
theorem ad5 (C:ae):ad4 C (.loop (ax [1,1,1,0,1,0,0] TT)):=
 bP Mj [false,false,false,true,true] [[0,0],[1,2,3,0,0,0]] (@yQ C) (by kernel_rfl) (a9 (bs:=[]) (by kernel_rfl) aw) (fun ds=>by kernel_rfl) (fun i x=>by kernel_rfl) (fun i x β k=>by kernel_rfl) (fun β ds k=>by kernel_rfl)
noncomputable def Cc (C:ae) (aj ar:Int) (ag:List V) (depth oc:Int):Option (List V):=
 bif (depth:Int)==0 then
  some [.bool false,.int .i64 oc]
 else
  bif (oc:Int)==0 then
  some [.bool false,.int .i64 oc]
  else
  (Loop (vL C depth ag (ag.length:Int)) (0,IntKind.wrap .i64 (oc-1))).bind (cB (un fun (kL:Bool) (b_4:Int)=>
   some [.bool kL,.int .i64 b_4]) (un fun (iJ:Int)=>un fun (mY:Bool) (ad6:Int)=>
   some [.bool true,.int .i64 ad6]))
theorem HK {aj ar:Int} {ag:List V} {depth oc:Int} {r:Option (List V)} (h:Cc CC aj ar ag depth oc=r):CC yB [.int .i64 aj,.int .i64 ar,.list aa ag,.int .i64 depth,.int .i64 oc]=r:=
 aZ (key:=48) (L:=TU CC) (bs:=[.loop (ax [1,1,1,0,1,0,0] TT)]) (by kernel_rfl) (br (ad5 CC) aw) (aX (by kernel_rfl) h)
noncomputable abbrev TV:Code:=cj Tryz.prog (av.aQ 35)
noncomputable def yR (C:ae) (letters:Int) (t53:List V) (t54 t55:Int) {β:Type} (kn:Int→Option β) (kr:((Bool) ⊕ (Int × Bool))→Option β):Option β:=
 bif decide ((t55:Int)<t54) then
  (idx t53 t55).bind fun x1=>
  (C yz [.int .i64 ((x1.cell 0).toInt),.int .i64 ((x1.cell 1).toInt),.list aa ((x1.cell 2).toList),.int .i64 letters]).bind fun r2=>
  bif !((V.nth r2 0).toBool) then
  kr (.inl false)
  else
  kn (IntKind.wrap .i64 (t55+1))
 else
  kr (.inr (t55,decide ((t55:Int)<t54)))
noncomputable def fO (C:ae) (letters:Int) (t53:List V) (t54:Int):(Int)→Option ((Int) ⊕ ((Bool) ⊕ (Int × Bool))):=fun t55=>yR C letters t53 t54 t55 (fun y=>some (.inl y)) (fun r=>some (.inr r))
noncomputable def TW (C:ae):b8:=fun β n ds k=>
 bif Nat.beq n 321 then bM L8 [false,false,false,true] [[0],[1,2,3,0,0]] (@yR C) ds k else
 none
abbrev ad7 (C:ae) (b:bZ):Prop:=b6 Tryz.prog av C (TW C) 35 (cl Tryz.prog (av.aQ 35)) (av.sin 35).bc.length b
theorem ad8 (C:ae):ad7 C (.loop (ax [1,1,1,1,0,1,0,0] TV)):=
 bP L8 [false,false,false,true] [[0],[1,2,3,0,0]] (@yR C) (by kernel_rfl) (a9 (bs:=[]) (by kernel_rfl) aw) (fun ds=>by kernel_rfl) (fun i x=>by kernel_rfl) (fun i x β k=>by kernel_rfl) (fun β ds k=>by kernel_rfl)
noncomputable def TY (C:ae) (aj ar:Int) (ag:List V) (letters:Int):Option (List V):=
 bif (aj:Int)==3 then
  bif ((ag.length:Int):Int)==0 then
  bif decide ((ar:Int)≥0) then
   some [.bool (decide ((ar:Int)<letters))]
  else
   some [.bool false]
  else
  some [.bool false]
 else
  bif (ar:Int) != 0 then
  some [.bool false]
  else
  bif (aj:Int)==1 then
   bif (aj:Int)==1 then
   some [.bool (((ag.length:Int):Int)==0)]
   else
   bif (aj:Int)==4 then
    bif (aj:Int)==4 then
    bif decide (((ag.length:Int):Int)<2) then
     some [.bool false]
    else
     (Loop (fO C letters ag (ag.length:Int)) 0).bind (cB (fun (kL:Bool)=>
      some [.bool kL]) (un fun (mZ:Int) (iJ:Bool)=>
      some [.bool true]))
    else
    bif (aj:Int)==7 then
     bif (aj:Int)==7 then
     bif ((ag.length:Int):Int) != 1 then
      some [.bool false]
     else
      (Loop (fO C letters ag (ag.length:Int)) 0).bind (cB (fun (mY:Bool)=>
       some [.bool mY]) (un fun (od:Int) (Cd:Bool)=>
       some [.bool true]))
     else
     some [.bool false]
    else
     bif (aj:Int)==8 then
     bif ((ag.length:Int):Int) != 1 then
      some [.bool false]
     else
      (Loop (fO C letters ag (ag.length:Int)) 0).bind (cB (fun (oe:Bool)=>
       some [.bool oe]) (un fun (tz:Int) (rZ:Bool)=>
       some [.bool true]))
     else
     some [.bool false]
   else
    bif (aj:Int)==5 then
    bif (aj:Int)==5 then
     bif decide (((ag.length:Int):Int)<2) then
     some [.bool false]
     else
     (Loop (fO C letters ag (ag.length:Int)) 0).bind (cB (fun (Ce:Bool)=>
      some [.bool Ce]) (un fun (TZ:Int) (Cf:Bool)=>
      some [.bool true]))
    else
     bif (aj:Int)==7 then
     bif (aj:Int)==7 then
      bif ((ag.length:Int):Int) != 1 then
      some [.bool false]
      else
      (Loop (fO C letters ag (ag.length:Int)) 0).bind (cB (fun (yS:Bool)=>
       some [.bool yS]) (un fun (T4:Int) (ad9:Bool)=>
       some [.bool true]))
     else
      some [.bool false]
     else
     bif (aj:Int)==8 then
      bif ((ag.length:Int):Int) != 1 then
      some [.bool false]
      else
      (Loop (fO C letters ag (ag.length:Int)) 0).bind (cB (fun (T6:Bool)=>
       some [.bool T6]) (un fun (anX:Int) (T7:Bool)=>
       some [.bool true]))
     else
      some [.bool false]
    else
    bif (aj:Int)==6 then
     bif decide (((ag.length:Int):Int)<2) then
     some [.bool false]
     else
     (Loop (fO C letters ag (ag.length:Int)) 0).bind (cB (fun (Nu:Bool)=>
      some [.bool Nu]) (un fun (Nw:Int) (T8:Bool)=>
      some [.bool true]))
    else
     bif (aj:Int)==7 then
     bif (aj:Int)==7 then
      bif ((ag.length:Int):Int) != 1 then
      some [.bool false]
      else
      (Loop (fO C letters ag (ag.length:Int)) 0).bind (cB (fun (aea:Bool)=>
       some [.bool aea]) (un fun (T9:Int) (Nx:Bool)=>
       some [.bool true]))
     else
      some [.bool false]
     else
     bif (aj:Int)==8 then
      bif ((ag.length:Int):Int) != 1 then
      some [.bool false]
      else
      (Loop (fO C letters ag (ag.length:Int)) 0).bind (cB (fun (Ua:Bool)=>
       some [.bool Ua]) (un fun (anY:Int) (Ub:Bool)=>
       some [.bool true]))
     else
      some [.bool false]
  else
   bif (aj:Int)==2 then
   some [.bool (((ag.length:Int):Int)==0)]
   else
   bif (aj:Int)==4 then
    bif (aj:Int)==4 then
    bif decide (((ag.length:Int):Int)<2) then
     some [.bool false]
    else
     (Loop (fO C letters ag (ag.length:Int)) 0).bind (cB (fun (Uc:Bool)=>
      some [.bool Uc]) (un fun (anZ:Int) (aeb:Bool)=>
      some [.bool true]))
    else
    bif (aj:Int)==7 then
     bif (aj:Int)==7 then
     bif ((ag.length:Int):Int) != 1 then
      some [.bool false]
     else
      (Loop (fO C letters ag (ag.length:Int)) 0).bind (cB (fun (Ud:Bool)=>
       some [.bool Ud]) (un fun (aec:Int) (an0:Bool)=>
       some [.bool true]))
     else
     some [.bool false]
    else
     bif (aj:Int)==8 then
     bif ((ag.length:Int):Int) != 1 then
      some [.bool false]
     else
      (Loop (fO C letters ag (ag.length:Int)) 0).bind (cB (fun (Ue:Bool)=>
       some [.bool Ue]) (un fun (an1:Int) (Uf:Bool)=>
       some [.bool true]))
     else
     some [.bool false]
   else
    bif (aj:Int)==5 then
    bif (aj:Int)==5 then
     bif decide (((ag.length:Int):Int)<2) then
     some [.bool false]
     else
     (Loop (fO C letters ag (ag.length:Int)) 0).bind (cB (fun (Ug:Bool)=>
      some [.bool Ug]) (un fun (an2:Int) (an3:Bool)=>
      some [.bool true]))
    else
     bif (aj:Int)==7 then
     bif (aj:Int)==7 then
      bif ((ag.length:Int):Int) != 1 then
      some [.bool false]
      else
      (Loop (fO C letters ag (ag.length:Int)) 0).bind (cB (fun (Uh:Bool)=>
       some [.bool Uh]) (un fun (an4:Int) (an5:Bool)=>
       some [.bool true]))
     else
      some [.bool false]
     else
     bif (aj:Int)==8 then
      bif ((ag.length:Int):Int) != 1 then
      some [.bool false]
      else
      (Loop (fO C letters ag (ag.length:Int)) 0).bind (cB (fun (aed:Bool)=>
       some [.bool aed]) (un fun (aee:Int) (an6:Bool)=>
       some [.bool true]))
     else
      some [.bool false]
    else
    bif (aj:Int)==6 then
     bif decide (((ag.length:Int):Int)<2) then
     some [.bool false]
     else
     (Loop (fO C letters ag (ag.length:Int)) 0).bind (cB (fun (aef:Bool)=>
      some [.bool aef]) (un fun (aeg:Int) (aeh:Bool)=>
      some [.bool true]))
    else
     bif (aj:Int)==7 then
     bif (aj:Int)==7 then
      bif ((ag.length:Int):Int) != 1 then
      some [.bool false]
      else
      (Loop (fO C letters ag (ag.length:Int)) 0).bind (cB (fun (aei:Bool)=>
       some [.bool aei]) (un fun (an7:Int) (an8:Bool)=>
       some [.bool true]))
     else
      some [.bool false]
     else
     bif (aj:Int)==8 then
      bif ((ag.length:Int):Int) != 1 then
      some [.bool false]
      else
      (Loop (fO C letters ag (ag.length:Int)) 0).bind (cB (fun (Ui:Bool)=>
       some [.bool Ui]) (un fun (an9:Int) (aoa:Bool)=>
       some [.bool true]))
     else
      some [.bool false]
theorem aej {aj ar:Int} {ag:List V} {letters:Int} {r:Option (List V)} (h:TY CC aj ar ag letters=r):CC yz [.int .i64 aj,.int .i64 ar,.list aa ag,.int .i64 letters]=r:=
 aZ (key:=35) (L:=TW CC) (bs:=[.loop (ax [1,1,1,1,0,1,0,0] TV)]) (by kernel_rfl) (br (ad8 CC) aw) (aX (by kernel_rfl) h)
noncomputable def Uj (C:ae) (aj ar:Int) (ag:List V) (letters:Int):Option (List V):=
 (C yr [.int .i64 letters]).bind fun r1=>
 bif !((V.nth r1 0).toBool) then
  some [.int .i64 1]
 else
  (C GY [.int .i64 aj,.int .i64 ar,.list aa ag]).bind fun r2=>
  bif !((V.nth r2 0).toBool) then
  some [.int .i64 3]
  else
  (C yu [.int .i64 aj,.int .i64 ar,.list aa ag,.int .i64 letters]).bind fun r3=>
  bif !((V.nth r3 0).toBool) then
   some [.int .i64 4]
  else
   some [.int .i64 0]
theorem aek {aj ar:Int} {ag:List V} {letters:Int} {r:Option (List V)} (h:Uj CC aj ar ag letters=r):CC GR [.int .i64 aj,.int .i64 ar,.list aa ag,.int .i64 letters]=r:=
 aZ (key:=5) (L:=bX) (bs:=[]) (by kernel_rfl) aw (aX (by kernel_rfl) h)
noncomputable def Uk (C:ae) (aj ar:Int) (ag:List V):Option (List V):=
 (C vu [.int .i64 aj,.int .i64 ar,.list aa ag,.int .i64 400]).bind fun r1=>
 bif decide ((((V.nth r1 0).toInt):Int)≤400) then
  some [.bool (decide ((((V.nth (r1.drop 1) 0).toInt):Int)≤40))]
 else
  some [.bool false]
theorem ael {aj ar:Int} {ag:List V} {r:Option (List V)} (h:Uk CC aj ar ag=r):CC GY [.int .i64 aj,.int .i64 ar,.list aa ag]=r:=
 aZ (key:=16) (L:=bX) (bs:=[]) (by kernel_rfl) aw (aX (by kernel_rfl) h)
noncomputable abbrev Ul:Code:=cj Tryz.prog (av.aQ 18)
noncomputable def yT (C:ae) (cS eu dH:Int) (dj:List V) (n deep i:Int) {β:Type} (kn:(Int × Int × Int)→Option β) (kr:(Int × Int × Int × Bool)→Option β):Option β:=
 bif decide ((i:Int)<(dj.length:Int)) then
  bif decide ((n:Int)≤cS) then
  (idx dj i).bind fun x1=>
  (C vu [.int .i64 ((x1.cell 0).toInt),.int .i64 ((x1.cell 1).toInt),.list aa ((x1.cell 2).toList),.int .i64 cS]).bind fun r2=>
  kn (if (IntKind.wrap .i64 (cS+1))<(IntKind.wrap .i64 (n+((V.nth r2 0).toInt))) then (IntKind.wrap .i64 (cS+1)) else (IntKind.wrap .i64 (n+((V.nth r2 0).toInt))),if ((V.nth (r2.drop 1) 0).toInt)>deep then ((V.nth (r2.drop 1) 0).toInt) else deep,IntKind.wrap .i64 (i+1))
  else
  kr (n,deep,i,decide ((n:Int)≤cS))
 else
  kr (n,deep,i,false)
noncomputable def yU (C:ae) (cS eu dH:Int) (dj:List V):(Int × Int × Int)→Option ((Int × Int × Int) ⊕ (Int × Int × Int × Bool)):=un fun n=>un fun deep i=>yT C cS eu dH dj n deep i (fun y=>some (.inl y)) (fun r=>some (.inr r))
noncomputable def Um (C:ae):b8:=fun β n ds k=>
 bif Nat.beq n 49 then bM L4 [false,true,true,true,false,false,false] [[1,0,0,0,0,5,6,7]] (@yT C) ds k else
 none
abbrev aem (C:ae) (b:bZ):Prop:=b6 Tryz.prog av C (Um C) 18 (cl Tryz.prog (av.aQ 18)) (av.sin 18).bc.length b
theorem aen (C:ae):aem C (.loop (ax [1,1,0,1,0,0] Ul)):=
 bP L4 [false,true,true,true,false,false,false] [[1,0,0,0,0,5,6,7]] (@yT C) (by kernel_rfl) (a9 (bs:=[]) (by kernel_rfl) aw) (fun ds=>by kernel_rfl) (fun i x=>by kernel_rfl) (fun i x β k=>by kernel_rfl) (fun β ds k=>by kernel_rfl)
noncomputable def Un (C:ae) (aj ar:Int) (ag:List V) (cS:Int):Option (List V):=
 (Loop (yU C cS aj ar ag) (1,0,0)).bind (un fun (n_3:Int)=>un fun (aeo:Int)=>un fun (cY:Int) (mY:Bool)=>
  some [.int .i64 n_3,.int .i64 (IntKind.wrap .i64 (aeo+1))])
theorem aep {aj ar:Int} {ag:List V} {cS:Int} {r:Option (List V)} (h:Un CC aj ar ag cS=r):CC vu [.int .i64 aj,.int .i64 ar,.list aa ag,.int .i64 cS]=r:=
 aZ (key:=18) (L:=Um CC) (bs:=[.loop (ax [1,1,0,1,0,0] Ul)]) (by kernel_rfl) (br (aen CC) aw) (aX (by kernel_rfl) h)
noncomputable abbrev yV:Code:=cj Tryz.prog (av.aQ 17)
noncomputable def dk (C:ae) (letters k':Int) (ok t39:Bool) (eu dH:Int) (dj:List V) {β:Type} (kr:(Bool)→Option β):Option β:=
 bif t39 then
  bif ok then
  bif decide ((dH:Int)≥0) then
   kr (decide ((dH:Int)<letters))
  else
   kr false
  else
  kr false
 else
  bif ok then
  kr ((dH:Int)==0)
  else
  kr false
noncomputable def yW (C:ae) (letters k' eu dH:Int) (dj:List V) (ok:Bool) (i:Int) {β:Type} (kn:(Bool × Int)→Option β) (kr:(Bool × Int × Bool)→Option β):Option β:=
 bif decide ((i:Int)<k') then
  bif ok then
  (idx dj i).bind fun x2=>
  (C yu [.int .i64 ((x2.cell 0).toInt),.int .i64 ((x2.cell 1).toInt),.list aa ((x2.cell 2).toList),.int .i64 letters]).bind fun r3=>
  kn ((V.nth r3 0).toBool,IntKind.wrap .i64 (i+1))
  else
  kr (ok,i,ok)
 else
  kr (ok,i,false)
noncomputable def dg (C:ae) (letters k' eu dH:Int) (dj:List V):(Bool × Int)→Option ((Bool × Int) ⊕ (Bool × Int × Bool)):=un fun ok i=>yW C letters k' eu dH dj ok i (fun y=>some (.inl y)) (fun r=>some (.inr r))
noncomputable def Uo (C:ae):b8:=fun β n ds k=>
 bif Nat.beq n 639 then iH L1 [[1,2,0,5,6,7]] (@dk C) ds k else
 bif Nat.beq n 257 then bM L3 [false,false,true,true,false,false,false] [[1,2,0,0,0,5,6,7]] (@yW C) ds k else
 none
abbrev Up (C:ae) (b:bZ):Prop:=b6 Tryz.prog av C (Uo C) 17 (cl Tryz.prog (av.aQ 17)) (av.sin 17).bc.length b
theorem aeq (C:ae):Up C (.cond 39 (ax [1,1,1,1,0,1,0] yV) (ax [1,1,1,1,0,1,1] yV)):=
 jn L1 [[1,2,0,5,6,7]] (@dk C) (by kernel_rfl) (a9 (bs:=[]) (by kernel_rfl) aw) (a9 (bs:=[]) (by kernel_rfl) aw) (fun ds=>by kernel_rfl) (fun i β k=>by kernel_rfl) (fun β ds k=>by kernel_rfl)
theorem aer (C:ae):Up C (.loop (ax [1,1,1,1,1,0,1,0,0] yV)):=
 bP L3 [false,false,true,true,false,false,false] [[1,2,0,0,0,5,6,7]] (@yW C) (by kernel_rfl) (a9 (bs:=[]) (by kernel_rfl) aw) (fun ds=>by kernel_rfl) (fun i x=>by kernel_rfl) (fun i x β k=>by kernel_rfl) (fun β ds k=>by kernel_rfl)
noncomputable def Uq (C:ae) (aj ar:Int) (ag:List V) (letters:Int):Option (List V):=
 bif decide ((aj:Int)≥1) then
  bif (aj:Int)==1 then
  bif (aj:Int)==1 then
   dk C letters (ag.length:Int) (((ag.length:Int):Int)==0) ((aj:Int)==3) aj ar ag (fun (aes:Bool)=>
    (Loop (dg C letters (ag.length:Int) aj ar ag) (aes,0)).bind (un fun (aet:Bool)=>un fun (cY:Int) (mY:Bool)=>
     some [.bool aet]))
  else
   bif (aj:Int)==7 then
   bif (aj:Int)==7 then
    dk C letters (ag.length:Int) (((ag.length:Int):Int)==1) ((aj:Int)==3) aj ar ag (fun (aeu:Bool)=>
     (Loop (dg C letters (ag.length:Int) aj ar ag) (aeu,0)).bind (un fun (aev:Bool)=>un fun (i_9:Int) (tz:Bool)=>
      some [.bool aev]))
   else
    bif decide ((aj:Int)≤8) then
    dk C letters (ag.length:Int) (decide (((ag.length:Int):Int)≥2)) ((aj:Int)==3) aj ar ag (fun (aew:Bool)=>
     (Loop (dg C letters (ag.length:Int) aj ar ag) (aew,0)).bind (un fun (aex:Bool)=>un fun (aob:Int) (Cf:Bool)=>
      some [.bool aex]))
    else
    dk C letters (ag.length:Int) false ((aj:Int)==3) aj ar ag (fun (aey:Bool)=>
     (Loop (dg C letters (ag.length:Int) aj ar ag) (aey,0)).bind (un fun (aez:Bool)=>un fun (aoc:Int) (T6:Bool)=>
      some [.bool aez]))
   else
   bif (aj:Int)==8 then
    dk C letters (ag.length:Int) (((ag.length:Int):Int)==1) ((aj:Int)==3) aj ar ag (fun (aeA:Bool)=>
     (Loop (dg C letters (ag.length:Int) aj ar ag) (aeA,0)).bind (un fun (aeB:Bool)=>un fun (aod:Int) (Nw:Bool)=>
      some [.bool aeB]))
   else
    bif decide ((aj:Int)≤8) then
    dk C letters (ag.length:Int) (decide (((ag.length:Int):Int)≥2)) ((aj:Int)==3) aj ar ag (fun (aeC:Bool)=>
     (Loop (dg C letters (ag.length:Int) aj ar ag) (aeC,0)).bind (un fun (aeD:Bool)=>un fun (aoe:Int) (Nx:Bool)=>
      some [.bool aeD]))
    else
    dk C letters (ag.length:Int) false ((aj:Int)==3) aj ar ag (fun (aeE:Bool)=>
     (Loop (dg C letters (ag.length:Int) aj ar ag) (aeE,0)).bind (un fun (aeF:Bool)=>un fun (aof:Int) (Uc:Bool)=>
      some [.bool aeF]))
  else
  bif (aj:Int)==2 then
   bif (aj:Int)==2 then
   dk C letters (ag.length:Int) (((ag.length:Int):Int)==0) ((aj:Int)==3) aj ar ag (fun (aeG:Bool)=>
    (Loop (dg C letters (ag.length:Int) aj ar ag) (aeG,0)).bind (un fun (aeH:Bool)=>un fun (aog:Int) (aec:Bool)=>
     some [.bool aeH]))
   else
   bif (aj:Int)==7 then
    bif (aj:Int)==7 then
    dk C letters (ag.length:Int) (((ag.length:Int):Int)==1) ((aj:Int)==3) aj ar ag (fun (aeI:Bool)=>
     (Loop (dg C letters (ag.length:Int) aj ar ag) (aeI,0)).bind (un fun (aeJ:Bool)=>un fun (aeK:Int) (Uf:Bool)=>
      some [.bool aeJ]))
    else
    bif decide ((aj:Int)≤8) then
     dk C letters (ag.length:Int) (decide (((ag.length:Int):Int)≥2)) ((aj:Int)==3) aj ar ag (fun (aeL:Bool)=>
      (Loop (dg C letters (ag.length:Int) aj ar ag) (aeL,0)).bind (un fun (aeM:Bool)=>un fun (aoh:Int) (Uh:Bool)=>
       some [.bool aeM]))
    else
     dk C letters (ag.length:Int) false ((aj:Int)==3) aj ar ag (fun (aeN:Bool)=>
      (Loop (dg C letters (ag.length:Int) aj ar ag) (aeN,0)).bind (un fun (aeO:Bool)=>un fun (aoi:Int) (aee:Bool)=>
       some [.bool aeO]))
   else
    bif (aj:Int)==8 then
    dk C letters (ag.length:Int) (((ag.length:Int):Int)==1) ((aj:Int)==3) aj ar ag (fun (aeP:Bool)=>
     (Loop (dg C letters (ag.length:Int) aj ar ag) (aeP,0)).bind (un fun (aeQ:Bool)=>un fun (aoj:Int) (aeh:Bool)=>
      some [.bool aeQ]))
    else
    bif decide ((aj:Int)≤8) then
     dk C letters (ag.length:Int) (decide (((ag.length:Int):Int)≥2)) ((aj:Int)==3) aj ar ag (fun (aeR:Bool)=>
      (Loop (dg C letters (ag.length:Int) aj ar ag) (aeR,0)).bind (un fun (aeS:Bool)=>un fun (aok:Int) (Ui:Bool)=>
       some [.bool aeS]))
    else
     dk C letters (ag.length:Int) false ((aj:Int)==3) aj ar ag (fun (aeT:Bool)=>
      (Loop (dg C letters (ag.length:Int) aj ar ag) (aeT,0)).bind (un fun (aeU:Bool)=>un fun (aol:Int) (aom:Bool)=>
       some [.bool aeU]))
  else
   bif (aj:Int)==3 then
   dk C letters (ag.length:Int) (((ag.length:Int):Int)==0) ((aj:Int)==3) aj ar ag (fun (aeV:Bool)=>
    (Loop (dg C letters (ag.length:Int) aj ar ag) (aeV,0)).bind (un fun (aeW:Bool)=>un fun (aon:Int) (aoo:Bool)=>
     some [.bool aeW]))
   else
   bif (aj:Int)==7 then
    bif (aj:Int)==7 then
    dk C letters (ag.length:Int) (((ag.length:Int):Int)==1) ((aj:Int)==3) aj ar ag (fun (aeX:Bool)=>
     (Loop (dg C letters (ag.length:Int) aj ar ag) (aeX,0)).bind (un fun (aeY:Bool)=>un fun (aop:Int) (aoq:Bool)=>
      some [.bool aeY]))
    else
    bif decide ((aj:Int)≤8) then
     dk C letters (ag.length:Int) (decide (((ag.length:Int):Int)≥2)) ((aj:Int)==3) aj ar ag (fun (aeZ:Bool)=>
      (Loop (dg C letters (ag.length:Int) aj ar ag) (aeZ,0)).bind (un fun (ae0:Bool)=>un fun (aor:Int) (aos:Bool)=>
       some [.bool ae0]))
    else
     dk C letters (ag.length:Int) false ((aj:Int)==3) aj ar ag (fun (ae1:Bool)=>
      (Loop (dg C letters (ag.length:Int) aj ar ag) (ae1,0)).bind (un fun (ae2:Bool)=>un fun (aot:Int) (aou:Bool)=>
       some [.bool ae2]))
   else
    bif (aj:Int)==8 then
    dk C letters (ag.length:Int) (((ag.length:Int):Int)==1) ((aj:Int)==3) aj ar ag (fun (ae3:Bool)=>
     (Loop (dg C letters (ag.length:Int) aj ar ag) (ae3,0)).bind (un fun (ae4:Bool)=>un fun (aov:Int) (aow:Bool)=>
      some [.bool ae4]))
    else
    bif decide ((aj:Int)≤8) then
     dk C letters (ag.length:Int) (decide (((ag.length:Int):Int)≥2)) ((aj:Int)==3) aj ar ag (fun (ae5:Bool)=>
      (Loop (dg C letters (ag.length:Int) aj ar ag) (ae5,0)).bind (un fun (ae6:Bool)=>un fun (aox:Int) (aoy:Bool)=>
       some [.bool ae6]))
    else
     dk C letters (ag.length:Int) false ((aj:Int)==3) aj ar ag (fun (ae7:Bool)=>
      (Loop (dg C letters (ag.length:Int) aj ar ag) (ae7,0)).bind (un fun (ae8:Bool)=>un fun (aoz:Int) (aoA:Bool)=>
       some [.bool ae8]))
 else
  bif (aj:Int)==1 then
  bif (aj:Int)==1 then
   dk C letters (ag.length:Int) (((ag.length:Int):Int)==0) ((aj:Int)==3) aj ar ag (fun (ae9:Bool)=>
    (Loop (dg C letters (ag.length:Int) aj ar ag) (ae9,0)).bind (un fun (afa:Bool)=>un fun (aoB:Int) (aoC:Bool)=>
     some [.bool afa]))
  else
   bif (aj:Int)==7 then
   bif (aj:Int)==7 then
    dk C letters (ag.length:Int) (((ag.length:Int):Int)==1) ((aj:Int)==3) aj ar ag (fun (afb:Bool)=>
     (Loop (dg C letters (ag.length:Int) aj ar ag) (afb,0)).bind (un fun (afc:Bool)=>un fun (aoD:Int) (aoE:Bool)=>
      some [.bool afc]))
   else
    dk C letters (ag.length:Int) false ((aj:Int)==3) aj ar ag (fun (afd:Bool)=>
     (Loop (dg C letters (ag.length:Int) aj ar ag) (afd,0)).bind (un fun (afe:Bool)=>un fun (aoF:Int) (aoG:Bool)=>
      some [.bool afe]))
   else
   bif (aj:Int)==8 then
    dk C letters (ag.length:Int) (((ag.length:Int):Int)==1) ((aj:Int)==3) aj ar ag (fun (aff:Bool)=>
     (Loop (dg C letters (ag.length:Int) aj ar ag) (aff,0)).bind (un fun (afg:Bool)=>un fun (aoH:Int) (aoI:Bool)=>
      some [.bool afg]))
   else
    dk C letters (ag.length:Int) false ((aj:Int)==3) aj ar ag (fun (afh:Bool)=>
     (Loop (dg C letters (ag.length:Int) aj ar ag) (afh,0)).bind (un fun (afi:Bool)=>un fun (aoJ:Int) (aoK:Bool)=>
      some [.bool afi]))
  else
  bif (aj:Int)==2 then
   bif (aj:Int)==2 then
   dk C letters (ag.length:Int) (((ag.length:Int):Int)==0) ((aj:Int)==3) aj ar ag (fun (afj:Bool)=>
    (Loop (dg C letters (ag.length:Int) aj ar ag) (afj,0)).bind (un fun (afk:Bool)=>un fun (aoL:Int) (aoM:Bool)=>
     some [.bool afk]))
   else
   bif (aj:Int)==7 then
    bif (aj:Int)==7 then
    dk C letters (ag.length:Int) (((ag.length:Int):Int)==1) ((aj:Int)==3) aj ar ag (fun (afl:Bool)=>
     (Loop (dg C letters (ag.length:Int) aj ar ag) (afl,0)).bind (un fun (afm:Bool)=>un fun (aoN:Int) (aoO:Bool)=>
      some [.bool afm]))
    else
    dk C letters (ag.length:Int) false ((aj:Int)==3) aj ar ag (fun (afn:Bool)=>
     (Loop (dg C letters (ag.length:Int) aj ar ag) (afn,0)).bind (un fun (afo:Bool)=>un fun (aoP:Int) (aoQ:Bool)=>
      some [.bool afo]))
   else
    bif (aj:Int)==8 then
    dk C letters (ag.length:Int) (((ag.length:Int):Int)==1) ((aj:Int)==3) aj ar ag (fun (afp:Bool)=>
     (Loop (dg C letters (ag.length:Int) aj ar ag) (afp,0)).bind (un fun (afq:Bool)=>un fun (aoR:Int) (aoS:Bool)=>
      some [.bool afq]))
    else
    dk C letters (ag.length:Int) false ((aj:Int)==3) aj ar ag (fun (afr:Bool)=>
     (Loop (dg C letters (ag.length:Int) aj ar ag) (afr,0)).bind (un fun (afs:Bool)=>un fun (aoT:Int) (aoU:Bool)=>
      some [.bool afs]))
  else
   bif (aj:Int)==3 then
   dk C letters (ag.length:Int) (((ag.length:Int):Int)==0) ((aj:Int)==3) aj ar ag (fun (aft:Bool)=>
    (Loop (dg C letters (ag.length:Int) aj ar ag) (aft,0)).bind (un fun (afu:Bool)=>un fun (aoV:Int) (aoW:Bool)=>
     some [.bool afu]))
   else
   bif (aj:Int)==7 then
    bif (aj:Int)==7 then
    dk C letters (ag.length:Int) (((ag.length:Int):Int)==1) ((aj:Int)==3) aj ar ag (fun (afv:Bool)=>
     (Loop (dg C letters (ag.length:Int) aj ar ag) (afv,0)).bind (un fun (afw:Bool)=>un fun (aoX:Int) (aoY:Bool)=>
      some [.bool afw]))
    else
    dk C letters (ag.length:Int) false ((aj:Int)==3) aj ar ag (fun (afx:Bool)=>
     (Loop (dg C letters (ag.length:Int) aj ar ag) (afx,0)).bind (un fun (afy:Bool)=>un fun (aoZ:Int) (ao0:Bool)=>
      some [.bool afy]))
   else
    bif (aj:Int)==8 then
    dk C letters (ag.length:Int) (((ag.length:Int):Int)==1) ((aj:Int)==3) aj ar ag (fun (afz:Bool)=>
     (Loop (dg C letters (ag.length:Int) aj ar ag) (afz,0)).bind (un fun (afA:Bool)=>un fun (ao1:Int) (ao2:Bool)=>
      some [.bool afA]))
    else
    dk C letters (ag.length:Int) false ((aj:Int)==3) aj ar ag (fun (afB:Bool)=>
     (Loop (dg C letters (ag.length:Int) aj ar ag) (afB,0)).bind (un fun (afC:Bool)=>un fun (ao3:Int) (ao4:Bool)=>
      some [.bool afC]))
theorem afD {aj ar:Int} {ag:List V} {letters:Int} {r:Option (List V)} (h:Uq CC aj ar ag letters=r):CC yu [.int .i64 aj,.int .i64 ar,.list aa ag,.int .i64 letters]=r:=
 aZ (key:=17) (L:=Uo CC) (bs:=[.cond 39 (ax [1,1,1,1,0,1,0] yV) (ax [1,1,1,1,0,1,1] yV),.loop (ax [1,1,1,1,1,0,1,0,0] yV)]) (by kernel_rfl) (br (aeq CC) (br (aer CC) aw)) (aX (by kernel_rfl) h)
noncomputable def Ny (C:ae) (letters:Int):Option (List V):=
 bif decide ((letters:Int)≥1) then
  some [.bool (decide ((letters:Int)≤6))]
 else
  some [.bool false]
theorem Ur {letters:Int} {r:Option (List V)} (h:Ny CC letters=r):CC yr [.int .i64 letters]=r:=
 aZ (key:=15) (L:=bX) (bs:=[]) (by kernel_rfl) aw (aX (by kernel_rfl) h)
end Go.AM
set_option maxRecDepth 100000
namespace Go.AM
open Go.Proofs Ex
theorem jD (pre aH:List Ex) (k:Ex):idx ((pre++k::aH).map enc) (pre.length:Int)=some k.enc:=by
 rw[nU];simp
theorem bz (k:Ex):(k.enc.cell 0).toInt=k.op:=by rw[eY];simp
theorem bA (k:Ex):(k.enc.cell 1).toInt=k.letter:=by rw[eY];simp
theorem bB (k:Ex):(k.enc.cell 2).toList=k.kids.map enc:=by rw[eY];simp
theorem afE {ks:List Ex} (hlen:ks.length≤maxLen) {d:Int} (hd:0≤d∧d≤1000) (ih: ∀k∈ks,∀d l:Int,0≤d→d≤1000→0≤l→l≤1000→∃l',CC yB (bY k [.int .i64 d,.int .i64 l])=some [.bool (decide ((k.depth:Int)≤d∧(k.size:Int)≤l)),.int .i64 l']∧0≤l'∧l'≤l∧(((k.depth:Int)≤d∧(k.size:Int)≤l)→l'=l-k.size)):
  ∀(aH pre:List Ex) (l:Int),ks=pre++aH→0≤l→l≤1000→1≤d→
  (∃l':Int,Loop (vL CC d (ks.map enc) ((ks.map enc).length:Int)) (((pre.length:Nat):Int),l)=some (.inl (false,l'))∧¬((cR aH:Int)≤d-1∧(aR aH:Int)≤l)∧0≤l'∧l'≤l)∨
  (∃i b,Loop (vL CC d (ks.map enc) ((ks.map enc).length:Int)) (((pre.length:Nat):Int),l)=some (.inr (i,b,l-aR aH))∧((cR aH:Int)≤d-1∧(aR aH:Int)≤l)):=by
 intro aH
 induction aH with
 | nil=>
  intro pre l bq h0 h1 Gp
  subst bq
  refine .inr ⟨((pre.length:Nat):Int),false,?_,?_⟩
  ·have hz:l-((aR ([]:List Ex):Nat):Int)=l:=by simp only[aR];omega
   rw[hz]
   refine bj ?_
   simp only[vL,yQ,un,dz,bw,az]
   rw[ai (by omega)]
   simp
  ·simp only[cR,aR];omega
 | cons k aH gb=>
  intro pre l bq h0 h1 Gp
  obtain ⟨l',e1,e2,e3,e4⟩:=ih k (by rw[bq];simp) (d-1) l (by omega) (by omega) h0 h1
  have cb:pre.length<ks.length:=by rw[bq];simp
  have:=pf
  have cC:idx (ks.map enc) (pre.length:Int)=some k.enc:=by rw[bq];exact jD _ _ _
  by_cases hk:(k.depth:Int)≤d-1∧(k.size:Int)≤l
  ·have eG:vL CC d (ks.map enc) ((ks.map enc).length:Int) (((pre.length:Nat):Int),l)=some (.inl ((((pre++[k]).length:Nat):Int),l')):=by
    simp only[vL,yQ,un,bw,az]
    rw[ah (by omega),cC]
    simp only[Option.bind_some,bz,bA,bB]
    rw[wrap64 (by omega) (by omega),e1]
    simp only[Option.bind_some,V.aC,V.cN,eC hk,qQ,cond_false,ek,dL,V.toInt_int]
    rw[wrap64 (by omega) (by omega)]
    simp
   rw[bW eG]
   have e5:=e4 hk
   rcases gb (pre++[k]) l' (by rw[bq];simp) e2 (by omega) Gp with ⟨l2,q1,q2,q3,q4⟩|⟨i,b,q1,q2⟩
   ·refine .inl ⟨l2,q1,?_,q3,by omega⟩
    simp only[cR,aR];omega
   ·refine .inr ⟨i,b,q1.trans ?_,?_⟩
    ·simp only[aR]
     congr 4
     omega
    ·simp only[cR,aR];omega
  ·refine .inl ⟨l',bj ?_,?_,e2,e3⟩
   ·simp only[vL,yQ,un,bw,az]
    rw[ah (by omega),cC]
    simp only[Option.bind_some,bz,bA,bB]
    rw[wrap64 (by omega) (by omega),e1]
    simp only[Option.bind_some,V.aC,V.cN,ct hk,ur,cond_true,ek,dL,V.toInt_int]
   ·simp only[cR,aR];omega
theorem afF: ∀e:Ex,e.Ok→∀d l:Int,0≤d→d≤1000→0≤l→l≤1000→
  ∃l',CC yB (bY e [.int .i64 d,.int .i64 l])=some [.bool (decide ((e.depth:Int)≤d∧(e.size:Int)≤l)),.int .i64 l']∧0≤l'∧l'≤l∧(((e.depth:Int)≤d∧(e.size:Int)≤l)→l'=l-e.size):=
 ind fun o lt ks ih ay d l h1 U h3 h4=>by
  have lk: ∀k∈ks,_:=fun k hk=>ih k hk (ay.oa k hk)
  have hs: ∀e:Ex,e= .node o lt ks→e.size=1+aR ks∧e.depth=1+cR ks:=by rintro e rfl;constructor<;>simp only[size,depth]
  obtain ⟨s1,s2⟩:=hs _ rfl
  by_cases hd:d=0
  ·have hn: ¬(((Ex.node o lt ks).depth:Int)≤d∧((Ex.node o lt ks).size:Int)≤l):=by omega
   refine ⟨l,HK ?_,h3,Int.le_refl _,fun h=>absurd h hn⟩
   simp only[Cc,dC,ah hd,ct hn]
  ·by_cases hl:l=0
   ·have hn: ¬(((Ex.node o lt ks).depth:Int)≤d∧((Ex.node o lt ks).size:Int)≤l):=by omega
    refine ⟨l,HK ?_,h3,Int.le_refl _,fun h=>absurd h hn⟩
    simp only[Cc,dC,ai hd,ah hl,ct hn]
   ·rcases afE ay.len ⟨h1,U⟩ lk ks [] (l-1) rfl (by omega) (by omega) (by omega) with ⟨l',q1,q2,q3,q4⟩|⟨i,b,q1,q2⟩
    ·have hn: ¬(((Ex.node o lt ks).depth:Int)≤d∧((Ex.node o lt ks).size:Int)≤l):=by omega
     refine ⟨l',HK ?_,q3,by omega,fun h=>absurd h hn⟩
     simp only[Cc,dC,ai hd,ai hl,ct hn,Ex.kids]
     rw[wrap64 (by omega) (by omega)]
     simp only[List.length_nil,Int.ofNat_zero,Int.natCast_zero] at q1
     erw [q1]
     rfl
    ·have hn:(((Ex.node o lt ks).depth:Int)≤d∧((Ex.node o lt ks).size:Int)≤l):=by omega
     refine ⟨l-1-aR ks,HK ?_,by omega,by omega,fun _=>by omega⟩
     simp only[Cc,dC,ai hd,ai hl,eC hn,Ex.kids]
     rw[wrap64 (by omega) (by omega)]
     simp only[List.length_nil,Int.ofNat_zero,Int.natCast_zero] at q1
     erw [q1]
     rfl
theorem afG (e:Ex) (h:e.Ok):CC G4 (bY e [])=some [.bool (decide (e.depth≤40∧e.size≤400))]:=by
 obtain ⟨l',e1,_⟩:=afF e h 40 400 (by omega) (by omega) (by omega) (by omega)
 refine ad3 ?_
 simp only[TS]
 rw[e1]
 simp only[Option.bind_some,V.aC,V.cN]
 congr 3
 rw[Aj]
 omega
theorem afH {ks:List Ex} (hlen:ks.length≤maxLen) {a b cS:Int} (hm:1≤cS∧cS≤1000) (ih: ∀k∈ks,∃d,CC vu (bY k [.int .i64 cS])=some [.int .i64 (min (k.size:Int) (cS+1)),.int .i64 d]∧((k.size:Int)≤cS→d=k.depth)):
  ∀(aH pre:List Ex) (n deep:Int),ks=pre++aH→1≤n→n≤cS+1→0≤deep→
  ∃yX i b',Loop (yU CC cS a b (ks.map enc)) (n,deep,((pre.length:Nat):Int))=some (min (n+(aR aH:Int)) (cS+1),yX,i,b')∧(n+(aR aH:Int)≤cS→yX=max deep (cR aH)):=by
 intro aH
 induction aH with
 | nil=>
  intro pre n deep bq h0 h1 hdp
  subst bq
  refine ⟨deep,((pre.length:Nat):Int),false,?_,fun _=> ?_⟩
  ·have hz:min (n+((aR ([]:List Ex):Nat):Int)) (cS+1)=n:=by simp only[aR];omega
   rw[hz]
   refine bj ?_
   simp only[yU,yT,un,dz,bw,az]
   rw[ai (by omega)]
  ·simp only[cR];omega
 | cons k aH gb=>
  intro pre n deep bq h0 h1 hdp
  have cb:pre.length<ks.length:=by rw[bq];simp
  have:=pf
  have cC:idx (ks.map enc) (pre.length:Int)=some k.enc:=by rw[bq];exact jD _ _ _
  have hkp:=size_pos k
  by_cases hn:n≤cS
  ·obtain ⟨d,e1,e2⟩:=ih k (by rw[bq];simp)
   have eG: ∃dd,yU CC cS a b (ks.map enc) (n,deep,((pre.length:Nat):Int))=some (.inl (min (n+(k.size:Int)) (cS+1),dd,(((pre++[k]).length:Nat):Int)))∧dd=max deep d:=by
    refine ⟨max deep d,?_,rfl⟩
    simp only[yU,yT,un,bw,az]
    rw[ah (by omega),ah hn,cC]
    simp only[Option.bind_some,bz,bA,bB]
    rw[e1]
    simp only[Option.bind_some,V.aC,ek,dL,V.toInt_int]
    rw[wrap64 (by omega) (by omega),wrap64 (by omega) (by omega),wrap64 (by omega) (by omega)]
    have r1:(if cS+1<n+min (k.size:Int) (cS+1) then cS+1 else n+min (k.size:Int) (cS+1))=min (n+(k.size:Int)) (cS+1):=by split<;>omega
    have r2:(if d>deep then d else deep)=max deep d:=by split<;>omega
    rw[r1,r2]
    simp
   obtain ⟨dd,iZ,rfl⟩:=eG
   rw[bW iZ]
   obtain ⟨yX,i,b',q1,q2⟩:=gb (pre++[k]) (min (n+(k.size:Int)) (cS+1)) (max deep d) (by rw[bq];simp) (by omega) (by omega) (by omega)
   refine ⟨yX,i,b',q1.trans ?_,fun h=> ?_⟩
   ·simp only[aR]
    congr 2
    omega
   ·simp only[aR] at h
    rw[q2 (by omega),e2 (by omega)]
    simp only[cR]
    omega
  ·refine ⟨deep,((pre.length:Nat):Int),false,?_,fun h=> ?_⟩
   ·have hz:min (n+((aR (k::aH):Nat):Int)) (cS+1)=n:=by simp only[aR];omega
    rw[hz]
    refine bj ?_
    simp only[yU,yT,un,bw,az]
    rw[ah (by omega),ai hn]
    simp[hn]
   ·omega
theorem Us: ∀e:Ex,e.Ok→∀cS:Int,1≤cS→cS≤1000→∃d,CC vu (bY e [.int .i64 cS])=some [.int .i64 (min (e.size:Int) (cS+1)),.int .i64 d]∧((e.size:Int)≤cS→d=e.depth):=
 ind fun o lt ks ih ay cS h1 U=>by
  obtain ⟨yX,i,b',q1,q2⟩:=afH (a:=o) (b:=lt) ay.len ⟨h1,U⟩ (fun k hk=>ih k hk (ay.oa k hk) cS h1 U) ks [] 1 0 rfl (by omega) (by omega) (by omega)
  have s1:(Ex.node o lt ks).size=1+aR ks:=by simp only[size]
  have s2:(Ex.node o lt ks).depth=1+cR ks:=by simp only[depth]
  have s3:=ad1 (.node o lt ks)
  refine ⟨IntKind.wrap .i64 (yX+1),aep ?_,fun h=> ?_⟩
  ·simp only[Un,Ex.kids,Ex.op,Ex.letter]
   simp only[List.length_nil,Int.ofNat_zero,Int.natCast_zero] at q1
   erw [q1]
   simp only[Option.bind_some,un]
   rw[show (1:Int)+(aR ks:Int)=((Ex.node o lt ks).size:Int) by omega]
  ·rw[q2 (by omega),wrap64 (by omega) (by omega)]
   omega
def dx (o l len letters:Int):Bool:=
 if o=3 then decide (len=0∧0≤l∧l<letters)
 else decide (l=0)&&(if o=1∨o=2 then decide (len=0) else if o=7∨o=8 then decide (len=1) else decide (4≤o∧o≤6∧2≤len))
mutual
def Ex.wf (letters:Int):Ex→Bool
 | .node o l ks=>dx o l ks.length letters&&ib letters ks
def Ex.ib (letters:Int):List Ex→Bool
 | []=>true
 | k::ks=>Ex.wf letters k&&ib letters ks
end
theorem afI {ks:List Ex} (hlen:ks.length≤maxLen) {letters:Int} (ih: ∀k∈ks,CC yz (bY k [.int .i64 letters])=some [.bool (k.wf letters)]):
  ∀(aH pre:List Ex),ks=pre++aH→
  (Loop (fO CC letters (ks.map enc) ((ks.map enc).length:Int)) ((pre.length:Nat):Int)=some (.inl false)∧ib letters aH=false)∨
  (∃i b,Loop (fO CC letters (ks.map enc) ((ks.map enc).length:Int)) ((pre.length:Nat):Int)=some (.inr (i,b))∧ib letters aH=true):=by
 intro aH
 induction aH with
 | nil=>
  intro pre bq
  subst bq
  refine .inr ⟨((pre.length:Nat):Int),false,bj ?_,by simp only[ib]⟩
  simp only[fO,yR,dz,bw,az]
  rw[ai (by omega)]
  simp
 | cons k aH gb=>
  intro pre bq
  have cb:pre.length<ks.length:=by rw[bq];simp
  have:=pf
  have cC:idx (ks.map enc) (pre.length:Int)=some k.enc:=by rw[bq];exact jD _ _ _
  have e1:=ih k (by rw[bq];simp)
  cases hw:k.wf letters with
  | true=>
   have eG:fO CC letters (ks.map enc) ((ks.map enc).length:Int) ((pre.length:Nat):Int)=some (.inl (((pre++[k]).length:Nat):Int)):=by
    simp only[fO,yR,bw,az]
    rw[ah (by omega),cC]
    simp only[Option.bind_some,bz,bA,bB]
    rw[e1,hw]
    simp only[Option.bind_some,V.aC,V.cN,qQ,cond_false]
    rw[wrap64 (by omega) (by omega)]
    simp
   rw[bW eG]
   simp only[ib,hw,ka]
   exact gb (pre++[k]) (by rw[bq];simp)
  | false=>
   refine .inl ⟨bj ?_,by simp only[ib,hw,Bool.false_and]⟩
   simp only[fO,yR,bw,az]
   rw[ah (by omega),cC]
   simp only[Option.bind_some,bz,bA,bB]
   rw[e1,hw]
   simp only[Option.bind_some,V.aC,V.cN,ur,cond_true]
theorem Cg (o:Int):o=1∨o=2∨o=3∨o=4∨o=5∨o=6∨o=7∨o=8∨(o<1∨8<o):=by omega
theorem afJ {letters:Int}: ∀e:Ex,e.Ok→CC yz (bY e [.int .i64 letters])=some [.bool (e.wf letters)]:=
 ind fun o lt ks ih ay=>by
  refine aej ?_
  have hlen:((ks.map enc).length:Int)=(ks.length:Int):=by simp
  have hl:=afI ay.len (fun k hk=>ih k hk (ay.oa k hk)) ks [] rfl
  simp only[List.length_nil,Int.natCast_zero,Int.ofNat_zero] at hl
  have jh:(Loop (fO CC letters (ks.map enc) ((ks.map enc).length:Int)) 0).bind (cB (fun (t:Bool)=>some [V.bool t]) (un fun (_:Int) (_:Bool)=>some [V.bool true]))=some [.bool (ib letters ks)]:=by
   rcases hl with ⟨h1,U⟩|⟨i,b,h1,U⟩
   ·erw [h1];rw[U];rfl
   ·erw [h1];rw[U];rfl
  simp only[Ex.op,Ex.letter,Ex.kids]
  unfold TY
  rw[jh,hlen]
  simp only[Ex.wf,dx]
  have mh:ks.length=0→ib letters ks=true:=fun h=>by rw[lK h];simp only[ib]
  rcases Cg o with rfl|rfl|rfl|rfl|rfl|rfl|rfl|rfl|ho
  case inr.inr.inr.inr.inr.inr.inr.inr=>
   have n1:o≠1:=by omega
   have n2:o≠2:=by omega
   have n3:o≠3:=by omega
   have n4:o≠4:=by omega
   have n5:o≠5:=by omega
   have n6:o≠6:=by omega
   have n7:o≠7:=by omega
   have n8:o≠8:=by omega
   have n9: ¬(4≤o∧o≤6∧2≤(ks.length:Int)):=by omega
   by_cases aT:lt=0<;>simp[n1,n2,n3,n4,n5,n6,n7,n8,n9,aT]
  all_goals by_cases aT:lt=0<;>by_cases h0:ks.length=0<;>by_cases h1:ks.length=1<;>simp[aT,h0,h1,mh]
  all_goals (try omega)
  all_goals (try (split<;>simp_all<;>omega))
theorem afK {C:ae} {letters k o lt:Int} {ok t:Bool} {es:List V} {β:Type} (kr:Bool→Option β):dk C letters k ok t o lt es kr=kr (ok&&(bif t then decide (0≤lt∧lt<letters) else decide (lt=0))):=by
 unfold dk
 have hb:(lt==0)=decide (lt=0):=by rw[nu];simp
 rw[hb]
 cases t<;>cases ok<;>first|rfl|skip
 by_cases h:0≤lt<;>simp[h]
theorem afL {ks:List Ex} (hlen:ks.length≤maxLen) {letters o lt:Int} (ih: ∀k∈ks,CC yu (bY k [.int .i64 letters])=some [.bool (k.wf letters)]):
  ∀(aH pre:List Ex) (ok:Bool),ks=pre++aH→
  ∃i b,Loop (dg CC letters (ks.length:Int) o lt (ks.map enc)) (ok,((pre.length:Nat):Int))=some (ok&&ib letters aH,i,b):=by
 intro aH
 induction aH with
 | nil=>
  intro pre ok bq
  subst bq
  refine ⟨((pre.length:Nat):Int),false,bj ?_⟩
  simp only[dg,yW,un,dz,az]
  rw[ai (by omega)]
  simp[ib]
 | cons k aH gb=>
  intro pre ok bq
  have cb:pre.length<ks.length:=by rw[bq];simp
  have:=pf
  have cC:idx (ks.map enc) (pre.length:Int)=some k.enc:=by rw[bq];exact jD _ _ _
  have e1:=ih k (by rw[bq];simp)
  cases ok with
  | true=>
   have eG:dg CC letters (ks.length:Int) o lt (ks.map enc) (true,((pre.length:Nat):Int))=some (.inl (k.wf letters,(((pre++[k]).length:Nat):Int))):=by
    simp only[dg,yW,un,az,cond_true]
    rw[ah (by omega),cC]
    simp only[Option.bind_some,bz,bA,bB]
    rw[e1]
    simp only[Option.bind_some,V.aC,V.cN]
    rw[wrap64 (by omega) (by omega)]
    simp
   rw[bW eG]
   simp only[ib,ka]
   exact gb (pre++[k]) _ (by rw[bq];simp)
  | false=>
   refine ⟨((pre.length:Nat):Int),false,bj ?_⟩
   simp only[dg,yW,un,az,cond_false]
   rw[ah (by omega)]
   simp
theorem afM {letters:Int}: ∀e:Ex,e.Ok→CC yu (bY e [.int .i64 letters])=some [.bool (e.wf letters)]:=
 ind fun o lt ks ih ay=>by
  refine afD ?_
  have hlen:((ks.map enc).length:Int)=(ks.length:Int):=by simp
  have jh: ∀ok:Bool,(Loop (dg CC letters (ks.length:Int) o lt (ks.map enc)) (ok,0)).bind (un fun (ok:Bool)=>un fun (_:Int) (_:Bool)=>some [V.bool ok])=some [.bool (ok&&ib letters ks)]:=by
   intro ok
   obtain ⟨i,b,h⟩:=afL ay.len (o:=o) (lt:=lt) (fun k hk=>ih k hk (ay.oa k hk)) ks [] ok rfl
   simp only[List.length_nil,Int.natCast_zero,Int.ofNat_zero] at h
   erw [h];rfl
  simp only[Ex.op,Ex.letter,Ex.kids]
  unfold Uq
  simp only[afK,hlen,jh]
  simp only[Ex.wf,dx]
  have mh:ks.length=0→ib letters ks=true:=fun h=>by rw[lK h];simp only[ib]
  rcases Cg o with rfl|rfl|rfl|rfl|rfl|rfl|rfl|rfl|ho
  case inr.inr.inr.inr.inr.inr.inr.inr=>
   have n1:o≠1:=by omega
   have n2:o≠2:=by omega
   have n3:o≠3:=by omega
   have n4:o≠4:=by omega
   have n5:o≠5:=by omega
   have n6:o≠6:=by omega
   have n7:o≠7:=by omega
   have n8:o≠8:=by omega
   have n9: ¬(4≤o∧o≤6∧2≤(ks.length:Int)):=by omega
   by_cases h1:1≤o
   ·have U: ¬o≤8:=by omega
    simp[n1,n2,n3,n4,n5,n6,n7,n8,n9,h1,U]
   ·simp[n1,n2,n3,n4,n5,n6,n7,n8,n9,h1]
  all_goals by_cases aT:lt=0<;>by_cases h0:ks.length=0<;>by_cases h1:ks.length=1<;>simp[aT,h0,h1,mh]
  all_goals (try omega)
  all_goals (try (split<;>simp_all<;>omega))
  all_goals (try (by_cases h5:2≤ks.length<;>simp[h5]))
  all_goals (rw[show ((ks.length:Int)==1)=decide ((ks.length:Int)=1) from by rw[nu];simp])
theorem afN (letters:Int):CC yr [.int .i64 letters]=some [.bool (decide (1≤letters∧letters≤6))]:=by
 refine Ur ?_
 unfold Ny
 by_cases h1:1≤letters<;>by_cases U:letters≤6<;>simp[h1,U]
theorem afO (e:Ex) (h:e.Ok):CC GY (bY e [])=some [.bool (decide (e.depth≤40∧e.size≤400))]:=by
 obtain ⟨d,e1,e2⟩:=Us e h 400 (by omega) (by omega)
 refine ael ?_
 unfold Uk
 rw[e1]
 simp only[Option.bind_some,V.aC,V.toInt_int,az,ek,dL]
 by_cases hs:e.size≤400
 ·rw[ah (by omega),e2 (by omega)]
  congr 3
  rw[Aj]
  omega
 ·rw[ai (by omega)]
  congr 3
  simp[hs]
def Ex.val (e:Ex) (letters:Int):Int:=
 if 1≤letters∧letters≤6 then (if e.depth≤40∧e.size≤400 then (if e.wf letters=true then 0 else 4) else 3) else 1
theorem HL (e:Ex) (h:e.Ok) (letters:Int):CC vw (bY e [.int .i64 letters])=some [.int .i64 (e.val letters)]:=by
 refine ad2 ?_
 unfold TR Ex.val
 rw[afG e h,afJ e h]
 by_cases h1:1≤letters
 ·by_cases U:letters≤6
  ·by_cases h3:e.depth≤40∧e.size≤400
   ·cases h4:e.wf letters<;>simp[h1,U,h3,show¬letters<1 by omega,show¬6<letters by omega]
   ·simp[h1,U,h3,show¬letters<1 by omega,show¬6<letters by omega]
  ·simp[h1,U,show¬letters<1 by omega,show 6<letters by omega]
 ·simp[h1,show letters<1 by omega]
theorem afP (e:Ex) (h:e.Ok) (letters:Int):CC GR (bY e [.int .i64 letters])=some [.int .i64 (e.val letters)]:=by
 refine aek ?_
 unfold Uj Ex.val
 rw[afO e h,afM e h,afN]
 by_cases h1:1≤letters∧letters≤6
 ·by_cases h3:e.depth≤40∧e.size≤400
  ·cases h4:e.wf letters<;>simp[h1,h3]
  ·simp[h1,h3]
 ·simp[h1]
end Go.AM
set_option maxRecDepth 100000
namespace Go.AM
open Go.Proofs
abbrev Lg:=List UInt8→Prop
def L2 (A B:Lg):Lg:=fun w=> ∃u v,w=u++v∧A u∧B v
inductive dI (A:Lg):Lg
 | nil:dI A []
 | cons {u v:List UInt8}:A u→dI A v→dI A (u++v)
def pg:List Lg→Lg
 | []=>fun _=>False
 | L::_=>L
def tA:List Lg→Lg
 | []=>fun w=>w=[]
 | L::Ls=>Ls.foldl L2 L
def dv (o l:Int) (Ls:List Lg):Lg:=fun w=>
 if o=2 then w=[] else if o=3 then∃c:UInt8,w=[c]∧(c.toNat:Int)-97=l
 else if o=4 then∃L∈Ls,L w else if o=5 then tA Ls w else if o=6 then∀L∈Ls,L w
 else if o=7 then dI (pg Ls) w else if o=8 then¬pg Ls w else False
mutual
def Ex.aL:Ex→Lg
 | .node o l ks=>dv o l (Ex.Ch ks)
def Ex.Ch:List Ex→List Lg
 | []=>[]
 | k::ks=>Ex.aL k::Ex.Ch ks
end
theorem Ut: ∀ks:List Ex,Ex.Ch ks=ks.map Ex.aL
 | []=>by simp only[Ex.Ch,fl]
 | k::ks=>by simp only[Ex.Ch,cr,Ut ks]
theorem kM {o l:Int} {ks:List Ex}:(Ex.node o l ks).aL=dv o l (ks.map Ex.aL):=by rw[Ex.aL,Ut]
theorem dI.append {A:Lg} {u v:List UInt8} (h:dI A u) (U:dI A v):dI A (u++v):=by
 induction h with
 | nil=>exact U
 | cons a _ ih=>rw[cv];exact .cons a ih
theorem dI.one {A:Lg} {u:List UInt8} (h:A u):dI A u:=by
 have:=dI.cons h (dI.nil (A:=A));rwa [dz] at this
theorem dI.first {A:Lg} {w:List UInt8} (h:dI A w):w=[]∨∃u v,u≠[]∧w=u++v∧A u∧dI A v:=by
 induction h with
 | nil=>exact .inl rfl
 | @cons u v a hv ih=>
  by_cases hu:u=[]
  ·subst hu;simpa using ih
  ·exact .inr ⟨u,v,hu,rfl,a,hv⟩
def sl (w:List UInt8) (i j:Nat):List UInt8:=(w.drop i).take (j-i)
def Pt (w:List UInt8) (L:Lg) (i j:Nat):Prop:=i≤j∧j≤w.length∧L (sl w i j)
theorem yY {w:List UInt8} {i j:Nat} (h:i≤j) (hj:j≤w.length):(sl w i j).length=j-i:=by simp[sl];omega
theorem Uu {w:List UInt8} {i:Nat}:sl w i i=[]:=by simp[sl]
theorem afQ {w:List UInt8}:sl w 0 w.length=w:=by simp[sl]
theorem Nz {w:List UInt8} {i k j:Nat} (h:i≤k) (U:k≤j):sl w i k++sl w k j=sl w i j:=by
 unfold sl
 have e:j-i=(k-i)+(j-k):=by omega
 have e2:w.drop k=(w.drop i).drop (k-i):=by rw[pH];congr 1;omega
 rw[e,e2,List.take_add]
theorem Uv {w u v:List UInt8} {i j:Nat} (h:i≤j) (hj:j≤w.length) (e:sl w i j=u++v):i≤i+u.length∧i+u.length≤j∧sl w i (i+u.length)=u∧sl w (i+u.length) j=v:=by
 have hl:=yY h hj
 rw[e,cz] at hl
 have U:i+u.length≤j:=by omega
 refine ⟨by omega,U,?_⟩
 have:=Nz (w:=w) (i:=i) (k:=i+u.length) (j:=j) (by omega) U
 rw[e] at this
 have l1:(sl w i (i+u.length)).length=u.length:=by rw[yY (by omega) (by omega)];omega
 exact List.append_inj this l1
theorem afR {w:List UInt8} {A B:Lg} {i j:Nat}:Pt w (L2 A B) i j↔∃k,Pt w A i k∧Pt w B k j:=by
 constructor
 ·rintro ⟨h1,U,u,v,e,ha,hb⟩
  obtain ⟨c1,c2,c3,c4⟩:=Uv h1 U e
  exact ⟨i+u.length,⟨c1,by omega,by rw[c3];exact ha⟩,⟨c2,U,by rw[c4];exact hb⟩⟩
 ·rintro ⟨k,⟨h1,U,ha⟩,⟨h3,h4,hb⟩⟩
  exact ⟨by omega,h4,_,_,(Nz h1 h3).symm,ha,hb⟩
theorem afS {w:List UInt8} {A:Lg} {i:Nat} (h:i≤w.length):Pt w (dI A) i i:=⟨bU _,h,by rw[Uu];exact .nil⟩
theorem NA {w:List UInt8} {A:Lg} {i k j:Nat} (h1:Pt w (dI A) i k) (U:Pt w (dI A) k j):Pt w (dI A) i j:=
 ⟨kW h1.1 U.1,U.2.1,by rw[←Nz h1.1 U.1];exact h1.2.2.append U.2.2⟩
theorem afT {w:List UInt8} {A:Lg} {i j:Nat} (h:Pt w A i j):Pt w (dI A) i j:=⟨h.1,h.2.1,.one h.2.2⟩
theorem afU {w:List UInt8} {A:Lg} {i j:Nat}:Pt w (dI A) i j↔(i=j∧j≤w.length)∨∃k,i<k∧Pt w A i k∧Pt w (dI A) k j:=by
 constructor
 ·rintro ⟨h1,U,h⟩
  rcases h.first with h|⟨u,v,hu,e,ha,hv⟩
  ·left
   have:=yY h1 U
   rw[h,List.length_nil] at this
   exact ⟨by omega,U⟩
  ·right
   obtain ⟨c1,c2,c3,c4⟩:=Uv h1 U e
   have:0<u.length:=List.length_pos_iff.2 hu
   exact ⟨i+u.length,by omega,⟨c1,by omega,by rw[c3];exact ha⟩,⟨c2,U,by rw[c4];exact hv⟩⟩
 ·rintro (⟨rfl,h⟩|⟨k,_,h1,U⟩)
  ·exact afS h
  ·exact NA (afT h1) U
def Ends (w:List UInt8) (F:Nat) (R:Nat→Option Nat) (L:Lg):Prop:= ∀i,F.testBit i=true→∃S:Nat,R i=some S∧∀j,S.testBit j=true↔Pt w L i j
def In (w:List UInt8) (F:Nat):Prop:= ∀i,F.testBit i=true→i≤w.length
theorem Uw {w:List UInt8} {S i:Nat} {L:Lg} (h: ∀j,S.testBit j=true↔Pt w L i j):In w S:=fun j hj=>((h j).1 hj).2.1
theorem Ux {S:Nat} {p:Nat→Prop} (h: ∀j,S.testBit j=true↔p j) {j:Nat} (hn: ¬p j):S.testBit j=false:=by
 cases hc:S.testBit j
 ·rfl
 ·exact absurd ((h j).1 hc) hn
theorem yZ {S T j:Nat}:(S|||T).testBit j=true↔S.testBit j=true∨T.testBit j=true:=by rw[sI];simp
theorem y5 {i j:Nat}:(2^i).testBit j=true↔j=i:=by rw[Ah];simp[eq_comm]
theorem afV (n:Int):CC yr [.int .i64 n]=some [.bool (decide (1≤n∧n≤6))]:=by
 refine Ur ?_
 unfold Ny
 rw[az]
 split
 ·refine congrArg (fun b=>some [V.bool b]) ?_;rw[Aj];omega
 ·have: ¬(1≤n∧n≤6):=by omega
  simp[this]
noncomputable abbrev Uy:Code:=cj Tryz.prog (av.aQ 27)
noncomputable def Ci (C:ae) (w:List UInt8) (letters t18 t19:Int) {β:Type} (kn:Int→Option β) (kr:((Bool) ⊕ (Int × Bool))→Option β):Option β:=
 bif decide ((t19:Int)<t18) then
  (bif decide (0≤t19) then (w[(t19:Int).toNat]?).map fun b=>V.int .u8 b.toNat else none).bind fun x1=>
  bif decide ((x1.toInt:Int)<97) then
  kr (.inl false)
  else
  (bif decide (0≤t19) then (w[(t19:Int).toNat]?).map fun b=>V.int .u8 b.toNat else none).bind fun x2=>
  bif decide (((IntKind.wrap .i64 (IntKind.wrap .u8 (x2.toInt-97))):Int)≥letters) then
   kr (.inl false)
  else
   kn (IntKind.wrap .i64 (t19+1))
 else
  kr (.inr (t19,decide ((t19:Int)<t18)))
noncomputable def HM (C:ae) (w:List UInt8) (letters t18:Int):(Int)→Option ((Int) ⊕ ((Bool) ⊕ (Int × Bool))):=fun t19=>Ci C w letters t18 t19 (fun y=>some (.inl y)) (fun r=>some (.inr r))
noncomputable def Uz (C:ae):b8:=fun β n ds k=>
 bif Nat.beq n 65 then bM L7 [false,false,false,true] [[0],[1,2,3,0,0]] (@Ci C) ds k else
 none
abbrev afW (C:ae) (b:bZ):Prop:=b6 Tryz.prog av C (Uz C) 27 (cl Tryz.prog (av.aQ 27)) (av.sin 27).bc.length b
theorem afX (C:ae):afW C (.loop (ax [1,1,0,1,0,0] Uy)):=
 bP L7 [false,false,false,true] [[0],[1,2,3,0,0]] (@Ci C) (by kernel_rfl) (a9 (bs:=[]) (by kernel_rfl) aw) (fun ds=>by kernel_rfl) (fun i x=>by kernel_rfl) (fun i x β k=>by kernel_rfl) (fun β ds k=>by kernel_rfl)
noncomputable def UA (C:ae) (w:List UInt8) (letters:Int):Option (List V):=
 bif decide ((letters:Int)<1) then
  some [.bool false]
 else
  bif decide ((letters:Int)>6) then
  some [.bool false]
  else
  bif decide (((w.length:Int):Int)>2048) then
   some [.bool false]
  else
   (Loop (HM C w letters (w.length:Int)) 0).bind (cB (fun (kL:Bool)=>
    some [.bool kL]) (un fun (mZ:Int) (iJ:Bool)=>
    some [.bool true]))
theorem afY {w:List UInt8} {letters:Int} {r:Option (List V)} (h:UA CC w letters=r):CC BH [.str w,.int .i64 letters]=r:=
 aZ (key:=27) (L:=Uz CC) (bs:=[.loop (ax [1,1,0,1,0,0] Uy)]) (by kernel_rfl) (br (afX CC) aw) (aX (by kernel_rfl) h)
noncomputable abbrev UB:Code:=cj Tryz.prog (av.aQ 7)
noncomputable def Cj (C:ae) (w:List UInt8) (letters i:Int) {β:Type} (kn:Int→Option β) (kr:((Bool) ⊕ (Int × Bool))→Option β):Option β:=
 bif decide ((i:Int)<(w.length:Int)) then
  (bif decide (0≤i) then (w[(i:Int).toNat]?).map fun b=>V.int .u8 b.toNat else none).bind fun x2=>
  bif decide ((x2.toInt:Int)<97) then
  kr (.inl false)
  else
  (bif decide (0≤i) then (w[(i:Int).toNat]?).map fun b=>V.int .u8 b.toNat else none).bind fun x3=>
  bif decide (((IntKind.wrap .i64 (IntKind.wrap .u8 (x3.toInt-97))):Int)≥letters) then
   kr (.inl false)
  else
   kn (IntKind.wrap .i64 (i+1))
 else
  kr (.inr (i,decide ((i:Int)<(w.length:Int))))
noncomputable def HN (C:ae) (w:List UInt8) (letters:Int):(Int)→Option ((Int) ⊕ ((Bool) ⊕ (Int × Bool))):=fun i=>Cj C w letters i (fun y=>some (.inl y)) (fun r=>some (.inr r))
noncomputable def UC (C:ae):b8:=fun β n ds k=>
 bif Nat.beq n 65 then bM LY [false,false,true] [[0],[1,2,0,0]] (@Cj C) ds k else
 none
abbrev afZ (C:ae) (b:bZ):Prop:=b6 Tryz.prog av C (UC C) 7 (cl Tryz.prog (av.aQ 7)) (av.sin 7).bc.length b
theorem af0 (C:ae):afZ C (.loop (ax [1,1,0,1,0,0] UB)):=
 bP LY [false,false,true] [[0],[1,2,0,0]] (@Cj C) (by kernel_rfl) (a9 (bs:=[]) (by kernel_rfl) aw) (fun ds=>by kernel_rfl) (fun i x=>by kernel_rfl) (fun i x β k=>by kernel_rfl) (fun β ds k=>by kernel_rfl)
noncomputable def UD (C:ae) (w:List UInt8) (letters:Int):Option (List V):=
 (C yr [.int .i64 letters]).bind fun r1=>
 bif !((V.nth r1 0).toBool) then
  some [.bool false]
 else
  bif decide (((w.length:Int):Int)>2048) then
  some [.bool false]
  else
  (Loop (HN C w letters) 0).bind (cB (fun (mZ:Bool)=>
   some [.bool mZ]) (un fun (cY:Int) (mY:Bool)=>
   some [.bool true]))
theorem af1 {w:List UInt8} {letters:Int} {r:Option (List V)} (h:UD CC w letters=r):CC GU [.str w,.int .i64 letters]=r:=
 aZ (key:=7) (L:=UC CC) (bs:=[.loop (ax [1,1,0,1,0,0] UB)]) (by kernel_rfl) (br (af0 CC) aw) (aX (by kernel_rfl) h)
def cZ (w:List UInt8) (i:Nat):Int:=((w.getD i 0).toNat:Int)-97
def kN (w:List UInt8) (L:Int):Prop:=1≤L∧L≤6∧w.length≤2048∧∀i,i<w.length→0≤cZ w i∧cZ w i<L
instance (w:List UInt8) (L:Int):Decidable (kN w L):=by unfold kN;infer_instance
theorem Ck {w:List UInt8} {i:Nat} (h:i<w.length):(bif decide (0≤(i:Int)) then (w[((i:Nat):Int).toNat]?).map (fun b=>V.int .u8 b.toNat) else none)=some (.int .u8 ((w.getD i 0).toNat:Int)):=by
 rw[az,ah (by omega),Int.toNat_natCast]
 simp[h]
theorem UE (b:UInt8):b.toNat<256:=b.toNat_lt
theorem HO {w:List UInt8} {i:Nat} (h:0≤cZ w i):IntKind.wrap .u8 (((w.getD i 0).toNat:Int)-97)=cZ w i:=by
 have:=UE (w.getD i 0)
 unfold cZ at*
 exact BB h (by omega)
theorem NB {w:List UInt8} {i:Nat}:cZ w i<256:=by
 have:=UE (w.getD i 0)
 unfold cZ
 omega
theorem af2 {w:List UInt8} {L:Int} (hl:w.length≤2048):Loop (HM CC w L (w.length:Int)) 0=some (if∀i,i<w.length→0≤cZ w i∧cZ w i<L then .inr ((w.length:Int),false) else .inl false):=by
 refine TP (good:=fun i=>0≤cZ w i∧cZ w i<L) w.length (fun i=>(i:Int)) (Sum.inl false:Bool ⊕ (Int × Bool)) (Sum.inr ((w.length:Int),false)) (fun i hi=> ?_) ?_
 ·simp only[HM,Ci,un]
  rw[az,ah (by omega),Ck hi]
  simp only[Option.bind_some,V.toInt_int,az]
  by_cases h1:0≤cZ w i
  ·have fJ:=h1
   unfold cZ at fJ
   rw[ai (by omega),HO h1,wrap64 (by omega) (by have:= @NB w i;omega)]
   by_cases U:cZ w i<L
   ·rw[ai (by omega),ah ⟨h1,U⟩,wrap64 (by omega) (by omega)]
    simp
   ·rw[ah (by omega),ai (fun h=>U h.2)]
  ·have fJ:=h1
   unfold cZ at fJ
   rw[ah (by omega),ai (fun h=>h1 h.1)]
 ·simp only[HM,Ci,un]
  rw[az,ai (by omega)]
  simp
theorem af3 {w:List UInt8} {L:Int} (hl:w.length≤2048):Loop (HN CC w L) 0=some (if∀i,i<w.length→0≤cZ w i∧cZ w i<L then .inr ((w.length:Int),false) else .inl false):=by
 refine TP (good:=fun i=>0≤cZ w i∧cZ w i<L) w.length (fun i=>(i:Int)) (Sum.inl false:Bool ⊕ (Int × Bool)) (Sum.inr ((w.length:Int),false)) (fun i hi=> ?_) ?_
 ·simp only[HN,Cj,un]
  rw[az,ah (by omega),Ck hi]
  simp only[Option.bind_some,V.toInt_int,az]
  by_cases h1:0≤cZ w i
  ·have fJ:=h1
   unfold cZ at fJ
   rw[ai (by omega),HO h1,wrap64 (by omega) (by have:= @NB w i;omega)]
   by_cases U:cZ w i<L
   ·rw[ai (by omega),ah ⟨h1,U⟩,wrap64 (by omega) (by omega)]
    simp
   ·rw[ah (by omega),ai (fun h=>U h.2)]
  ·have fJ:=h1
   unfold cZ at fJ
   rw[ah (by omega),ai (fun h=>h1 h.1)]
 ·simp only[HN,Cj,un]
  rw[az,ai (by omega)]
  simp
theorem UF (w:List UInt8) (L:Int):CC BH [.str w,.int .i64 L]=some [.bool (decide (kN w L))]:=by
 refine afY ?_
 unfold UA
 simp only[az]
 by_cases h1:L<1
 ·rw[ah h1,ct (fun h=>by have:=h.1;omega)]
 rw[ai h1]
 by_cases U:L>6
 ·rw[ah U,ct (fun h=>by have:=h.2.1;omega)]
 rw[ai U]
 by_cases h3:(w.length:Int)>2048
 ·rw[ah h3,ct (fun h=>by have:=h.2.2.1;omega)]
 rw[ai h3,af2 (by omega)]
 by_cases h4: ∀i,i<w.length→0≤cZ w i∧cZ w i<L
 ·rw[ah h4,eC (show kN w L from ⟨by omega,by omega,by omega,h4⟩)]
  simp[cB,un]
 ·rw[ai h4,ct (fun h=>h4 h.2.2.2)]
  simp[cB,un]
theorem af4 (w:List UInt8) (L:Int):CC GU [.str w,.int .i64 L]=some [.bool (decide (kN w L))]:=by
 refine af1 ?_
 unfold UD
 rw[afV]
 simp only[Option.bind_some,V.aC,V.cN,ga,az]
 by_cases h1: ¬(1≤L∧L≤6)
 ·rw[ai h1,ct (fun h=>h1 ⟨h.1,h.2.1⟩)]
 have h1:=ER.1 h1
 rw[ah h1]
 by_cases h3:(w.length:Int)>2048
 ·rw[ah h3,ct (fun h=>by have:=h.2.2.1;omega)]
 rw[ai h3,af3 (by omega)]
 by_cases h4: ∀i,i<w.length→0≤cZ w i∧cZ w i<L
 ·rw[ah h4,eC (show kN w L from ⟨h1.1,h1.2,by omega,h4⟩)]
  simp[cB,un]
 ·rw[ai h4,ct (fun h=>h4 h.2.2.2)]
  simp[cB,un]
end Go.AM
namespace Go.AM
theorem af5: ∀(x:Nat),x≠0→∃k m,x=2^k*(2*m+1):=by
 intro x
 induction x using Nat.strongRecOn with
 | ind x ih=>
  intro hx
  by_cases h:x %2=1
  ·exact ⟨0,x/2,by simp;omega⟩
  ·obtain ⟨k,m,hm⟩:=ih (x/2) (by omega) (by omega)
   refine ⟨k+1,m,?_⟩
   rw[Nat.pow_succ,Nat.mul_assoc,kY 2 (2*m+1),←Nat.mul_assoc,←hm]
   omega
theorem y6 {k m j:Nat}:(2^k*(2*m+1)).testBit j=(decide (j=k)||(decide (k<j)&&m.testBit (j-k-1))):=by
 rw[Nat.testBit_two_pow_mul]
 by_cases h:j<k
 ·have h1: ¬k≤j:=by omega
  have U: ¬j=k:=by omega
  have h3: ¬k<j:=by omega
  simp[h1,U,h3]
 ·by_cases U:j=k
  ·subst U;simp
  ·have h3:k<j:=by omega
   obtain ⟨d,hd⟩: ∃d,j-k=d+1:=⟨j-k-1,by omega⟩
   have h4:k≤j:=by omega
   rw[hd,Nat.testBit_succ]
   have h5:(2*m+1)/2=m:=by omega
   have h6:j-k-1=d:=by omega
   rw[h5]
   simp[U,h3,h4]
theorem UG {k m j:Nat}:(2^k*(2*m)).testBit j=(decide (k<j)&&m.testBit (j-k-1)):=by
 rw[Nat.testBit_two_pow_mul]
 by_cases h:j<k
 ·have h1: ¬k≤j:=by omega
  have h3: ¬k<j:=by omega
  simp[h1,h3]
 ·by_cases U:j=k
  ·subst U;simp
  ·have h3:k<j:=by omega
   obtain ⟨d,hd⟩: ∃d,j-k=d+1:=⟨j-k-1,by omega⟩
   have h4:k≤j:=by omega
   rw[hd,Nat.testBit_succ]
   have h5:2*m/2=m:=by omega
   have h6:j-k-1=d:=by omega
   rw[h5]
   simp[h3,h4]
theorem HP {k m:Nat} (h:2^k*(2*m+1)<2^64):k<64∧m<2^(63-k):=by
 have h1:2^k≤2^k*(2*m+1):=Nat.le_mul_of_pos_right _ (by omega)
 have hk:k<64:=(Nat.pow_lt_pow_iff_right (by omega:1<2)).1 (oD h1 h)
 refine ⟨hk,?_⟩
 have U:2^64=2^k*(2*2^(63-k)):=by
  have h4:2*2^(63-k)=2^(63-k+1):=by rw[Nat.pow_succ,kY]
  rw[h4,←Nat.pow_add];congr 1;omega
 rw[U] at h
 have:=Nat.lt_of_mul_lt_mul_left h
 omega
theorem af6 {k m:Nat} (h:2^k*(2*m+1)<2^64):2^64-2^k*(2*m+1)=2^k*(2*(2^(63-k)-(m+1))+1):=by
 obtain ⟨hk,hm⟩:=HP h
 have U:2^64=2^k*(2*2^(63-k)):=by
  have h4:2*2^(63-k)=2^(63-k+1):=by rw[Nat.pow_succ,kY]
  rw[h4,←Nat.pow_add];congr 1;omega
 rw[U,←Nat.mul_sub]
 congr 1
 omega
theorem af7 {k m:Nat} (h:2^k*(2*m+1)<2^64):(2^k*(2*m+1))&&&(2^64-2^k*(2*m+1))=2^k:=by
 obtain ⟨hk,hm⟩:=HP h
 rw[af6 h]
 apply Nat.eq_of_testBit_eq
 intro j
 rw[xc,y6,y6,Ah,Nat.testBit_two_pow_sub_succ hm]
 by_cases h1:j=k
 ·simp[h1]
 ·have U: ¬k=j:=fun h=>h1 h.symm
  cases m.testBit (j-k-1)<;>simp[h1,U]
theorem af8 {k m:Nat}:(2^k*(2*m+1))&&&(2^k*(2*m+1)-1)=2^k*(2*m):=by
 have e:2^k*(2*m+1)-1=2^k*(2*m)+(2^k-1):=by
  have:0<2^k:=uu (by simp)
  rw[Nat.mul_add];omega
 rw[e]
 apply Nat.eq_of_testBit_eq
 intro j
 have aT:2^k-1<2^k:=by have:0<2^k:=uu (by simp);omega
 rw[xc,y6,UG,Nat.testBit_two_pow_mul_add _ aT,Nat.testBit_two_pow_sub_one]
 by_cases h1:j<k
 ·have U: ¬j=k:=by omega
  have h3: ¬k<j:=by omega
  simp[h1,U,h3]
 ·by_cases U:j=k
  ·subst U
   simp
  ·have h3:k<j:=by omega
   obtain ⟨d,hd⟩: ∃d,j-k=d+1:=⟨j-k-1,by omega⟩
   have h5:2*m/2=m:=by omega
   have h6:j-k-1=d:=by omega
   rw[hd,Nat.testBit_succ,h5]
   simp[h1,U,h3]
def mem (s:Nat):List Nat:=(List.range 64).filter s.testBit
theorem mem_iff {s j:Nat} (hs:s<2^64):j∈mem s↔s.testBit j=true:=by
 unfold mem
 rw[kg,Ac]
 refine ⟨fun h=>h.2,fun h=>⟨?_,h⟩⟩
 by_cases hj:j<64
 ·exact hj
 ·have:s.testBit j=false:=Nat.testBit_lt_two_pow (oE hs (Nat.pow_le_pow_right (by omega) (by omega)))
  rw[this] at h;cases h
end Go.AM
set_option maxRecDepth 100000
namespace Go.AM
open Go.Proofs
noncomputable def UH (C:ae) (x:Int):Option (List V):=
 bif (x:Int)==0 then
  some [.int .i64 64]
 else
  bif (decide (0≤(Int.fdiv (IntKind.wrap .u64 (285870213051353865*(IntKind.wrap .u64 ((BitVec.ofInt (IntKind.bits .u64) x&&&BitVec.ofInt (IntKind.bits .u64) (IntKind.wrap .u64 (0-x))).toNat)))) (2^(min (58:Int).toNat (IntKind.bits .u64))))))&&(decide ((Int.fdiv (IntKind.wrap .u64 (285870213051353865*(IntKind.wrap .u64 ((BitVec.ofInt (IntKind.bits .u64) x&&&BitVec.ofInt (IntKind.bits .u64) (IntKind.wrap .u64 (0-x))).toNat)))) (2^(min (58:Int).toNat (IntKind.bits .u64))))<64)) then
  (((vE).drop ((Int.fdiv (IntKind.wrap .u64 (285870213051353865*(IntKind.wrap .u64 ((BitVec.ofInt (IntKind.bits .u64) x&&&BitVec.ofInt (IntKind.bits .u64) (IntKind.wrap .u64 (0-x))).toNat)))) (2^(min (58:Int).toNat (IntKind.bits .u64))):Int).toNat*1))[0]?).bind fun x1=>
  bif eJ Tryz.prog 5 x1 then
   some [.int .i64 (IntKind.wrap .i64 x1.toInt)]
  else none
  else none
theorem af9 {x:Int} {r:Option (List V)} (h:UH CC x=r):CC pc [.int .u64 x]=r:=
 aZ (key:=62) (L:=bX) (bs:=[]) (by kernel_rfl) aw (aX (by kernel_rfl) h)
def Cl (k:Nat):Nat:=285870213051353865*2^k %18446744073709551616/288230376151711744
theorem aga:(List.range 64).map (fun k=>(vE.drop (Cl k*1))[0]?)=(List.range 64).map (fun k:Nat=>some (V.int .u8 (k:Int))):=by kernel_rfl
theorem agb:(List.range 64).all (fun k=>Nat.blt (Cl k) 64)=true:=by kernel_rfl
theorem agc {k:Nat} (hk:k<64):(vE.drop (Cl k*1))[0]? =some (V.int .u8 (k:Int)):=by
 have h:=congrArg (·[k]?) aga
 simpa[hk] using h
theorem agd {k:Nat} (hk:k<64):Cl k<64:=by
 have h:=fc.1 agb k (Ac.2 hk)
 simpa[jH] using h
theorem age (z:Int):eJ Tryz.prog 5 (.int .u8 z)=true:=by kernel_rfl
theorem tB {k m:Nat} (h:2^k*(2*m+1)<2^64):CC pc [.int .u64 ((2^k*(2*m+1):Nat):Int)]=some [.int .i64 (k:Int)]:=by
 obtain ⟨hk,hm⟩:=HP h
 have jQ:0<2^k*(2*m+1):=w7 (uu (by simp)) (by omega)
 refine af9 ?_
 unfold UH
 generalize hx:2^k*(2*m+1)=x at*
 have e1:IntKind.wrap .u64 (0-(x:Int))=((2^64-x:Nat):Int):=by rw[wrap_u64];omega
 have e2:x&&&(2^64-x)=2^k:=by rw[←hx];exact af7 (by rw[hx];exact h)
 have fw:2^k<2^64:=Ai (by omega) hk
 have e3:IntKind.wrap .u64 (285870213051353865*((2^k:Nat):Int))=((285870213051353865*2^k %18446744073709551616:Nat):Int):=by rw[wrap_u64];omega
 have e4:Int.fdiv ((285870213051353865*2^k %18446744073709551616:Nat):Int) (2^(min (58:Int).toNat (IntKind.bits .u64)))=((Cl k:Nat):Int):=by
  have:=yP (A:=285870213051353865*2^k %18446744073709551616) (m:=58) (by omega)
  exact this
 rw[dC,ai (by omega),e1,u64_and h (by omega),e2,e3,e4,Int.toNat_natCast,agc hk]
 have hb:=agd hk
 rw[cu,az,ah (by omega),az,ah (by omega)]
 simp only[Option.bind_some,age,cond_true,V.toInt_int]
 rw[wrap64 (by omega) (by omega)]
noncomputable def UI (C:ae) (i:Int) (ss:List V):Option (List V):=
 bif (decide (0≤(Int.fdiv i (2^(min (6:Int).toNat (IntKind.bits .i64))))))&&(decide ((Int.fdiv i (2^(min (6:Int).toNat (IntKind.bits .i64))))<(ss.length:Int))) then
  (ss[(Int.fdiv i (2^(min (6:Int).toNat (IntKind.bits .i64))):Int).toNat]?).bind fun x1=>
  bif decide (0≤(IntKind.wrap .i64 ((BitVec.ofInt (IntKind.bits .i64) i&&&BitVec.ofInt (IntKind.bits .i64) 63).toNat))) then
  bif (decide (0≤(Int.fdiv i (2^(min (6:Int).toNat (IntKind.bits .i64))))))&&(decide ((Int.fdiv i (2^(min (6:Int).toNat (IntKind.bits .i64))))<(ss.length:Int))) then
   (ss[(Int.fdiv i (2^(min (6:Int).toNat (IntKind.bits .i64))):Int).toNat]?).bind fun x2=>
   some [.list aJ (ss.set ((Int.fdiv i (2^(min (6:Int).toNat (IntKind.bits .i64))):Int).toNat) (.int .u64 (IntKind.wrap .u64 ((BitVec.ofInt (IntKind.bits .u64) x1.toInt|||BitVec.ofInt (IntKind.bits .u64) (IntKind.wrap .u64 (1*2^(min (IntKind.wrap .i64 ((BitVec.ofInt (IntKind.bits .i64) i&&&BitVec.ofInt (IntKind.bits .i64) 63).toNat)).toNat (IntKind.bits .u64))))).toNat))))]
  else none
  else none
 else none
theorem agf {i:Int} {ss:List V} {r:Option (List V)} (h:UI CC i ss=r):CC vy [.int .i64 i,.list aJ ss]=r:=
 aZ (key:=29) (L:=bX) (bs:=[]) (by kernel_rfl) aw (aX (by kernel_rfl) h)
noncomputable def UJ (C:ae) (s:Nat) (i:Int) (ss:List V):Option (List V):=
 (c9 Tryz.prog aD ss [(s,0)]).bind fun x1=>
 bif (decide (0≤(Int.fdiv i (2^(min (6:Int).toNat (IntKind.bits .i64))))))&&(decide ((Int.fdiv i (2^(min (6:Int).toNat (IntKind.bits .i64))))<(x1.toList.length:Int))) then
  (c9 Tryz.prog aD ss [(s,0)]).bind fun x2=>
  (x2.toList[(Int.fdiv i (2^(min (6:Int).toNat (IntKind.bits .i64))):Int).toNat]?).bind fun x3=>
  bif decide (0≤(IntKind.wrap .i64 ((BitVec.ofInt (IntKind.bits .i64) i&&&BitVec.ofInt (IntKind.bits .i64) 63).toNat))) then
  (c9 Tryz.prog aD ss [(s,0)]).bind fun x4=>
  bif (decide (0≤(Int.fdiv i (2^(min (6:Int).toNat (IntKind.bits .i64))))))&&(decide ((Int.fdiv i (2^(min (6:Int).toNat (IntKind.bits .i64))))<(x4.toList.length:Int))) then
   (c9 Tryz.prog aD ss [(s,0)]).bind fun x5=>
   (x5.toList[(Int.fdiv i (2^(min (6:Int).toNat (IntKind.bits .i64))):Int).toNat]?).bind fun x6=>
   some [.list aD (setRow Tryz.prog (x5.toList.set ((Int.fdiv i (2^(min (6:Int).toNat (IntKind.bits .i64))):Int).toNat) (.int .u64 (IntKind.wrap .u64 ((BitVec.ofInt (IntKind.bits .u64) x3.toInt|||BitVec.ofInt (IntKind.bits .u64) (IntKind.wrap .u64 (1*2^(min (IntKind.wrap .i64 ((BitVec.ofInt (IntKind.bits .i64) i&&&BitVec.ofInt (IntKind.bits .i64) 63).toNat)).toNat (IntKind.bits .u64))))).toNat)))) aD ss [(s,0)])]
  else none
  else none
 else none
theorem agh {s:Nat} {i:Int} {ss:List V} {r:Option (List V)} (h:UJ CC s i ss=r):CC Hp [dF s,.int .i64 i,.list aD ss]=r:=
 aZ (key:=137) (L:=bX) (bs:=[]) (by kernel_rfl) aw (aX (by kernel_rfl) h)
noncomputable def UK (C:ae) (s:List V) (i:Int):Option (List V):=
 (idx s (Int.fdiv i (2^(min (6:Int).toNat (IntKind.bits .i64))))).bind fun x1=>
 bif decide (0≤(IntKind.wrap .i64 ((BitVec.ofInt (IntKind.bits .i64) i&&&BitVec.ofInt (IntKind.bits .i64) 63).toNat))) then
  some [.bool (((IntKind.wrap .u64 ((BitVec.ofInt (IntKind.bits .u64) (Int.fdiv x1.toInt (2^(min (IntKind.wrap .i64 ((BitVec.ofInt (IntKind.bits .i64) i&&&BitVec.ofInt (IntKind.bits .i64) 63).toNat)).toNat (IntKind.bits .u64))))&&&BitVec.ofInt (IntKind.bits .u64) 1).toNat)):Int)==1)]
 else none
theorem agi {s:List V} {i:Int} {r:Option (List V)} (h:UK CC s i=r):CC yx [.list aJ s,.int .i64 i]=r:=
 aZ (key:=31) (L:=bX) (bs:=[]) (by kernel_rfl) aw (aX (by kernel_rfl) h)
noncomputable abbrev UL:Code:=cj Tryz.prog (av.aQ 54)
noncomputable def Cm (C:ae) (t:List V) (k':Int) (ss:List V) {β:Type} (kn:(Int × (List V))→Option β) (kr:(Int × Bool × (List V))→Option β):Option β:=
 bif decide ((k':Int)<(ss.length:Int)) then
  bif (decide (0≤k'))&&(decide (k'<(ss.length:Int))) then
  (ss[(k':Int).toNat]?).bind fun x1=>
  (idx t k').bind fun x2=>
  bif (decide (0≤k'))&&(decide (k'<(ss.length:Int))) then
   (ss[(k':Int).toNat]?).bind fun x3=>
   kn (IntKind.wrap .i64 (k'+1),ss.set ((k':Int).toNat) (.int .u64 (IntKind.wrap .u64 ((BitVec.ofInt (IntKind.bits .u64) x1.toInt|||BitVec.ofInt (IntKind.bits .u64) x2.toInt).toNat))))
  else none
  else none
 else
  kr (k',decide ((k':Int)<(ss.length:Int)),ss)
noncomputable def Cn (C:ae) (t:List V):(Int × (List V))→Option ((Int × (List V)) ⊕ (Int × Bool × (List V))):=un fun k' ss=>Cm C t k' ss (fun y=>some (.inl y)) (fun r=>some (.inr r))
noncomputable def UM (C:ae):b8:=fun β n ds k=>
 bif Nat.beq n 17 then bM Mp [false,true,true] [[1,0,0,0]] (@Cm C) ds k else
 none
abbrev agj (C:ae) (b:bZ):Prop:=b6 Tryz.prog av C (UM C) 54 (cl Tryz.prog (av.aQ 54)) (av.sin 54).bc.length b
theorem agk (C:ae):agj C (.loop (ax [1,0,0] UL)):=
 bP Mp [false,true,true] [[1,0,0,0]] (@Cm C) (by kernel_rfl) (a9 (bs:=[]) (by kernel_rfl) aw) (fun ds=>by kernel_rfl) (fun i x=>by kernel_rfl) (fun i x β k=>by kernel_rfl) (fun β ds k=>by kernel_rfl)
noncomputable def UN (C:ae) (t:List V) (least:Int) (ss:List V):Option (List V):=
 (Loop (Cn C t) (Int.fdiv least (2^(min (6:Int).toNat (IntKind.bits .i64))),ss)).bind (un fun (k_4:Int)=>un fun (iJ:Bool) (agl:List V)=>
  some [.list aJ agl])
theorem agm {t:List V} {least:Int} {ss:List V} {r:Option (List V)} (h:UN CC t least ss=r):CC vA [.list aJ t,.int .i64 least,.list aJ ss]=r:=
 aZ (key:=54) (L:=UM CC) (bs:=[.loop (ax [1,0,0] UL)]) (by kernel_rfl) (br (agk CC) aw) (aX (by kernel_rfl) h)
noncomputable def UO (C:ae) (m:List UInt8):Option (List V):=
 bif (decide (0≤(IntKind.wrap .i64 ((Int.fdiv (m.length:Int) (2^(min (6:Int).toNat (IntKind.bits .i64))))+1))))&&((decide ((IntKind.wrap .i64 ((Int.fdiv (m.length:Int) (2^(min (6:Int).toNat (IntKind.bits .i64))))+1))≤(IntKind.wrap .i64 ((Int.fdiv (m.length:Int) (2^(min (6:Int).toNat (IntKind.bits .i64))))+1))))&&(Nat.ble (((IntKind.wrap .i64 ((Int.fdiv (m.length:Int) (2^(min (6:Int).toNat (IntKind.bits .i64))))+1):Int).toNat)*8) cJ)) then
  some [.list aJ (List.replicate ((IntKind.wrap .i64 ((Int.fdiv (m.length:Int) (2^(min (6:Int).toNat (IntKind.bits .i64))))+1):Int).toNat) (V.int .u64 0))]
 else none
theorem agn {m:List UInt8} {r:Option (List V)} (h:UO CC m=r):CC o9 [.str m]=r:=
 aZ (key:=28) (L:=bX) (bs:=[]) (by kernel_rfl) aw (aX (by kernel_rfl) h)
def wd (S k:Nat):Nat:=(S >>> (64*k)) %2^64
def wV (g:Nat→Nat) (k:Nat):V:= .int .u64 ((g k:Nat):Int)
def dw (m:Nat) (g:Nat→Nat):List V:=(List.range m).map (wV g)
def bh (m S:Nat):List V:=dw m (wd S)
theorem og {S k j:Nat}:(wd S k).testBit j=(decide (j<64)&&S.testBit (64*k+j)):=by
 unfold wd;rw[Nat.testBit_mod_two_pow,Nat.testBit_shiftRight]
theorem gK {S k:Nat}:wd S k<2^64:=xb _ (by decide)
theorem vM {m:Nat} {g:Nat→Nat}:(dw m g).length=m:=by simp[dw]
theorem mi {m S:Nat}:(bh m S).length=m:=vM
theorem vN {m k:Nat} {g:Nat→Nat} (h:k<m):(dw m g)[k]? =some (.int .u64 ((g k:Nat):Int)):=by simp[dw,wV,h]
theorem lB {m k S:Nat} (h:k<m):(bh m S)[k]? =some (.int .u64 ((wd S k:Nat):Int)):=vN h
theorem UP {α:Type} {m k:Nat} {f:Nat→α} {x:α}:((List.range m).map f).set k x=(List.range m).map fun j=>if j=k then x else f j:=by
 apply EM
 intro i
 rw[Ab]
 by_cases h:k=i
 ·subst h
  by_cases hk:k<m
  ·simp[hk]
  ·simp[hk]
 ·have h': ¬i=k:=fun e=>h e.symm
  by_cases hi:i<m
  ·simp[h,h',hi]
  ·simp[h,hi]
theorem vO {m k x:Nat} {g:Nat→Nat}:(dw m g).set k (.int .u64 ((x:Nat):Int))=dw m (fun j=>if j=k then x else g j):=by
 unfold dw
 rw[UP]
 refine nt fun j _=> ?_
 unfold wV
 by_cases h:j=k
 ·simp[h]
 ·simp[h]
theorem UQ {m k x S:Nat}:(bh m S).set k (.int .u64 ((x:Nat):Int))=dw m (fun j=>if j=k then x else wd S j):=vO
theorem tC {m:Nat} {g h:Nat→Nat} (e: ∀k,k<m→g k=h k):dw m g=dw m h:=by
 refine nt fun j hj=> ?_
 unfold wV;rw[e j (Ac.1 hj)]
theorem UR {a b:Nat} (ha:a<2^64) (hb:b<2^64) (h: ∀j,j<64→a.testBit j=b.testBit j):a=b:=by
 refine Nat.eq_of_testBit_eq fun j=> ?_
 by_cases hj:j<64
 ·exact h j hj
 ·have hp:2^64≤2^j:=Nat.pow_le_pow_right (by omega) (by omega)
  rw[Nat.testBit_lt_two_pow (oE ha hp),Nat.testBit_lt_two_pow (oE hb hp)]
theorem HQ {m S:Nat} {g:Nat→Nat} (hl: ∀k,k<m→g k<2^64) (hb: ∀k,k<m→∀j,j<64→(g k).testBit j=S.testBit (64*k+j)):dw m g=bh m S:=
 tC fun k hk=>UR (hl k hk) gK fun j hj=>by rw[hb k hk j hj,og];simp[hj]
theorem vP {i:Nat}:Int.fdiv (i:Int) (2^(min (6:Int).toNat (IntKind.bits .i64)))=((i/64:Nat):Int):=by
 have e:(2^(min (6:Int).toNat (IntKind.bits .i64)):Int)=64:=by rfl
 rw[e,Int.fdiv_eq_ediv_of_nonneg _ (by omega)]
 omega
theorem Co {i:Nat} (h:i<2^63):IntKind.wrap .i64 ((BitVec.ofInt (IntKind.bits .i64) (i:Int)&&&BitVec.ofInt (IntKind.bits .i64) 63).toNat)=((i %64:Nat):Int):=by
 have:=bv_and (n:=IntKind.bits .i64) (A:=i) (B:=63) (by show i<2^64;omega) (by show 63<2^64;omega)
 rw[show ((63:Nat):Int)=63 from rfl] at this
 rw[this,show (63:Nat)=2^6-1 from rfl,Nat.and_two_pow_sub_one_eq_mod]
 exact wrap64 (by omega) (by omega)
theorem US {m S i:Nat}:dw m (fun j=>if j=i/64 then wd S (i/64)|||2^(i %64) else wd S j)=bh m (S|||2^i):=by
 refine HQ (fun k _=> ?_) fun k _ j hj=> ?_
 ·split
  ·exact EP gK (Ai (by omega) (by omega))
  ·exact gK
 ·rw[sI,Ah]
  by_cases h:k=i/64
  ·rw[ah h,sI,Ah,←h,og]
   have:(i %64=j)↔(i=64*k+j):=by omega
   simp[hj,this]
  ·rw[ai h,og]
   have: ¬i=64*k+j:=by omega
   simp[hj,this]
theorem NC {m S i:Nat} (h:i/64<m) (hi:i<2^60):CC vy [.int .i64 (i:Int),.list aJ (bh m S)]=some [.list aJ (bh m (S|||2^i))]:=by
 refine agf ?_
 unfold UI
 rw[vP,Co (by omega)]
 simp only[cu,az,Int.toNat_natCast,mi,lB h,Option.bind_some,V.toInt_int]
 rw[ah (by omega),ah (by omega),ah (by omega),Nt (by omega),u64_or gK (Ai (by omega) (by omega)),UQ,US,ah (by omega),ah (by omega)]
theorem ND {m S i:Nat} (h:i/64<m) (hi:i<2^60):CC yx [.list aJ (bh m S),.int .i64 (i:Int)]=some [.bool (S.testBit i)]:=by
 refine agi ?_
 unfold UK
 rw[vP,Co (by omega)]
 simp only[nU,lB h,Option.bind_some,V.toInt_int,az,Int.toNat_natCast]
 rw[ah (by omega),adZ gK (by omega),og]
 have:64*(i/64)+i %64=i:=by omega
 rw[this]
 have U:i %64<64:=by omega
 simp[U]
theorem ago {w:List UInt8} (h:w.length≤2048):CC o9 [.str w]=some [.list aJ (bh (w.length/64+1) 0)]:=by
 refine agn ?_
 unfold UO
 rw[vP,wrap64 (by omega) (by omega)]
 have e:(((w.length/64:Nat):Int)+1).toNat=w.length/64+1:=by omega
 simp only[cu,az,yi,e]
 rw[ah (by omega),ah (by omega),ah (by rw[n0];omega)]
 have:List.replicate (w.length/64+1) (V.int .u64 0)=bh (w.length/64+1) 0:=by
  apply EM
  intro i
  by_cases hi:i<w.length/64+1
  ·rw[lB hi]
   have:wd 0 i=0:=by unfold wd;simp
   rw[this]
   rw[EI,ah hi];rfl
  ·rw[qN (by simp;omega),qN (by rw[mi];omega)]
 rw[this]
theorem agp {m S T a:Nat} (hT: ∀j,j<64*a→T.testBit j=false):dw m (fun j=>if a≤j then wd S j|||wd T j else wd S j)=bh m (S|||T):=by
 refine HQ (fun k _=> ?_) fun k _ j hj=> ?_
 ·split
  ·exact EP gK gK
  ·exact gK
 ·rw[sI]
  by_cases h:a≤k
  ·rw[ah h,sI,og,og];simp[hj]
  ·rw[ai h,og,hT (64*k+j) (by omega)];simp[hj]
theorem NF {m S T i:Nat} (hm:m≤100) (h:i/64<m) (hT: ∀j,j<i→T.testBit j=false):
  CC vA [.list aJ (bh m T),.int .i64 (i:Int),.list aJ (bh m S)]=some [.list aJ (bh m (S|||T))]:=by
 refine agm ?_
 unfold UN
 rw[vP]
 let g:Nat→Nat→Nat:=fun b j=>if i/64≤j∧j<b then wd S j|||wd T j else wd S j
 have go: ∀d b,i/64≤b→b+d=m→Loop (Cn CC (bh m T)) ((b:Int),dw m (g b))=some ((m:Int),false,dw m (g m)):=by
  intro d
  induction d with
  | zero=>
   intro b _ hb
   have hb:b=m:=by omega
   subst hb
   refine bj ?_
   simp only[Cn,Cm,un,vM]
   rw[az,ai (by omega)]
   simp
  | succ d ih=>
   intro b ll hb
   have bG:Cn CC (bh m T) ((b:Int),dw m (g b))=some (.inl (((b+1:Nat):Int),dw m (g (b+1)))):=by
    simp only[Cn,Cm,un,vM,cu,az,Int.toNat_natCast,vN (show b<m by omega),lB (show b<m by omega),nU,Option.bind_some,V.toInt_int]
    have e1:g b b=wd S b:=by simp[g]
    rw[ah (by omega),ah (by omega),ah (by omega),e1,u64_or gK gK,vO,wrap64 (by omega) (by omega),ah (by omega),ah (by omega)]
    have:dw m (fun j=>if j=b then wd S b|||wd T b else g b j)=dw m (g (b+1)):=by
     refine tC fun k _=> ?_
     show (if k=b then wd S b|||wd T b else if i/64≤k∧k<b then wd S k|||wd T k else wd S k)=if i/64≤k∧k<b+1 then wd S k|||wd T k else wd S k
     by_cases h1:k=b
     ·subst h1;rw[ah rfl,ah (by omega)]
     ·rw[ai h1]
      by_cases U:i/64≤k∧k<b
      ·rw[ah U,ah (by omega)]
      ·rw[ai U,ai (by omega)]
    rw[this]
    rfl
   rw[bW bG]
   exact ih (b+1) (by omega) (by omega)
 have e0:bh m S=dw m (g (i/64)):=tC fun k _=>by
  show wd S k=if i/64≤k∧k<i/64 then _ else wd S k
  rw[ai (by omega)]
 have e1:dw m (g m)=bh m (S|||T):=by
  rw[←agp (m:=m) (a:=i/64) (S:=S) (T:=T) fun j hj=>hT j (by omega)]
  refine tC fun k hk=> ?_
  show (if i/64≤k∧k<m then _ else _)=_
  by_cases U:i/64≤k
  ·rw[ah ⟨U,hk⟩,ah U]
  ·rw[ai (fun h=>U h.1),ai U]
 rw[e0,go (m-i/64) (i/64) (by omega) (by omega),←e1]
 simp[un]
def Cp (m:Nat):Option Nat→V
 | none=> .list aJ []
 | some S=> .list aJ (bh m S)
def Rows (m N:Nat) (R:Nat→Option Nat):List V:=(List.range N).map fun i=>Cp m (R i)
def upd (R:Nat→Option Nat) (i S:Nat):Nat→Option Nat:=fun j=>if j=i then some S else R j
theorem HR {R:Nat→Option Nat} {i S:Nat}:upd R i S i=some S:=by simp[upd]
theorem NG {R:Nat→Option Nat} {i j S:Nat} (h:j≠i):upd R i S j=R j:=by simp[upd,h]
theorem UT {R:Nat→Option Nat} {i S T:Nat}:upd (upd R i S) i T=upd R i T:=by
 funext j;unfold upd;split<;>rfl
theorem kO {m N:Nat} {R:Nat→Option Nat}:(Rows m N R).length=N:=by simp[Rows]
theorem jY {m N i:Nat} {R:Nat→Option Nat} (h:i<N):(Rows m N R)[i]? =some (Cp m (R i)):=by simp[Rows,h]
theorem vQ {m N i S:Nat} {R:Nat→Option Nat}:(Rows m N R).set i (.list aJ (bh m S))=Rows m N (upd R i S):=by
 unfold Rows;rw[UP]
 refine nt fun j _=> ?_
 unfold upd
 by_cases h:j=i
 ·simp[h,Cp]
 ·simp[h]
theorem UU {m N:Nat}:List.replicate N (V.list aJ ([]:List V))=Rows m N (fun _=>none):=by
 apply EM
 intro i
 by_cases hi:i<N
 ·rw[jY hi,EI,ah hi];rfl
 ·rw[qN (by simp;omega),qN (by rw[kO];omega)]
theorem agq:Tryz.prog.underlying aD=some (.slice aJ):=by kernel_rfl
theorem NH:bL Tryz.prog aD=false:=by kernel_rfl
theorem HS {l:List V}:parts Tryz.prog aD (.list aJ l)=[.list aJ l]:=by
 unfold parts;rw[NH];simp only[cond_false,eZ,agq,V.bR]
theorem qp {m N i S:Nat} {R:Nat→Option Nat} (h:i<N) (hR:R i=some S):c9 Tryz.prog aD (Rows m N R) [(i,0)]=some (.list aJ (bh m S)):=by
 simp only[c9,jY h,hR,Cp,Option.bind_some,HS]
 rfl
theorem agr {m N i S:Nat} {l:List V} {R:Nat→Option Nat} (h:i<N) (hR:R i=some S):setRow Tryz.prog l aD (Rows m N R) [(i,0)]=(Rows m N R).set i (.list aJ l):=by
 simp only[setRow,jY h,hR,Cp,HS]
 simp only[List.getElem?_cons_zero,List.set_cons_zero,cA,NH,cond_false,V.aC]
theorem UW {m N i j S:Nat} {R:Nat→Option Nat} (h:j/64<m) (hj:j<2^60) (hi:i<N) (hR:R i=some S):
  CC Hp [dF i,.int .i64 (j:Int),.list aD (Rows m N R)]=some [.list aD (Rows m N (upd R i (S|||2^j)))]:=by
 refine agh ?_
 unfold UJ
 rw[vP,Co (by omega)]
 simp only[qp hi hR,Option.bind_some,cu,az,Int.toNat_natCast,V.bR,mi,lB h,V.toInt_int]
 rw[ah (by omega),ah (by omega),ah (by omega),Nt (by omega),u64_or gK (Ai (by omega) (by omega)),UQ,US,agr hi hR,vQ,ah (by omega),ah (by omega)]
theorem tD {j q:Nat} (h:2^j*(2*q+1)<2^64):
  IntKind.wrap .u64 ((BitVec.ofInt (IntKind.bits .u64) ((2^j*(2*q+1):Nat):Int)&&&BitVec.ofInt (IntKind.bits .u64) (IntKind.wrap .u64 (((2^j*(2*q+1):Nat):Int)-1))).toNat)=((2^j*(2*q):Nat):Int):=by
 have jQ:0<2^j*(2*q+1):=w7 (uu (by simp)) (by omega)
 have hp:((2^j*(2*q+1):Nat):Int)-1=((2^j*(2*q+1)-1:Nat):Int):=by omega
 rw[hp,tx (A:=2^j*(2*q+1)-1) (by omega),u64_and h (by omega),af8]
theorem tE {k j:Nat} (hk:k≤100) (hj:j<64):IntKind.wrap .i64 ((IntKind.wrap .i64 ((k:Int)*2^(min (6:Int).toNat (IntKind.bits .i64))))+(j:Int))=((64*k+j:Nat):Int):=by
 have e:(2^(min (6:Int).toNat (IntKind.bits .i64)):Int)=64:=by rfl
 rw[e,wrap64 (x:=(k:Int)*64) (by omega) (by omega),wrap64 (by omega) (by omega)]
 omega
theorem tF {j q:Nat}: ¬((2^j*(2*q+1):Nat):Int)=0:=by
 have jQ:0<2^j*(2*q+1):=w7 (uu (by simp)) (by omega)
 omega
theorem ags {A:Type} {S k:Nat} {step:(Int × A)→Option ((Int × A) ⊕ (Int × Bool × A))} {P:Nat→A→Prop}
  (h1: ∀(j q:Nat) a,j<64→2^j*(2*q+1)<2^64→S.testBit (64*k+j)=true→P (64*k+j) a→∃a',step (((2^j*(2*q+1):Nat):Int),a)=some (.inl (((2^j*(2*q):Nat):Int),a'))∧P (64*k+j+1) a')
  (U: ∀i a,S.testBit i=false→P i a→P (i+1) a)
  (h0: ∀a,step (0,a)=some (.inr (0,false,a))):
  ∀d j,j+d=64→∀(p:Nat) a,p<2^64→(∀t,t<64→p.testBit t=(decide (j≤t)&&S.testBit (64*k+t)))→P (64*k+j) a→∃a',Loop step ((p:Int),a)=some (0,false,a')∧P (64*k+64) a':=by
 intro d
 induction d with
 | zero=>
  intro j hj p a hp hb hP
  have hj:j=64:=by omega
  subst hj
  have:p=0:=UR hp (by omega) fun t ht=>by
   rw[hb t ht];have: ¬64≤t:=by omega
   simp[this]
  subst this
  exact ⟨a,bj (h0 a),hP⟩
 | succ d ih=>
  intro j hj p a hp hb hP
  have Cq:=hb j (by omega)
  rw[eC (bU j),ka] at Cq
  cases hc:S.testBit (64*k+j) with
  | false=>
   refine ih (j+1) (by omega) p a hp (fun t ht=> ?_) (U _ _ hc hP)
   rw[hb t ht]
   by_cases e:t=j
   ·subst e;have e4: ¬t+1≤t:=by omega
    simp[hc,e4]
   ·have:(j≤t)↔(j+1≤t):=by omega
    simp[this]
  | true=>
   rw[hc] at Cq
   have bD:p≠0:=by rintro rfl;simp at Cq
   obtain ⟨j',q,HT⟩:=af5 p bD
   have e:j'=j:=by
    have h3:j'<64:=by rw[HT] at hp;exact (HP hp).1
    have h4:p.testBit j'=true:=by rw[HT,y6];simp
    rw[hb j' h3] at h4
    have h5:j≤j':=by simp at h4;exact h4.1
    rw[HT,y6] at Cq
    simp at Cq
    omega
   subst e
   subst HT
   obtain ⟨a',bG,jo⟩:=h1 j' q a (by omega) hp hc hP
   rw[bW bG]
   have aT:2^j'*(2*q)<2^j'*(2*q+1):=Nat.mul_lt_mul_of_pos_left (by omega) (uu (by simp))
   refine ih (j'+1) (by omega) _ a' (by omega) (fun t ht=> ?_) jo
   have:=hb t ht
   rw[y6] at this
   rw[UG]
   by_cases e1:t=j'
   ·subst e1;have e4: ¬t+1≤t:=by omega
    simp[e4]
   ·by_cases e2:j'<t
    ·have e3:j'+1≤t:=by omega
     have e4:j'≤t:=by omega
     simpa[e1,e2,e3,e4] using this
    ·have e3: ¬j'+1≤t:=by omega
     simp[e2,e3]
theorem tG {A:Type} {S m:Nat} (hm:m≤100) {outer:(Int × A)→Option ((Int × A) ⊕ (Int × Bool × A))} {inner:Nat→(Int × A)→Option ((Int × A) ⊕ (Int × Bool × A))} {P:Nat→A→Prop}
  (ho: ∀(k:Nat) a a',k<m→Loop (inner k) (((wd S k:Nat):Int),a)=some (0,false,a')→outer ((k:Int),a)=some (.inl (((k+1:Nat):Int),a')))
  (he: ∀a,outer ((m:Int),a)=some (.inr ((m:Int),false,a)))
  (h1: ∀(k j q:Nat) a,k<m→j<64→2^j*(2*q+1)<2^64→S.testBit (64*k+j)=true→P (64*k+j) a→∃a',inner k (((2^j*(2*q+1):Nat):Int),a)=some (.inl (((2^j*(2*q):Nat):Int),a'))∧P (64*k+j+1) a')
  (U: ∀i a,S.testBit i=false→P i a→P (i+1) a)
  (h0: ∀k a,inner k (0,a)=some (.inr (0,false,a))) (a0:A) (hP:P 0 a0):
  ∃a',Loop outer (0,a0)=some ((m:Int),false,a')∧P (64*m) a':=by
 have go: ∀d k,k+d=m→∀a,P (64*k) a→∃a',Loop outer ((k:Int),a)=some ((m:Int),false,a')∧P (64*m) a':=by
  intro d
  induction d with
  | zero=>
   intro k hk a hP
   have hk:k=m:=by omega
   subst hk
   exact ⟨a,bj (he a),hP⟩
  | succ d ih=>
   intro k hk a hP
   obtain ⟨a',hl,jo⟩:=ags (S:=S) (k:=k) (P:=P) (fun j q a hj hq hb hp=>h1 k j q a (by omega) hj hq hb hp) U (h0 k) 64 0 (by omega) (wd S k) a gK (fun t ht=>by rw[og];simp[ht]) hP
   rw[bW (ho k a a' (by omega) hl)]
   exact ih (k+1) (by omega) a' (by rw[show 64*(k+1)=64*k+64 by omega];exact jo)
 exact go m 0 (by omega) a0 hP
noncomputable abbrev HU:Code:=cj Tryz.prog (av.aQ 44)
noncomputable def Cr (C:ae) (k':Int) (t6:List V) (t7 t8 part:Int) (bK:List UInt8) (eR eS:Int) (eT au:List V) {β:Type} (kn:(Int × (List UInt8) × Int × Int × (List V) × (List V))→Option β) (kr:(Int × Bool × (List UInt8) × Int × Int × (List V) × (List V))→Option β):Option β:=
 bif (part:Int) != 0 then
  (C pc [.int .u64 part]).bind fun r2=>
  (C qc [.int .i64 (IntKind.wrap .i64 ((IntKind.wrap .i64 (k'*2^(min (6:Int).toNat (IntKind.bits .i64))))+((V.nth r2 0).toInt))),.str bK,.int .i64 eR,.int .i64 eS,.list aa eT,.list aD au]).bind fun r3=>
  kn (IntKind.wrap .u64 ((BitVec.ofInt (IntKind.bits .u64) part&&&BitVec.ofInt (IntKind.bits .u64) (IntKind.wrap .u64 (part-1))).toNat),(V.nth r3 0).toStr,(V.nth (r3.drop 1) 0).toInt,(V.nth ((r3.drop 1).drop 1) 0).toInt,(V.nth (((r3.drop 1).drop 1).drop 1) 0).toList,(V.nth ((r3.drop 1).drop 3) 0).toList)
 else
  kr (part,(part:Int) != 0,bK,eR,eS,eT,au)
noncomputable def vR (C:ae) (k':Int) (t6:List V) (t7 t8:Int):(Int × (List UInt8) × Int × Int × (List V) × (List V))→Option ((Int × (List UInt8) × Int × Int × (List V) × (List V)) ⊕ (Int × Bool × (List UInt8) × Int × Int × (List V) × (List V))):=un fun part=>un fun bK=>un fun eR=>un fun eS=>un fun eT au=>Cr C k' t6 t7 t8 part bK eR eS eT au (fun y=>some (.inl y)) (fun r=>some (.inr r))
noncomputable def Cs (C:ae) (t6:List V) (t7 t8:Int) (bK:List UInt8) (eR eS:Int) (eT au:List V) {β:Type} (kn:(Int × (List UInt8) × Int × Int × (List V) × (List V))→Option β) (kr:(Int × Bool × (List UInt8) × Int × Int × (List V) × (List V))→Option β):Option β:=
 bif decide ((t8:Int)<t7) then
  (idx t6 t8).bind fun x1=>
  (Loop (vR C t8 t6 t7 t8) (x1.toInt,bK,eR,eS,eT,au)).bind (un fun (ph:Int)=>un fun (iJ:Bool)=>un fun (pj:List UInt8)=>un fun (vS:Int)=>un fun (NI:Int)=>un fun (NJ:List V) (m7:List V)=>
   kn (IntKind.wrap .i64 (t8+1),pj,vS,NI,NJ,m7))
 else
  kr (t8,decide ((t8:Int)<t7),bK,eR,eS,eT,au)
noncomputable def Ct (C:ae) (t6:List V) (t7:Int):(Int × (List UInt8) × Int × Int × (List V) × (List V))→Option ((Int × (List UInt8) × Int × Int × (List V) × (List V)) ⊕ (Int × Bool × (List UInt8) × Int × Int × (List V) × (List V))):=un fun t8=>un fun bK=>un fun eR=>un fun eS=>un fun eT au=>Cs C t6 t7 t8 bK eR eS eT au (fun y=>some (.inl y)) (fun r=>some (.inr r))
noncomputable def UX (C:ae):b8:=fun β n ds k=>
 bif Nat.beq n 49 then bM Mf [false,true,false,false,false,true,true,true,true,true] [[1,0,3,4,5,0,0,0,0,0,0]] (@Cr C) ds k else
 bif Nat.beq n 17 then bM Mg [false,false,true,true,true,true,true,true] [[1,2,0,0,0,0,0,0,0]] (@Cs C) ds k else
 none
abbrev UY (C:ae) (b:bZ):Prop:=b6 Tryz.prog av C (UX C) 44 (cl Tryz.prog (av.aQ 44)) (av.sin 44).bc.length b
theorem agt (C:ae):UY C (.loop (ax [1,0,0,1,1,0,0,1,0,0] HU)):=
 bP Mf [false,true,false,false,false,true,true,true,true,true] [[1,0,3,4,5,0,0,0,0,0,0]] (@Cr C) (by kernel_rfl) (a9 (bs:=[]) (by kernel_rfl) aw) (fun ds=>by kernel_rfl) (fun i x=>by kernel_rfl) (fun i x β k=>by kernel_rfl) (fun β ds k=>by kernel_rfl)
theorem agu (C:ae):UY C (.loop (ax [1,0,0] HU)):=
 bP Mg [false,false,true,true,true,true,true,true] [[1,2,0,0,0,0,0,0,0]] (@Cs C) (by kernel_rfl) (a9 (bs:=[.loop (ax [1,0,0,1,1,0,0,1,0,0] HU)]) (by kernel_rfl) (br (agt C) aw)) (fun ds=>by kernel_rfl) (fun i x=>by kernel_rfl) (fun i x β k=>by kernel_rfl) (fun β ds k=>by kernel_rfl)
noncomputable def UZ (C:ae) (s:List V) (bK:List UInt8) (eR eS:Int) (eT au:List V):Option (List V):=
 (Loop (Ct C s (s.length:Int)) (0,bK,eR,eS,eT,au)).bind (un fun (rZ:Int)=>un fun (Ce:Bool)=>un fun (Cu:List UInt8)=>un fun (NK:Int)=>un fun (NL:Int)=>un fun (agv:List V) (vT:List V)=>
  some [.str Cu,.int .i64 NK,.int .i64 NL,.list aa agv,.list aD vT])
theorem agw {s:List V} {bK:List UInt8} {eR eS:Int} {eT au:List V} {r:Option (List V)} (h:UZ CC s bK eR eS eT au=r):CC mT [.list aJ s,.str bK,.int .i64 eR,.int .i64 eS,.list aa eT,.list aD au]=r:=
 aZ (key:=44) (L:=UX CC) (bs:=[.loop (ax [1,0,0] HU)]) (by kernel_rfl) (br (agu CC) aw) (aX (by kernel_rfl) h)
noncomputable abbrev HV:Code:=cj Tryz.prog (av.aQ 136)
noncomputable def Cv (C:ae) (k':Int) (t6:List V) (t7 t8 part bK:Int) {β:Type} (kn:(Int × Int)→Option β) (kr:(Int × Bool × Int)→Option β):Option β:=
 bif (part:Int) != 0 then
  (C pc [.int .u64 part]).bind fun r2=>
  (C qg [.int .i64 (IntKind.wrap .i64 ((IntKind.wrap .i64 (k'*2^(min (6:Int).toNat (IntKind.bits .i64))))+((V.nth r2 0).toInt))),.int .i64 bK]).bind fun r3=>
  kn (IntKind.wrap .u64 ((BitVec.ofInt (IntKind.bits .u64) part&&&BitVec.ofInt (IntKind.bits .u64) (IntKind.wrap .u64 (part-1))).toNat),(V.nth r3 0).toInt)
 else
  kr (part,(part:Int) != 0,bK)
noncomputable def vU (C:ae) (k':Int) (t6:List V) (t7 t8:Int):(Int × Int)→Option ((Int × Int) ⊕ (Int × Bool × Int)):=un fun part bK=>Cv C k' t6 t7 t8 part bK (fun y=>some (.inl y)) (fun r=>some (.inr r))
noncomputable def Cw (C:ae) (t6:List V) (t7 t8 bK:Int) {β:Type} (kn:(Int × Int)→Option β) (kr:(Int × Bool × Int)→Option β):Option β:=
 bif decide ((t8:Int)<t7) then
  (idx t6 t8).bind fun x1=>
  (Loop (vU C t8 t6 t7 t8) (x1.toInt,bK)).bind (un fun (ph:Int)=>un fun (iJ:Bool) (pj:Int)=>
   kn (IntKind.wrap .i64 (t8+1),pj))
 else
  kr (t8,decide ((t8:Int)<t7),bK)
noncomputable def Cx (C:ae) (t6:List V) (t7:Int):(Int × Int)→Option ((Int × Int) ⊕ (Int × Bool × Int)):=un fun t8 bK=>Cw C t6 t7 t8 bK (fun y=>some (.inl y)) (fun r=>some (.inr r))
noncomputable def U0 (C:ae):b8:=fun β n ds k=>
 bif Nat.beq n 49 then bM Nc [false,true,false,false,false,true] [[1,0,3,4,5,0,0]] (@Cv C) ds k else
 bif Nat.beq n 17 then bM Nd [false,false,true,true] [[1,2,0,0,0]] (@Cw C) ds k else
 none
abbrev U1 (C:ae) (b:bZ):Prop:=b6 Tryz.prog av C (U0 C) 136 (cl Tryz.prog (av.aQ 136)) (av.sin 136).bc.length b
theorem agx (C:ae):U1 C (.loop (ax [1,0,0,1,1,0,0,1,0,0] HV)):=
 bP Nc [false,true,false,false,false,true] [[1,0,3,4,5,0,0]] (@Cv C) (by kernel_rfl) (a9 (bs:=[]) (by kernel_rfl) aw) (fun ds=>by kernel_rfl) (fun i x=>by kernel_rfl) (fun i x β k=>by kernel_rfl) (fun β ds k=>by kernel_rfl)
theorem agy (C:ae):U1 C (.loop (ax [1,0,0] HV)):=
 bP Nd [false,false,true,true] [[1,2,0,0,0]] (@Cw C) (by kernel_rfl) (a9 (bs:=[.loop (ax [1,0,0,1,1,0,0,1,0,0] HV)]) (by kernel_rfl) (br (agx C) aw)) (fun ds=>by kernel_rfl) (fun i x=>by kernel_rfl) (fun i x β k=>by kernel_rfl) (fun β ds k=>by kernel_rfl)
noncomputable def U2 (C:ae) (s:List V) (bK:Int):Option (List V):=
 (Loop (Cx C s (s.length:Int)) (0,bK)).bind (un fun (od:Int)=>un fun (Cd:Bool) (NJ:Int)=>
  some [.int .i64 NJ])
theorem agz {s:List V} {bK:Int} {r:Option (List V)} (h:U2 CC s bK=r):CC LL [.list aJ s,.int .i64 bK]=r:=
 aZ (key:=136) (L:=U0 CC) (bs:=[.loop (ax [1,0,0] HV)]) (by kernel_rfl) (br (agy CC) aw) (aX (by kernel_rfl) h)
noncomputable abbrev HW:Code:=cj Tryz.prog (av.aQ 138)
noncomputable def Cy (C:ae) (k':Int) (t6:List V) (t7 t8 part:Int) (bK:List UInt8) (eU:Int) (au:List V) {β:Type} (kn:(Int × (List UInt8) × Int × (List V))→Option β) (kr:(Int × Bool × (List UInt8) × Int × (List V))→Option β):Option β:=
 bif (part:Int) != 0 then
  (C pc [.int .u64 part]).bind fun r2=>
  (C qj [.int .i64 (IntKind.wrap .i64 ((IntKind.wrap .i64 (k'*2^(min (6:Int).toNat (IntKind.bits .i64))))+((V.nth r2 0).toInt))),.str bK,.int .i64 eU,.list aD au]).bind fun r3=>
  kn (IntKind.wrap .u64 ((BitVec.ofInt (IntKind.bits .u64) part&&&BitVec.ofInt (IntKind.bits .u64) (IntKind.wrap .u64 (part-1))).toNat),(V.nth r3 0).toStr,(V.nth (r3.drop 1) 0).toInt,(V.nth ((r3.drop 1).drop 1) 0).toList)
 else
  kr (part,(part:Int) != 0,bK,eU,au)
noncomputable def vV (C:ae) (k':Int) (t6:List V) (t7 t8:Int):(Int × (List UInt8) × Int × (List V))→Option ((Int × (List UInt8) × Int × (List V)) ⊕ (Int × Bool × (List UInt8) × Int × (List V))):=un fun part=>un fun bK=>un fun eU au=>Cy C k' t6 t7 t8 part bK eU au (fun y=>some (.inl y)) (fun r=>some (.inr r))
noncomputable def Cz (C:ae) (t6:List V) (t7 t8:Int) (bK:List UInt8) (eU:Int) (au:List V) {β:Type} (kn:(Int × (List UInt8) × Int × (List V))→Option β) (kr:(Int × Bool × (List UInt8) × Int × (List V))→Option β):Option β:=
 bif decide ((t8:Int)<t7) then
  (idx t6 t8).bind fun x1=>
  (Loop (vV C t8 t6 t7 t8) (x1.toInt,bK,eU,au)).bind (un fun (ph:Int)=>un fun (iJ:Bool)=>un fun (pj:List UInt8)=>un fun (vS:Int) (pk:List V)=>
   kn (IntKind.wrap .i64 (t8+1),pj,vS,pk))
 else
  kr (t8,decide ((t8:Int)<t7),bK,eU,au)
noncomputable def CA (C:ae) (t6:List V) (t7:Int):(Int × (List UInt8) × Int × (List V))→Option ((Int × (List UInt8) × Int × (List V)) ⊕ (Int × Bool × (List UInt8) × Int × (List V))):=un fun t8=>un fun bK=>un fun eU au=>Cz C t6 t7 t8 bK eU au (fun y=>some (.inl y)) (fun r=>some (.inr r))
noncomputable def U3 (C:ae):b8:=fun β n ds k=>
 bif Nat.beq n 49 then bM Nf [false,true,false,false,false,true,true,true] [[1,0,3,4,5,0,0,0,0]] (@Cy C) ds k else
 bif Nat.beq n 17 then bM Ng [false,false,true,true,true,true] [[1,2,0,0,0,0,0]] (@Cz C) ds k else
 none
abbrev U4 (C:ae) (b:bZ):Prop:=b6 Tryz.prog av C (U3 C) 138 (cl Tryz.prog (av.aQ 138)) (av.sin 138).bc.length b
theorem agA (C:ae):U4 C (.loop (ax [1,0,0,1,1,0,0,1,0,0] HW)):=
 bP Nf [false,true,false,false,false,true,true,true] [[1,0,3,4,5,0,0,0,0]] (@Cy C) (by kernel_rfl) (a9 (bs:=[]) (by kernel_rfl) aw) (fun ds=>by kernel_rfl) (fun i x=>by kernel_rfl) (fun i x β k=>by kernel_rfl) (fun β ds k=>by kernel_rfl)
theorem agB (C:ae):U4 C (.loop (ax [1,0,0] HW)):=
 bP Ng [false,false,true,true,true,true] [[1,2,0,0,0,0,0]] (@Cz C) (by kernel_rfl) (a9 (bs:=[.loop (ax [1,0,0,1,1,0,0,1,0,0] HW)]) (by kernel_rfl) (br (agA C) aw)) (fun ds=>by kernel_rfl) (fun i x=>by kernel_rfl) (fun i x β k=>by kernel_rfl) (fun β ds k=>by kernel_rfl)
noncomputable def U5 (C:ae) (s:List V) (bK:List UInt8) (eU:Int) (au:List V):Option (List V):=
 (Loop (CA C s (s.length:Int)) (0,bK,eU,au)).bind (un fun (oe:Int)=>un fun (tz:Bool)=>un fun (NM:List UInt8)=>un fun (NN:Int) (vW:List V)=>
  some [.str NM,.int .i64 NN,.list aD vW])
theorem agC {s:List V} {bK:List UInt8} {eU:Int} {au:List V} {r:Option (List V)} (h:U5 CC s bK eU au=r):CC LM [.list aJ s,.str bK,.int .i64 eU,.list aD au]=r:=
 aZ (key:=138) (L:=U3 CC) (bs:=[.loop (ax [1,0,0] HW)]) (by kernel_rfl) (br (agB CC) aw) (aX (by kernel_rfl) h)
noncomputable abbrev HX:Code:=cj Tryz.prog (av.aQ 139)
noncomputable def CB (C:ae) (k':Int) (t6:List V) (t7 t8 part eR eS:Int) (eT au aS:List V) {β:Type} (kn:(Int × Int × Int × (List V) × (List V) × (List V))→Option β) (kr:(Int × Bool × Int × Int × (List V) × (List V) × (List V))→Option β):Option β:=
 bif (part:Int) != 0 then
  (C pc [.int .u64 part]).bind fun r2=>
  (C qi [.int .i64 (IntKind.wrap .i64 ((IntKind.wrap .i64 (k'*2^(min (6:Int).toNat (IntKind.bits .i64))))+((V.nth r2 0).toInt))),.int .i64 eR,.int .i64 eS,.list aa eT,.list aD au,.list aD aS]).bind fun r3=>
  kn (IntKind.wrap .u64 ((BitVec.ofInt (IntKind.bits .u64) part&&&BitVec.ofInt (IntKind.bits .u64) (IntKind.wrap .u64 (part-1))).toNat),(V.nth r3 0).toInt,(V.nth (r3.drop 1) 0).toInt,(V.nth ((r3.drop 1).drop 1) 0).toList,(V.nth (r3.drop 3) 0).toList,(V.nth ((r3.drop 3).drop 1) 0).toList)
 else
  kr (part,(part:Int) != 0,eR,eS,eT,au,aS)
noncomputable def vX (C:ae) (k':Int) (t6:List V) (t7 t8:Int):(Int × Int × Int × (List V) × (List V) × (List V))→Option ((Int × Int × Int × (List V) × (List V) × (List V)) ⊕ (Int × Bool × Int × Int × (List V) × (List V) × (List V))):=un fun part=>un fun eR=>un fun eS=>un fun eT=>un fun au aS=>CB C k' t6 t7 t8 part eR eS eT au aS (fun y=>some (.inl y)) (fun r=>some (.inr r))
noncomputable def CD (C:ae) (t6:List V) (t7 t8 eR eS:Int) (eT au aS:List V) {β:Type} (kn:(Int × Int × Int × (List V) × (List V) × (List V))→Option β) (kr:(Int × Bool × Int × Int × (List V) × (List V) × (List V))→Option β):Option β:=
 bif decide ((t8:Int)<t7) then
  (idx t6 t8).bind fun x1=>
  (Loop (vX C t8 t6 t7 t8) (x1.toInt,eR,eS,eT,au,aS)).bind (un fun (ph:Int)=>un fun (iJ:Bool)=>un fun (pj:Int)=>un fun (vS:Int)=>un fun (NI:List V)=>un fun (pn:List V) (m7:List V)=>
   kn (IntKind.wrap .i64 (t8+1),pj,vS,NI,pn,m7))
 else
  kr (t8,decide ((t8:Int)<t7),eR,eS,eT,au,aS)
noncomputable def CE (C:ae) (t6:List V) (t7:Int):(Int × Int × Int × (List V) × (List V) × (List V))→Option ((Int × Int × Int × (List V) × (List V) × (List V)) ⊕ (Int × Bool × Int × Int × (List V) × (List V) × (List V))):=un fun t8=>un fun eR=>un fun eS=>un fun eT=>un fun au aS=>CD C t6 t7 t8 eR eS eT au aS (fun y=>some (.inl y)) (fun r=>some (.inr r))
noncomputable def U6 (C:ae):b8:=fun β n ds k=>
 bif Nat.beq n 49 then bM Nh [false,true,false,false,false,true,true,true,true,true] [[1,0,3,4,5,0,0,0,0,0,0]] (@CB C) ds k else
 bif Nat.beq n 17 then bM Ni [false,false,true,true,true,true,true,true] [[1,2,0,0,0,0,0,0,0]] (@CD C) ds k else
 none
abbrev U7 (C:ae) (b:bZ):Prop:=b6 Tryz.prog av C (U6 C) 139 (cl Tryz.prog (av.aQ 139)) (av.sin 139).bc.length b
theorem agD (C:ae):U7 C (.loop (ax [1,0,0,1,1,0,0,1,0,0] HX)):=
 bP Nh [false,true,false,false,false,true,true,true,true,true] [[1,0,3,4,5,0,0,0,0,0,0]] (@CB C) (by kernel_rfl) (a9 (bs:=[]) (by kernel_rfl) aw) (fun ds=>by kernel_rfl) (fun i x=>by kernel_rfl) (fun i x β k=>by kernel_rfl) (fun β ds k=>by kernel_rfl)
theorem agE (C:ae):U7 C (.loop (ax [1,0,0] HX)):=
 bP Ni [false,false,true,true,true,true,true,true] [[1,2,0,0,0,0,0,0,0]] (@CD C) (by kernel_rfl) (a9 (bs:=[.loop (ax [1,0,0,1,1,0,0,1,0,0] HX)]) (by kernel_rfl) (br (agD C) aw)) (fun ds=>by kernel_rfl) (fun i x=>by kernel_rfl) (fun i x β k=>by kernel_rfl) (fun β ds k=>by kernel_rfl)
noncomputable def U8 (C:ae) (s:List V) (eR eS:Int) (eT au aS:List V):Option (List V):=
 (Loop (CE C s (s.length:Int)) (0,eR,eS,eT,au,aS)).bind (un fun (rZ:Int)=>un fun (Ce:Bool)=>un fun (Cu:Int)=>un fun (NK:Int)=>un fun (NL:List V)=>un fun (CF:List V) (vT:List V)=>
  some [.int .i64 Cu,.int .i64 NK,.list aa NL,.list aD CF,.list aD vT])
theorem agF {s:List V} {eR eS:Int} {eT au aS:List V} {r:Option (List V)} (h:U8 CC s eR eS eT au aS=r):CC LN [.list aJ s,.int .i64 eR,.int .i64 eS,.list aa eT,.list aD au,.list aD aS]=r:=
 aZ (key:=139) (L:=U6 CC) (bs:=[.loop (ax [1,0,0] HX)]) (by kernel_rfl) (br (agE CC) aw) (aX (by kernel_rfl) h)
noncomputable abbrev HY:Code:=cj Tryz.prog (av.aQ 140)
noncomputable def CG (C:ae) (k':Int) (t6:List V) (t7 t8 part:Int) (au aS:List V) {β:Type} (kn:(Int × (List V) × (List V))→Option β) (kr:(Int × Bool × (List V) × (List V))→Option β):Option β:=
 bif (part:Int) != 0 then
  (C pc [.int .u64 part]).bind fun r2=>
  (C qh [.int .i64 (IntKind.wrap .i64 ((IntKind.wrap .i64 (k'*2^(min (6:Int).toNat (IntKind.bits .i64))))+((V.nth r2 0).toInt))),.list aJ aS,.list aD au]).bind fun r3=>
  kn (IntKind.wrap .u64 ((BitVec.ofInt (IntKind.bits .u64) part&&&BitVec.ofInt (IntKind.bits .u64) (IntKind.wrap .u64 (part-1))).toNat),(V.nth r3 0).toList,(V.nth (r3.drop 1) 0).toList)
 else
  kr (part,(part:Int) != 0,au,aS)
noncomputable def vY (C:ae) (k':Int) (t6:List V) (t7 t8:Int):(Int × (List V) × (List V))→Option ((Int × (List V) × (List V)) ⊕ (Int × Bool × (List V) × (List V))):=un fun part=>un fun au aS=>CG C k' t6 t7 t8 part au aS (fun y=>some (.inl y)) (fun r=>some (.inr r))
noncomputable def CH (C:ae) (t6:List V) (t7 t8:Int) (au aS:List V) {β:Type} (kn:(Int × (List V) × (List V))→Option β) (kr:(Int × Bool × (List V) × (List V))→Option β):Option β:=
 bif decide ((t8:Int)<t7) then
  (idx t6 t8).bind fun x1=>
  (Loop (vY C t8 t6 t7 t8) (x1.toInt,au,aS)).bind (un fun (ph:Int)=>un fun (iJ:Bool)=>un fun (NO:List V) (CI:List V)=>
   kn (IntKind.wrap .i64 (t8+1),NO,CI))
 else
  kr (t8,decide ((t8:Int)<t7),au,aS)
noncomputable def CJ (C:ae) (t6:List V) (t7:Int):(Int × (List V) × (List V))→Option ((Int × (List V) × (List V)) ⊕ (Int × Bool × (List V) × (List V))):=un fun t8=>un fun au aS=>CH C t6 t7 t8 au aS (fun y=>some (.inl y)) (fun r=>some (.inr r))
noncomputable def U9 (C:ae):b8:=fun β n ds k=>
 bif Nat.beq n 49 then bM Nj [false,true,false,false,false,true,true] [[1,0,3,4,5,0,0,0]] (@CG C) ds k else
 bif Nat.beq n 17 then bM Nk [false,false,true,true,true] [[1,2,0,0,0,0]] (@CH C) ds k else
 none
abbrev Va (C:ae) (b:bZ):Prop:=b6 Tryz.prog av C (U9 C) 140 (cl Tryz.prog (av.aQ 140)) (av.sin 140).bc.length b
theorem agG (C:ae):Va C (.loop (ax [1,0,0,1,1,0,0,1,0,0] HY)):=
 bP Nj [false,true,false,false,false,true,true] [[1,0,3,4,5,0,0,0]] (@CG C) (by kernel_rfl) (a9 (bs:=[]) (by kernel_rfl) aw) (fun ds=>by kernel_rfl) (fun i x=>by kernel_rfl) (fun i x β k=>by kernel_rfl) (fun β ds k=>by kernel_rfl)
theorem agH (C:ae):Va C (.loop (ax [1,0,0] HY)):=
 bP Nk [false,false,true,true,true] [[1,2,0,0,0,0]] (@CH C) (by kernel_rfl) (a9 (bs:=[.loop (ax [1,0,0,1,1,0,0,1,0,0] HY)]) (by kernel_rfl) (br (agG C) aw)) (fun ds=>by kernel_rfl) (fun i x=>by kernel_rfl) (fun i x β k=>by kernel_rfl) (fun β ds k=>by kernel_rfl)
noncomputable def Vb (C:ae) (s ch au:List V):Option (List V):=
 (Loop (CJ C s (s.length:Int)) (0,au,ch)).bind (un fun (Cd:Int)=>un fun (oe:Bool)=>un fun (m7:List V) (m8:List V)=>
  some [.list aD m7,.list aJ m8])
theorem agI {s ch au:List V} {r:Option (List V)} (h:Vb CC s ch au=r):CC LO [.list aJ s,.list aJ ch,.list aD au]=r:=
 aZ (key:=140) (L:=U9 CC) (bs:=[.loop (ax [1,0,0] HY)]) (by kernel_rfl) (br (agH CC) aw) (aX (by kernel_rfl) h)
noncomputable abbrev HZ:Code:=cj Tryz.prog (av.aQ 141)
noncomputable def CK (C:ae) (k':Int) (t6:List V) (t7 t8 part:Int) (au aS:List V) {β:Type} (kn:(Int × (List V) × (List V))→Option β) (kr:(Int × Bool × (List V) × (List V))→Option β):Option β:=
 bif (part:Int) != 0 then
  (C pc [.int .u64 part]).bind fun r2=>
  (C qd [.int .i64 (IntKind.wrap .i64 ((IntKind.wrap .i64 (k'*2^(min (6:Int).toNat (IntKind.bits .i64))))+((V.nth r2 0).toInt))),.list aJ aS,.list aD au]).bind fun r3=>
  kn (IntKind.wrap .u64 ((BitVec.ofInt (IntKind.bits .u64) part&&&BitVec.ofInt (IntKind.bits .u64) (IntKind.wrap .u64 (part-1))).toNat),(V.nth r3 0).toList,(V.nth (r3.drop 1) 0).toList)
 else
  kr (part,(part:Int) != 0,au,aS)
noncomputable def vZ (C:ae) (k':Int) (t6:List V) (t7 t8:Int):(Int × (List V) × (List V))→Option ((Int × (List V) × (List V)) ⊕ (Int × Bool × (List V) × (List V))):=un fun part=>un fun au aS=>CK C k' t6 t7 t8 part au aS (fun y=>some (.inl y)) (fun r=>some (.inr r))
noncomputable def CL (C:ae) (t6:List V) (t7 t8:Int) (au aS:List V) {β:Type} (kn:(Int × (List V) × (List V))→Option β) (kr:(Int × Bool × (List V) × (List V))→Option β):Option β:=
 bif decide ((t8:Int)<t7) then
  (idx t6 t8).bind fun x1=>
  (Loop (vZ C t8 t6 t7 t8) (x1.toInt,au,aS)).bind (un fun (ph:Int)=>un fun (iJ:Bool)=>un fun (NO:List V) (CI:List V)=>
   kn (IntKind.wrap .i64 (t8+1),NO,CI))
 else
  kr (t8,decide ((t8:Int)<t7),au,aS)
noncomputable def CM (C:ae) (t6:List V) (t7:Int):(Int × (List V) × (List V))→Option ((Int × (List V) × (List V)) ⊕ (Int × Bool × (List V) × (List V))):=un fun t8=>un fun au aS=>CL C t6 t7 t8 au aS (fun y=>some (.inl y)) (fun r=>some (.inr r))
noncomputable def Vc (C:ae):b8:=fun β n ds k=>
 bif Nat.beq n 49 then bM Nl [false,true,false,false,false,true,true] [[1,0,3,4,5,0,0,0]] (@CK C) ds k else
 bif Nat.beq n 17 then bM Nn [false,false,true,true,true] [[1,2,0,0,0,0]] (@CL C) ds k else
 none
abbrev Vd (C:ae) (b:bZ):Prop:=b6 Tryz.prog av C (Vc C) 141 (cl Tryz.prog (av.aQ 141)) (av.sin 141).bc.length b
theorem agJ (C:ae):Vd C (.loop (ax [1,0,0,1,1,0,0,1,0,0] HZ)):=
 bP Nl [false,true,false,false,false,true,true] [[1,0,3,4,5,0,0,0]] (@CK C) (by kernel_rfl) (a9 (bs:=[]) (by kernel_rfl) aw) (fun ds=>by kernel_rfl) (fun i x=>by kernel_rfl) (fun i x β k=>by kernel_rfl) (fun β ds k=>by kernel_rfl)
theorem agK (C:ae):Vd C (.loop (ax [1,0,0] HZ)):=
 bP Nn [false,false,true,true,true] [[1,2,0,0,0,0]] (@CL C) (by kernel_rfl) (a9 (bs:=[.loop (ax [1,0,0,1,1,0,0,1,0,0] HZ)]) (by kernel_rfl) (br (agJ C) aw)) (fun ds=>by kernel_rfl) (fun i x=>by kernel_rfl) (fun i x β k=>by kernel_rfl) (fun β ds k=>by kernel_rfl)
noncomputable def Ve (C:ae) (s ch au:List V):Option (List V):=
 (Loop (CM C s (s.length:Int)) (0,au,ch)).bind (un fun (Cd:Int)=>un fun (oe:Bool)=>un fun (m7:List V) (m8:List V)=>
  some [.list aD m7,.list aJ m8])
theorem agL {s ch au:List V} {r:Option (List V)} (h:Ve CC s ch au=r):CC LP [.list aJ s,.list aJ ch,.list aD au]=r:=
 aZ (key:=141) (L:=Vc CC) (bs:=[.loop (ax [1,0,0] HZ)]) (by kernel_rfl) (br (agK CC) aw) (aX (by kernel_rfl) h)
noncomputable abbrev H0:Code:=cj Tryz.prog (av.aQ 142)
noncomputable def CN (C:ae) (k':Int) (t6:List V) (t7 t8 part:Int) (bK:List UInt8) (eU:Bool) (aS cy:List V) {β:Type} (kn:(Int × (List UInt8) × Bool × (List V) × (List V))→Option β) (kr:(Int × Bool × (List UInt8) × Bool × (List V) × (List V))→Option β):Option β:=
 bif (part:Int) != 0 then
  (C pc [.int .u64 part]).bind fun r2=>
  (C qe [.int .i64 (IntKind.wrap .i64 ((IntKind.wrap .i64 (k'*2^(min (6:Int).toNat (IntKind.bits .i64))))+((V.nth r2 0).toInt))),.str bK,.bool eU,.list aD aS,.list aD cy]).bind fun r3=>
  kn (IntKind.wrap .u64 ((BitVec.ofInt (IntKind.bits .u64) part&&&BitVec.ofInt (IntKind.bits .u64) (IntKind.wrap .u64 (part-1))).toNat),(V.nth r3 0).toStr,(V.nth (r3.drop 1) 0).toBool,(V.nth ((r3.drop 1).drop 1) 0).toList,(V.nth (((r3.drop 1).drop 1).drop 1) 0).toList)
 else
  kr (part,(part:Int) != 0,bK,eU,aS,cy)
noncomputable def v5 (C:ae) (k':Int) (t6:List V) (t7 t8:Int):(Int × (List UInt8) × Bool × (List V) × (List V))→Option ((Int × (List UInt8) × Bool × (List V) × (List V)) ⊕ (Int × Bool × (List UInt8) × Bool × (List V) × (List V))):=un fun part=>un fun bK=>un fun eU=>un fun aS cy=>CN C k' t6 t7 t8 part bK eU aS cy (fun y=>some (.inl y)) (fun r=>some (.inr r))
noncomputable def CO (C:ae) (t6:List V) (t7 t8:Int) (bK:List UInt8) (eU:Bool) (aS cy:List V) {β:Type} (kn:(Int × (List UInt8) × Bool × (List V) × (List V))→Option β) (kr:(Int × Bool × (List UInt8) × Bool × (List V) × (List V))→Option β):Option β:=
 bif decide ((t8:Int)<t7) then
  (idx t6 t8).bind fun x1=>
  (Loop (v5 C t8 t6 t7 t8) (x1.toInt,bK,eU,aS,cy)).bind (un fun (ph:Int)=>un fun (iJ:Bool)=>un fun (pj:List UInt8)=>un fun (vS:Bool)=>un fun (pk:List V) (pn:List V)=>
   kn (IntKind.wrap .i64 (t8+1),pj,vS,pk,pn))
 else
  kr (t8,decide ((t8:Int)<t7),bK,eU,aS,cy)
noncomputable def CP (C:ae) (t6:List V) (t7:Int):(Int × (List UInt8) × Bool × (List V) × (List V))→Option ((Int × (List UInt8) × Bool × (List V) × (List V)) ⊕ (Int × Bool × (List UInt8) × Bool × (List V) × (List V))):=un fun t8=>un fun bK=>un fun eU=>un fun aS cy=>CO C t6 t7 t8 bK eU aS cy (fun y=>some (.inl y)) (fun r=>some (.inr r))
noncomputable def Vf (C:ae):b8:=fun β n ds k=>
 bif Nat.beq n 49 then bM No [false,true,false,false,false,true,true,true,true] [[1,0,3,4,5,0,0,0,0,0]] (@CN C) ds k else
 bif Nat.beq n 17 then bM Np [false,false,true,true,true,true,true] [[1,2,0,0,0,0,0,0]] (@CO C) ds k else
 none
abbrev Vg (C:ae) (b:bZ):Prop:=b6 Tryz.prog av C (Vf C) 142 (cl Tryz.prog (av.aQ 142)) (av.sin 142).bc.length b
theorem agM (C:ae):Vg C (.loop (ax [1,0,0,1,1,0,0,1,0,0] H0)):=
 bP No [false,true,false,false,false,true,true,true,true] [[1,0,3,4,5,0,0,0,0,0]] (@CN C) (by kernel_rfl) (a9 (bs:=[]) (by kernel_rfl) aw) (fun ds=>by kernel_rfl) (fun i x=>by kernel_rfl) (fun i x β k=>by kernel_rfl) (fun β ds k=>by kernel_rfl)
theorem agN (C:ae):Vg C (.loop (ax [1,0,0] H0)):=
 bP Np [false,false,true,true,true,true,true] [[1,2,0,0,0,0,0,0]] (@CO C) (by kernel_rfl) (a9 (bs:=[.loop (ax [1,0,0,1,1,0,0,1,0,0] H0)]) (by kernel_rfl) (br (agM C) aw)) (fun ds=>by kernel_rfl) (fun i x=>by kernel_rfl) (fun i x β k=>by kernel_rfl) (fun β ds k=>by kernel_rfl)
noncomputable def Vh (C:ae) (s:List V) (bK:List UInt8) (eU:Bool) (aS cy:List V):Option (List V):=
 (Loop (CP C s (s.length:Int)) (0,bK,eU,aS,cy)).bind (un fun (tz:Int)=>un fun (rZ:Bool)=>un fun (NN:List UInt8)=>un fun (Cu:Bool)=>un fun (CQ:List V) (CR:List V)=>
  some [.str NN,.bool Cu,.list aD CQ,.list aD CR])
theorem agO {s:List V} {bK:List UInt8} {eU:Bool} {aS cy:List V} {r:Option (List V)} (h:Vh CC s bK eU aS cy=r):CC Hq [.list aJ s,.str bK,.bool eU,.list aD aS,.list aD cy]=r:=
 aZ (key:=142) (L:=Vf CC) (bs:=[.loop (ax [1,0,0] H0)]) (by kernel_rfl) (br (agN CC) aw) (aX (by kernel_rfl) h)
noncomputable abbrev H2:Code:=cj Tryz.prog (av.aQ 143)
noncomputable def CS (C:ae) (k':Int) (t6:List V) (t7 t8 part:Int) (bK:Bool) (aS cy:List V) {β:Type} (kn:(Int × Bool × (List V) × (List V))→Option β) (kr:(Int × Bool × Bool × (List V) × (List V))→Option β):Option β:=
 bif (part:Int) != 0 then
  (C pc [.int .u64 part]).bind fun r2=>
  (C qf [.int .i64 (IntKind.wrap .i64 ((IntKind.wrap .i64 (k'*2^(min (6:Int).toNat (IntKind.bits .i64))))+((V.nth r2 0).toInt))),.bool bK,.list aJ cy,.list aD aS]).bind fun r3=>
  kn (IntKind.wrap .u64 ((BitVec.ofInt (IntKind.bits .u64) part&&&BitVec.ofInt (IntKind.bits .u64) (IntKind.wrap .u64 (part-1))).toNat),(V.nth r3 0).toBool,(V.nth (r3.drop 1) 0).toList,(V.nth ((r3.drop 1).drop 1) 0).toList)
 else
  kr (part,(part:Int) != 0,bK,aS,cy)
noncomputable def v7 (C:ae) (k':Int) (t6:List V) (t7 t8:Int):(Int × Bool × (List V) × (List V))→Option ((Int × Bool × (List V) × (List V)) ⊕ (Int × Bool × Bool × (List V) × (List V))):=un fun part=>un fun bK=>un fun aS cy=>CS C k' t6 t7 t8 part bK aS cy (fun y=>some (.inl y)) (fun r=>some (.inr r))
noncomputable def CT (C:ae) (t6:List V) (t7 t8:Int) (bK:Bool) (aS cy:List V) {β:Type} (kn:(Int × Bool × (List V) × (List V))→Option β) (kr:(Int × Bool × Bool × (List V) × (List V))→Option β):Option β:=
 bif decide ((t8:Int)<t7) then
  (idx t6 t8).bind fun x1=>
  (Loop (v7 C t8 t6 t7 t8) (x1.toInt,bK,aS,cy)).bind (un fun (ph:Int)=>un fun (iJ:Bool)=>un fun (pj:Bool)=>un fun (CI:List V) (pk:List V)=>
   kn (IntKind.wrap .i64 (t8+1),pj,CI,pk))
 else
  kr (t8,decide ((t8:Int)<t7),bK,aS,cy)
noncomputable def CU (C:ae) (t6:List V) (t7:Int):(Int × Bool × (List V) × (List V))→Option ((Int × Bool × (List V) × (List V)) ⊕ (Int × Bool × Bool × (List V) × (List V))):=un fun t8=>un fun bK=>un fun aS cy=>CT C t6 t7 t8 bK aS cy (fun y=>some (.inl y)) (fun r=>some (.inr r))
noncomputable def Vi (C:ae):b8:=fun β n ds k=>
 bif Nat.beq n 49 then bM Nq [false,true,false,false,false,true,true,true] [[1,0,3,4,5,0,0,0,0]] (@CS C) ds k else
 bif Nat.beq n 17 then bM Nr [false,false,true,true,true,true] [[1,2,0,0,0,0,0]] (@CT C) ds k else
 none
abbrev Vj (C:ae) (b:bZ):Prop:=b6 Tryz.prog av C (Vi C) 143 (cl Tryz.prog (av.aQ 143)) (av.sin 143).bc.length b
theorem agP (C:ae):Vj C (.loop (ax [1,0,0,1,1,0,0,1,0,0] H2)):=
 bP Nq [false,true,false,false,false,true,true,true] [[1,0,3,4,5,0,0,0,0]] (@CS C) (by kernel_rfl) (a9 (bs:=[]) (by kernel_rfl) aw) (fun ds=>by kernel_rfl) (fun i x=>by kernel_rfl) (fun i x β k=>by kernel_rfl) (fun β ds k=>by kernel_rfl)
theorem agQ (C:ae):Vj C (.loop (ax [1,0,0] H2)):=
 bP Nr [false,false,true,true,true,true] [[1,2,0,0,0,0,0]] (@CT C) (by kernel_rfl) (a9 (bs:=[.loop (ax [1,0,0,1,1,0,0,1,0,0] H2)]) (by kernel_rfl) (br (agP C) aw)) (fun ds=>by kernel_rfl) (fun i x=>by kernel_rfl) (fun i x β k=>by kernel_rfl) (fun β ds k=>by kernel_rfl)
noncomputable def Vk (C:ae) (s:List V) (bK:Bool) (au aS:List V):Option (List V):=
 (Loop (CU C s (s.length:Int)) (0,bK,aS,au)).bind (un fun (oe:Int)=>un fun (tz:Bool)=>un fun (NM:Bool)=>un fun (v8:List V) (vW:List V)=>
  some [.bool NM,.list aD v8,.list aJ vW])
theorem agR {s:List V} {bK:Bool} {au aS:List V} {r:Option (List V)} (h:Vk CC s bK au aS=r):CC LQ [.list aJ s,.bool bK,.list aJ au,.list aD aS]=r:=
 aZ (key:=143) (L:=Vi CC) (bs:=[.loop (ax [1,0,0] H2)]) (by kernel_rfl) (br (agQ CC) aw) (aX (by kernel_rfl) h)
abbrev agS:Nat:=mT
theorem agT {m F:Nat} (hm:m≤100) {P:Nat→((List UInt8) × Int × Int × (List V) × (List V))→Prop}
  (hv: ∀(i:Nat) (a:(List UInt8) × Int × Int × (List V) × (List V)),i<64*m→F.testBit i=true→P i a→∃a':(List UInt8) × Int × Int × (List V) × (List V),CC qc [.int .i64 (i:Int),.str a.1,.int .i64 a.2.1,.int .i64 a.2.2.1,.list aa a.2.2.2.1,.list aD a.2.2.2.2]=some [.str a'.1,.int .i64 a'.2.1,.int .i64 a'.2.2.1,.list aa a'.2.2.2.1,.list aD a'.2.2.2.2]∧P (i+1) a')
  (U: ∀i a,F.testBit i=false→P i a→P (i+1) a) (a:(List UInt8) × Int × Int × (List V) × (List V)) (hP:P 0 a):
  ∃a':(List UInt8) × Int × Int × (List V) × (List V),CC agS [.list aJ (bh m F),.str a.1,.int .i64 a.2.1,.int .i64 a.2.2.1,.list aa a.2.2.2.1,.list aD a.2.2.2.2]=some [.str a'.1,.int .i64 a'.2.1,.int .i64 a'.2.2.1,.list aa a'.2.2.2.1,.list aD a'.2.2.2.2]∧P (64*m) a':=by
 suffices h: ∃a',Loop (Ct CC (bh m F) (m:Int)) (0,a)=some ((m:Int),false,a')∧P (64*m) a' by
  obtain ⟨a',hl,jo⟩:=h
  refine ⟨a',agw ?_,jo⟩
  unfold UZ
  rw[mi]
  exact (congrArg (fun o=>Option.bind o _) hl).trans rfl
 refine tG (S:=F) (m:=m) hm (outer:=Ct CC (bh m F) (m:Int)) (inner:=fun k=>vR CC (k:Int) (bh m F) (m:Int) (k:Int)) (P:=P) ?_ ?_ ?_ U ?_ a hP
 ·intro k a a' hk hl
  rcases a with ⟨x0,x1,x2,x3,x4⟩
  rcases a' with ⟨y0,y1,y2,y3,y4⟩
  replace hl:Loop (vR CC (k:Int) (bh m F) (m:Int) (k:Int)) _=_:=hl
  simp only[Ct,Cs,un]
  rw[az,ah (by omega),nU,lB hk]
  simp only[Option.bind_some,V.toInt_int]
  rw[hl]
  simp only[Option.bind_some]
  rw[wrap64 (by omega) (by omega)]
  rfl
 ·intro a
  rcases a with ⟨x0,x1,x2,x3,x4⟩
  simp only[Ct,Cs,un]
  rw[az,ai (by omega),ct (by omega)]
 ·intro k j q a hk hj hq hb hp
  obtain ⟨a',hc,hp'⟩:=hv (64*k+j) a (by omega) hb hp
  refine ⟨a',?_,hp'⟩
  show vR CC (k:Int) (bh m F) (m:Int) (k:Int) _=_
  rcases a with ⟨x0,x1,x2,x3,x4⟩
  rcases a' with ⟨y0,y1,y2,y3,y4⟩
  simp only[vR,Cr,un]
  rw[jm,ai tF,tB hq]
  simp only[Option.bind_some,V.aC,V.toInt_int]
  rw[tE (by omega) hj]
  refine (congrArg (fun o=>Option.bind o _) hc).trans ?_
  simp only[Option.bind_some,ek,dL,V.aC,V.toInt_int,V.me,V.cN,V.bR]
  rw[tD hq]
 ·intro k a
  rcases a with ⟨x0,x1,x2,x3,x4⟩
  show vR CC (k:Int) (bh m F) (m:Int) (k:Int) _=_
  simp only[vR,Cr,un]
  rw[jm,ah rfl]
  rfl
abbrev Vl:Nat:=LL
theorem agU {m F:Nat} (hm:m≤100) {P:Nat→(Int)→Prop}
  (hv: ∀(i:Nat) (a:Int),i<64*m→F.testBit i=true→P i a→∃a':Int,CC qg [.int .i64 (i:Int),.int .i64 a]=some [.int .i64 a']∧P (i+1) a')
  (U: ∀i a,F.testBit i=false→P i a→P (i+1) a) (a:Int) (hP:P 0 a):
  ∃a':Int,CC Vl [.list aJ (bh m F),.int .i64 a]=some [.int .i64 a']∧P (64*m) a':=by
 suffices h: ∃a',Loop (Cx CC (bh m F) (m:Int)) (0,a)=some ((m:Int),false,a')∧P (64*m) a' by
  obtain ⟨a',hl,jo⟩:=h
  refine ⟨a',agz ?_,jo⟩
  unfold U2
  rw[mi]
  exact (congrArg (fun o=>Option.bind o _) hl).trans rfl
 refine tG (S:=F) (m:=m) hm (outer:=Cx CC (bh m F) (m:Int)) (inner:=fun k=>vU CC (k:Int) (bh m F) (m:Int) (k:Int)) (P:=P) ?_ ?_ ?_ U ?_ a hP
 ·intro k a a' hk hl
  replace hl:Loop (vU CC (k:Int) (bh m F) (m:Int) (k:Int)) _=_:=hl
  simp only[Cx,Cw,un]
  rw[az,ah (by omega),nU,lB hk]
  simp only[Option.bind_some,V.toInt_int]
  rw[hl]
  simp only[Option.bind_some]
  rw[wrap64 (by omega) (by omega)]
  rfl
 ·intro a
  simp only[Cx,Cw,un]
  rw[az,ai (by omega),ct (by omega)]
 ·intro k j q a hk hj hq hb hp
  obtain ⟨a',hc,hp'⟩:=hv (64*k+j) a (by omega) hb hp
  refine ⟨a',?_,hp'⟩
  show vU CC (k:Int) (bh m F) (m:Int) (k:Int) _=_
  simp only[vU,Cv,un]
  rw[jm,ai tF,tB hq]
  simp only[Option.bind_some,V.aC,V.toInt_int]
  rw[tE (by omega) hj]
  refine (congrArg (fun o=>Option.bind o _) hc).trans ?_
  simp only[Option.bind_some,ek,dL,V.aC,V.toInt_int,V.me,V.cN,V.bR]
  rw[tD hq]
 ·intro k a
  show vU CC (k:Int) (bh m F) (m:Int) (k:Int) _=_
  simp only[vU,Cv,un]
  rw[jm,ah rfl]
  rfl
abbrev agV:Nat:=LM
theorem agW {m F:Nat} (hm:m≤100) {P:Nat→((List UInt8) × Int × (List V))→Prop}
  (hv: ∀(i:Nat) (a:(List UInt8) × Int × (List V)),i<64*m→F.testBit i=true→P i a→∃a':(List UInt8) × Int × (List V),CC qj [.int .i64 (i:Int),.str a.1,.int .i64 a.2.1,.list aD a.2.2]=some [.str a'.1,.int .i64 a'.2.1,.list aD a'.2.2]∧P (i+1) a')
  (U: ∀i a,F.testBit i=false→P i a→P (i+1) a) (a:(List UInt8) × Int × (List V)) (hP:P 0 a):
  ∃a':(List UInt8) × Int × (List V),CC agV [.list aJ (bh m F),.str a.1,.int .i64 a.2.1,.list aD a.2.2]=some [.str a'.1,.int .i64 a'.2.1,.list aD a'.2.2]∧P (64*m) a':=by
 suffices h: ∃a',Loop (CA CC (bh m F) (m:Int)) (0,a)=some ((m:Int),false,a')∧P (64*m) a' by
  obtain ⟨a',hl,jo⟩:=h
  refine ⟨a',agC ?_,jo⟩
  unfold U5
  rw[mi]
  exact (congrArg (fun o=>Option.bind o _) hl).trans rfl
 refine tG (S:=F) (m:=m) hm (outer:=CA CC (bh m F) (m:Int)) (inner:=fun k=>vV CC (k:Int) (bh m F) (m:Int) (k:Int)) (P:=P) ?_ ?_ ?_ U ?_ a hP
 ·intro k a a' hk hl
  rcases a with ⟨x0,x1,x2⟩
  rcases a' with ⟨y0,y1,y2⟩
  replace hl:Loop (vV CC (k:Int) (bh m F) (m:Int) (k:Int)) _=_:=hl
  simp only[CA,Cz,un]
  rw[az,ah (by omega),nU,lB hk]
  simp only[Option.bind_some,V.toInt_int]
  rw[hl]
  simp only[Option.bind_some]
  rw[wrap64 (by omega) (by omega)]
  rfl
 ·intro a
  rcases a with ⟨x0,x1,x2⟩
  simp only[CA,Cz,un]
  rw[az,ai (by omega),ct (by omega)]
 ·intro k j q a hk hj hq hb hp
  obtain ⟨a',hc,hp'⟩:=hv (64*k+j) a (by omega) hb hp
  refine ⟨a',?_,hp'⟩
  show vV CC (k:Int) (bh m F) (m:Int) (k:Int) _=_
  rcases a with ⟨x0,x1,x2⟩
  rcases a' with ⟨y0,y1,y2⟩
  simp only[vV,Cy,un]
  rw[jm,ai tF,tB hq]
  simp only[Option.bind_some,V.aC,V.toInt_int]
  rw[tE (by omega) hj]
  refine (congrArg (fun o=>Option.bind o _) hc).trans ?_
  simp only[Option.bind_some,ek,dL,V.aC,V.toInt_int,V.me,V.cN,V.bR]
  rw[tD hq]
 ·intro k a
  rcases a with ⟨x0,x1,x2⟩
  show vV CC (k:Int) (bh m F) (m:Int) (k:Int) _=_
  simp only[vV,Cy,un]
  rw[jm,ah rfl]
  rfl
abbrev Vm:Nat:=LN
theorem agX {m F:Nat} (hm:m≤100) {P:Nat→(Int × Int × (List V) × (List V) × (List V))→Prop}
  (hv: ∀(i:Nat) (a:Int × Int × (List V) × (List V) × (List V)),i<64*m→F.testBit i=true→P i a→∃a':Int × Int × (List V) × (List V) × (List V),CC qi [.int .i64 (i:Int),.int .i64 a.1,.int .i64 a.2.1,.list aa a.2.2.1,.list aD a.2.2.2.1,.list aD a.2.2.2.2]=some [.int .i64 a'.1,.int .i64 a'.2.1,.list aa a'.2.2.1,.list aD a'.2.2.2.1,.list aD a'.2.2.2.2]∧P (i+1) a')
  (U: ∀i a,F.testBit i=false→P i a→P (i+1) a) (a:Int × Int × (List V) × (List V) × (List V)) (hP:P 0 a):
  ∃a':Int × Int × (List V) × (List V) × (List V),CC Vm [.list aJ (bh m F),.int .i64 a.1,.int .i64 a.2.1,.list aa a.2.2.1,.list aD a.2.2.2.1,.list aD a.2.2.2.2]=some [.int .i64 a'.1,.int .i64 a'.2.1,.list aa a'.2.2.1,.list aD a'.2.2.2.1,.list aD a'.2.2.2.2]∧P (64*m) a':=by
 suffices h: ∃a',Loop (CE CC (bh m F) (m:Int)) (0,a)=some ((m:Int),false,a')∧P (64*m) a' by
  obtain ⟨a',hl,jo⟩:=h
  refine ⟨a',agF ?_,jo⟩
  unfold U8
  rw[mi]
  exact (congrArg (fun o=>Option.bind o _) hl).trans rfl
 refine tG (S:=F) (m:=m) hm (outer:=CE CC (bh m F) (m:Int)) (inner:=fun k=>vX CC (k:Int) (bh m F) (m:Int) (k:Int)) (P:=P) ?_ ?_ ?_ U ?_ a hP
 ·intro k a a' hk hl
  rcases a with ⟨x0,x1,x2,x3,x4⟩
  rcases a' with ⟨y0,y1,y2,y3,y4⟩
  replace hl:Loop (vX CC (k:Int) (bh m F) (m:Int) (k:Int)) _=_:=hl
  simp only[CE,CD,un]
  rw[az,ah (by omega),nU,lB hk]
  simp only[Option.bind_some,V.toInt_int]
  rw[hl]
  simp only[Option.bind_some]
  rw[wrap64 (by omega) (by omega)]
  rfl
 ·intro a
  rcases a with ⟨x0,x1,x2,x3,x4⟩
  simp only[CE,CD,un]
  rw[az,ai (by omega),ct (by omega)]
 ·intro k j q a hk hj hq hb hp
  obtain ⟨a',hc,hp'⟩:=hv (64*k+j) a (by omega) hb hp
  refine ⟨a',?_,hp'⟩
  show vX CC (k:Int) (bh m F) (m:Int) (k:Int) _=_
  rcases a with ⟨x0,x1,x2,x3,x4⟩
  rcases a' with ⟨y0,y1,y2,y3,y4⟩
  simp only[vX,CB,un]
  rw[jm,ai tF,tB hq]
  simp only[Option.bind_some,V.aC,V.toInt_int]
  rw[tE (by omega) hj]
  refine (congrArg (fun o=>Option.bind o _) hc).trans ?_
  simp only[Option.bind_some,ek,dL,V.aC,V.toInt_int,V.me,V.cN,V.bR]
  rw[tD hq]
 ·intro k a
  rcases a with ⟨x0,x1,x2,x3,x4⟩
  show vX CC (k:Int) (bh m F) (m:Int) (k:Int) _=_
  simp only[vX,CB,un]
  rw[jm,ah rfl]
  rfl
abbrev Vn:Nat:=LO
theorem agY {m F:Nat} (hm:m≤100) {P:Nat→((List V) × (List V))→Prop}
  (hv: ∀(i:Nat) (a:(List V) × (List V)),i<64*m→F.testBit i=true→P i a→∃a':(List V) × (List V),CC qh [.int .i64 (i:Int),.list aJ a.2,.list aD a.1]=some [.list aD a'.1,.list aJ a'.2]∧P (i+1) a')
  (U: ∀i a,F.testBit i=false→P i a→P (i+1) a) (a:(List V) × (List V)) (hP:P 0 a):
  ∃a':(List V) × (List V),CC Vn [.list aJ (bh m F),.list aJ a.2,.list aD a.1]=some [.list aD a'.1,.list aJ a'.2]∧P (64*m) a':=by
 suffices h: ∃a',Loop (CJ CC (bh m F) (m:Int)) (0,a)=some ((m:Int),false,a')∧P (64*m) a' by
  obtain ⟨a',hl,jo⟩:=h
  refine ⟨a',agI ?_,jo⟩
  unfold Vb
  rw[mi]
  exact (congrArg (fun o=>Option.bind o _) hl).trans rfl
 refine tG (S:=F) (m:=m) hm (outer:=CJ CC (bh m F) (m:Int)) (inner:=fun k=>vY CC (k:Int) (bh m F) (m:Int) (k:Int)) (P:=P) ?_ ?_ ?_ U ?_ a hP
 ·intro k a a' hk hl
  rcases a with ⟨x0,x1⟩
  rcases a' with ⟨y0,y1⟩
  replace hl:Loop (vY CC (k:Int) (bh m F) (m:Int) (k:Int)) _=_:=hl
  simp only[CJ,CH,un]
  rw[az,ah (by omega),nU,lB hk]
  simp only[Option.bind_some,V.toInt_int]
  rw[hl]
  simp only[Option.bind_some]
  rw[wrap64 (by omega) (by omega)]
  rfl
 ·intro a
  rcases a with ⟨x0,x1⟩
  simp only[CJ,CH,un]
  rw[az,ai (by omega),ct (by omega)]
 ·intro k j q a hk hj hq hb hp
  obtain ⟨a',hc,hp'⟩:=hv (64*k+j) a (by omega) hb hp
  refine ⟨a',?_,hp'⟩
  show vY CC (k:Int) (bh m F) (m:Int) (k:Int) _=_
  rcases a with ⟨x0,x1⟩
  rcases a' with ⟨y0,y1⟩
  simp only[vY,CG,un]
  rw[jm,ai tF,tB hq]
  simp only[Option.bind_some,V.aC,V.toInt_int]
  rw[tE (by omega) hj]
  refine (congrArg (fun o=>Option.bind o _) hc).trans ?_
  simp only[Option.bind_some,ek,dL,V.aC,V.toInt_int,V.me,V.cN,V.bR]
  rw[tD hq]
 ·intro k a
  rcases a with ⟨x0,x1⟩
  show vY CC (k:Int) (bh m F) (m:Int) (k:Int) _=_
  simp only[vY,CG,un]
  rw[jm,ah rfl]
  rfl
abbrev Vo:Nat:=LP
theorem agZ {m F:Nat} (hm:m≤100) {P:Nat→((List V) × (List V))→Prop}
  (hv: ∀(i:Nat) (a:(List V) × (List V)),i<64*m→F.testBit i=true→P i a→∃a':(List V) × (List V),CC qd [.int .i64 (i:Int),.list aJ a.2,.list aD a.1]=some [.list aD a'.1,.list aJ a'.2]∧P (i+1) a')
  (U: ∀i a,F.testBit i=false→P i a→P (i+1) a) (a:(List V) × (List V)) (hP:P 0 a):
  ∃a':(List V) × (List V),CC Vo [.list aJ (bh m F),.list aJ a.2,.list aD a.1]=some [.list aD a'.1,.list aJ a'.2]∧P (64*m) a':=by
 suffices h: ∃a',Loop (CM CC (bh m F) (m:Int)) (0,a)=some ((m:Int),false,a')∧P (64*m) a' by
  obtain ⟨a',hl,jo⟩:=h
  refine ⟨a',agL ?_,jo⟩
  unfold Ve
  rw[mi]
  exact (congrArg (fun o=>Option.bind o _) hl).trans rfl
 refine tG (S:=F) (m:=m) hm (outer:=CM CC (bh m F) (m:Int)) (inner:=fun k=>vZ CC (k:Int) (bh m F) (m:Int) (k:Int)) (P:=P) ?_ ?_ ?_ U ?_ a hP
 ·intro k a a' hk hl
  rcases a with ⟨x0,x1⟩
  rcases a' with ⟨y0,y1⟩
  replace hl:Loop (vZ CC (k:Int) (bh m F) (m:Int) (k:Int)) _=_:=hl
  simp only[CM,CL,un]
  rw[az,ah (by omega),nU,lB hk]
  simp only[Option.bind_some,V.toInt_int]
  rw[hl]
  simp only[Option.bind_some]
  rw[wrap64 (by omega) (by omega)]
  rfl
 ·intro a
  rcases a with ⟨x0,x1⟩
  simp only[CM,CL,un]
  rw[az,ai (by omega),ct (by omega)]
 ·intro k j q a hk hj hq hb hp
  obtain ⟨a',hc,hp'⟩:=hv (64*k+j) a (by omega) hb hp
  refine ⟨a',?_,hp'⟩
  show vZ CC (k:Int) (bh m F) (m:Int) (k:Int) _=_
  rcases a with ⟨x0,x1⟩
  rcases a' with ⟨y0,y1⟩
  simp only[vZ,CK,un]
  rw[jm,ai tF,tB hq]
  simp only[Option.bind_some,V.aC,V.toInt_int]
  rw[tE (by omega) hj]
  refine (congrArg (fun o=>Option.bind o _) hc).trans ?_
  simp only[Option.bind_some,ek,dL,V.aC,V.toInt_int,V.me,V.cN,V.bR]
  rw[tD hq]
 ·intro k a
  rcases a with ⟨x0,x1⟩
  show vZ CC (k:Int) (bh m F) (m:Int) (k:Int) _=_
  simp only[vZ,CK,un]
  rw[jm,ah rfl]
  rfl
abbrev Vp:Nat:=Hq
theorem ag0 {m F:Nat} (hm:m≤100) {P:Nat→((List UInt8) × Bool × (List V) × (List V))→Prop}
  (hv: ∀(i:Nat) (a:(List UInt8) × Bool × (List V) × (List V)),i<64*m→F.testBit i=true→P i a→∃a':(List UInt8) × Bool × (List V) × (List V),CC qe [.int .i64 (i:Int),.str a.1,.bool a.2.1,.list aD a.2.2.1,.list aD a.2.2.2]=some [.str a'.1,.bool a'.2.1,.list aD a'.2.2.1,.list aD a'.2.2.2]∧P (i+1) a')
  (U: ∀i a,F.testBit i=false→P i a→P (i+1) a) (a:(List UInt8) × Bool × (List V) × (List V)) (hP:P 0 a):
  ∃a':(List UInt8) × Bool × (List V) × (List V),CC Vp [.list aJ (bh m F),.str a.1,.bool a.2.1,.list aD a.2.2.1,.list aD a.2.2.2]=some [.str a'.1,.bool a'.2.1,.list aD a'.2.2.1,.list aD a'.2.2.2]∧P (64*m) a':=by
 suffices h: ∃a',Loop (CP CC (bh m F) (m:Int)) (0,a)=some ((m:Int),false,a')∧P (64*m) a' by
  obtain ⟨a',hl,jo⟩:=h
  refine ⟨a',agO ?_,jo⟩
  unfold Vh
  rw[mi]
  exact (congrArg (fun o=>Option.bind o _) hl).trans rfl
 refine tG (S:=F) (m:=m) hm (outer:=CP CC (bh m F) (m:Int)) (inner:=fun k=>v5 CC (k:Int) (bh m F) (m:Int) (k:Int)) (P:=P) ?_ ?_ ?_ U ?_ a hP
 ·intro k a a' hk hl
  rcases a with ⟨x0,x1,x2,x3⟩
  rcases a' with ⟨y0,y1,y2,y3⟩
  replace hl:Loop (v5 CC (k:Int) (bh m F) (m:Int) (k:Int)) _=_:=hl
  simp only[CP,CO,un]
  rw[az,ah (by omega),nU,lB hk]
  simp only[Option.bind_some,V.toInt_int]
  rw[hl]
  simp only[Option.bind_some]
  rw[wrap64 (by omega) (by omega)]
  rfl
 ·intro a
  rcases a with ⟨x0,x1,x2,x3⟩
  simp only[CP,CO,un]
  rw[az,ai (by omega),ct (by omega)]
 ·intro k j q a hk hj hq hb hp
  obtain ⟨a',hc,hp'⟩:=hv (64*k+j) a (by omega) hb hp
  refine ⟨a',?_,hp'⟩
  show v5 CC (k:Int) (bh m F) (m:Int) (k:Int) _=_
  rcases a with ⟨x0,x1,x2,x3⟩
  rcases a' with ⟨y0,y1,y2,y3⟩
  simp only[v5,CN,un]
  rw[jm,ai tF,tB hq]
  simp only[Option.bind_some,V.aC,V.toInt_int]
  rw[tE (by omega) hj]
  refine (congrArg (fun o=>Option.bind o _) hc).trans ?_
  simp only[Option.bind_some,ek,dL,V.aC,V.toInt_int,V.me,V.cN,V.bR]
  rw[tD hq]
 ·intro k a
  rcases a with ⟨x0,x1,x2,x3⟩
  show v5 CC (k:Int) (bh m F) (m:Int) (k:Int) _=_
  simp only[v5,CN,un]
  rw[jm,ah rfl]
  rfl
abbrev ag1:Nat:=LQ
theorem ag2 {m F:Nat} (hm:m≤100) {P:Nat→(Bool × (List V) × (List V))→Prop}
  (hv: ∀(i:Nat) (a:Bool × (List V) × (List V)),i<64*m→F.testBit i=true→P i a→∃a':Bool × (List V) × (List V),CC qf [.int .i64 (i:Int),.bool a.1,.list aJ a.2.2,.list aD a.2.1]=some [.bool a'.1,.list aD a'.2.1,.list aJ a'.2.2]∧P (i+1) a')
  (U: ∀i a,F.testBit i=false→P i a→P (i+1) a) (a:Bool × (List V) × (List V)) (hP:P 0 a):
  ∃a':Bool × (List V) × (List V),CC ag1 [.list aJ (bh m F),.bool a.1,.list aJ a.2.2,.list aD a.2.1]=some [.bool a'.1,.list aD a'.2.1,.list aJ a'.2.2]∧P (64*m) a':=by
 suffices h: ∃a',Loop (CU CC (bh m F) (m:Int)) (0,a)=some ((m:Int),false,a')∧P (64*m) a' by
  obtain ⟨a',hl,jo⟩:=h
  refine ⟨a',agR ?_,jo⟩
  unfold Vk
  rw[mi]
  exact (congrArg (fun o=>Option.bind o _) hl).trans rfl
 refine tG (S:=F) (m:=m) hm (outer:=CU CC (bh m F) (m:Int)) (inner:=fun k=>v7 CC (k:Int) (bh m F) (m:Int) (k:Int)) (P:=P) ?_ ?_ ?_ U ?_ a hP
 ·intro k a a' hk hl
  rcases a with ⟨x0,x1,x2⟩
  rcases a' with ⟨y0,y1,y2⟩
  replace hl:Loop (v7 CC (k:Int) (bh m F) (m:Int) (k:Int)) _=_:=hl
  simp only[CU,CT,un]
  rw[az,ah (by omega),nU,lB hk]
  simp only[Option.bind_some,V.toInt_int]
  rw[hl]
  simp only[Option.bind_some]
  rw[wrap64 (by omega) (by omega)]
  rfl
 ·intro a
  rcases a with ⟨x0,x1,x2⟩
  simp only[CU,CT,un]
  rw[az,ai (by omega),ct (by omega)]
 ·intro k j q a hk hj hq hb hp
  obtain ⟨a',hc,hp'⟩:=hv (64*k+j) a (by omega) hb hp
  refine ⟨a',?_,hp'⟩
  show v7 CC (k:Int) (bh m F) (m:Int) (k:Int) _=_
  rcases a with ⟨x0,x1,x2⟩
  rcases a' with ⟨y0,y1,y2⟩
  simp only[v7,CS,un]
  rw[jm,ai tF,tB hq]
  simp only[Option.bind_some,V.aC,V.toInt_int]
  rw[tE (by omega) hj]
  refine (congrArg (fun o=>Option.bind o _) hc).trans ?_
  simp only[Option.bind_some,ek,dL,V.aC,V.toInt_int,V.me,V.cN,V.bR]
  rw[tD hq]
 ·intro k a
  rcases a with ⟨x0,x1,x2⟩
  show v7 CC (k:Int) (bh m F) (m:Int) (k:Int) _=_
  simp only[v7,CS,un]
  rw[jm,ah rfl]
  rfl
noncomputable abbrev H3:Code:=cj Tryz.prog (av.aQ 45)
noncomputable def H4 (C:ae) (i:Int) (t10:Bool) (di:List UInt8) (tH v9:Int) (y7 au:List V) {β:Type} (kr:(List V)→Option β):Option β:=
 bif t10 then
  bif (decide (0≤i))&&(decide (i<(au.length:Int))) then
  (au[(i:Int).toNat]?).bind fun x3=>
  (C Hp [dF ((i:Int).toNat),.int .i64 i,.list aD au]).bind fun r4=>
  kr ((V.nth r4 0).toList)
  else none
 else
  bif (tH:Int)==3 then
  bif decide ((i:Int)<(di.length:Int)) then
   (bif decide (0≤i) then (di[(i:Int).toNat]?).map fun b=>V.int .u8 b.toNat else none).bind fun x5=>
   bif ((IntKind.wrap .i64 (IntKind.wrap .u8 (x5.toInt-97))):Int)==v9 then
   bif (decide (0≤i))&&(decide (i<(au.length:Int))) then
    (au[(i:Int).toNat]?).bind fun x6=>
    (C Hp [dF ((i:Int).toNat),.int .i64 (IntKind.wrap .i64 (i+1)),.list aD au]).bind fun r7=>
    kr ((V.nth r7 0).toList)
   else none
   else
   kr au
  else
   kr au
  else
  kr au
noncomputable def Vq (C:ae):b8:=fun β n ds k=>
 bif Nat.beq n 175 then iH Mh [[3,4,5,6,0]] (@H4 C) ds k else
 none
abbrev ag3 (C:ae) (b:bZ):Prop:=b6 Tryz.prog av C (Vq C) 45 (cl Tryz.prog (av.aQ 45)) (av.sin 45).bc.length b
theorem ag4 (C:ae):ag3 C (.cond 10 (ax [1,0,1,0] H3) (ax [1,0,1,1] H3)):=
 jn Mh [[3,4,5,6,0]] (@H4 C) (by kernel_rfl) (a9 (bs:=[]) (by kernel_rfl) aw) (a9 (bs:=[]) (by kernel_rfl) aw) (fun ds=>by kernel_rfl) (fun i β k=>by kernel_rfl) (fun β ds k=>by kernel_rfl)
noncomputable def Vr (C:ae) (i:Int) (di:List UInt8) (tH v9:Int) (y7 au:List V):Option (List V):=
 (C o9 [.str di]).bind fun r1=>
 bif (decide (0≤i))&&(decide (i<(au.length:Int))) then
  (au[(i:Int).toNat]?).bind fun x2=>
  H4 C i ((tH:Int)==2) di tH v9 y7 (au.set ((i:Int).toNat) (.list aJ ((V.nth r1 0).toList))) (fun (pk:List V)=>
   some [.str di,.int .i64 tH,.int .i64 v9,.list aa y7,.list aD pk])
 else none
theorem ag5 {i:Int} {di:List UInt8} {tH v9:Int} {y7 au:List V} {r:Option (List V)} (h:Vr CC i di tH v9 y7 au=r):CC qc [.int .i64 i,.str di,.int .i64 tH,.int .i64 v9,.list aa y7,.list aD au]=r:=
 aZ (key:=45) (L:=Vq CC) (bs:=[.cond 10 (ax [1,0,1,0] H3) (ax [1,0,1,1] H3)]) (by kernel_rfl) (br (ag4 CC) aw) (aX (by kernel_rfl) h)
noncomputable def Vs (C:ae) (i di:Int):Option (List V):=
 some [.int .i64 (if i<di then i else di)]
theorem ag6 {i di:Int} {r:Option (List V)} (h:Vs CC i di=r):CC qg [.int .i64 i,.int .i64 di]=r:=
 aZ (key:=58) (L:=bX) (bs:=[]) (by kernel_rfl) aw (aX (by kernel_rfl) h)
noncomputable def Vt (C:ae) (j:Int) (ch au:List V):Option (List V):=
 (C yx [.list aJ ch,.int .i64 j]).bind fun r1=>
 bif !((V.nth r1 0).toBool) then
  bif (decide (0≤j))&&(decide (j<(au.length:Int))) then
  (au[(j:Int).toNat]?).bind fun x2=>
  (c9 Tryz.prog aD au [((j:Int).toNat,0)]).bind fun x3=>
  (C vA [.list aJ x3.toList,.int .i64 j,.list aJ ch]).bind fun r4=>
  some [.list aD au,.list aJ ((V.nth r4 0).toList)]
  else none
 else
  some [.list aD au,.list aJ ch]
theorem ag7 {j:Int} {ch au:List V} {r:Option (List V)} (h:Vt CC j ch au=r):CC qh [.int .i64 j,.list aJ ch,.list aD au]=r:=
 aZ (key:=59) (L:=bX) (bs:=[]) (by kernel_rfl) aw (aX (by kernel_rfl) h)
noncomputable abbrev Vu:Code:=cj Tryz.prog (av.aQ 60)
noncomputable def CV (C:ae) (i t10 lC mj:Int) (tI aS:List V) (t11:Int) (au:List V) {β:Type} (kn:(Int × (List V))→Option β) (kr:(Int × Bool × (List V))→Option β):Option β:=
 bif decide ((t11:Int)<t10) then
  bif (lC:Int)==4 then
  bif (decide (0≤i))&&(decide (i<(au.length:Int))) then
   (au[(i:Int).toNat]?).bind fun x3=>
   (c9 Tryz.prog aD au [((i:Int).toNat,0)]).bind fun x4=>
   bif (decide (0≤t11))&&(decide (t11<(x4.toList.length:Int))) then
   (c9 Tryz.prog aD au [((i:Int).toNat,0)]).bind fun x5=>
   (x5.toList[(t11:Int).toNat]?).bind fun x6=>
   bif (decide (0≤i))&&(decide (i<(aS.length:Int))) then
    (aS[(i:Int).toNat]?).bind fun x7=>
    (c9 Tryz.prog aD aS [((i:Int).toNat,0)]).bind fun x8=>
    bif (decide (0≤t11))&&(decide (t11<(x8.toList.length:Int))) then
    (c9 Tryz.prog aD aS [((i:Int).toNat,0)]).bind fun x9=>
    (x9.toList[(t11:Int).toNat]?).bind fun ic=>
    (c9 Tryz.prog aD au [((i:Int).toNat,0)]).bind fun ew=>
    bif (decide (0≤t11))&&(decide (t11<(ew.toList.length:Int))) then
     (c9 Tryz.prog aD au [((i:Int).toNat,0)]).bind fun r0=>
     (r0.toList[(t11:Int).toNat]?).bind fun iK=>
     kn (IntKind.wrap .i64 (t11+1),setRow Tryz.prog (r0.toList.set ((t11:Int).toNat) (.int .u64 (IntKind.wrap .u64 ((BitVec.ofInt (IntKind.bits .u64) x6.toInt|||BitVec.ofInt (IntKind.bits .u64) ic.toInt).toNat)))) aD au [((i:Int).toNat,0)])
    else none
    else none
   else none
   else none
  else none
  else
  bif (decide (0≤i))&&(decide (i<(au.length:Int))) then
   (au[(i:Int).toNat]?).bind fun ml=>
   (c9 Tryz.prog aD au [((i:Int).toNat,0)]).bind fun fy=>
   bif (decide (0≤t11))&&(decide (t11<(fy.toList.length:Int))) then
   (c9 Tryz.prog aD au [((i:Int).toNat,0)]).bind fun gd=>
   (gd.toList[(t11:Int).toNat]?).bind fun po=>
   bif (decide (0≤i))&&(decide (i<(aS.length:Int))) then
    (aS[(i:Int).toNat]?).bind fun wa=>
    (c9 Tryz.prog aD aS [((i:Int).toNat,0)]).bind fun oh=>
    bif (decide (0≤t11))&&(decide (t11<(oh.toList.length:Int))) then
    (c9 Tryz.prog aD aS [((i:Int).toNat,0)]).bind fun sa=>
    (sa.toList[(t11:Int).toNat]?).bind fun y8=>
    (c9 Tryz.prog aD au [((i:Int).toNat,0)]).bind fun Vv=>
    bif (decide (0≤t11))&&(decide (t11<(Vv.toList.length:Int))) then
     (c9 Tryz.prog aD au [((i:Int).toNat,0)]).bind fun iL=>
     (iL.toList[(t11:Int).toNat]?).bind fun tJ=>
     kn (IntKind.wrap .i64 (t11+1),setRow Tryz.prog (iL.toList.set ((t11:Int).toNat) (.int .u64 (IntKind.wrap .u64 ((BitVec.ofInt (IntKind.bits .u64) po.toInt&&&BitVec.ofInt (IntKind.bits .u64) y8.toInt).toNat)))) aD au [((i:Int).toNat,0)])
    else none
    else none
   else none
   else none
  else none
 else
  kr (t11,decide ((t11:Int)<t10),au)
noncomputable def CW (C:ae) (i t10 lC mj:Int) (tI aS:List V):(Int × (List V))→Option ((Int × (List V)) ⊕ (Int × Bool × (List V))):=un fun t11 au=>CV C i t10 lC mj tI aS t11 au (fun y=>some (.inl y)) (fun r=>some (.inr r))
noncomputable def Vw (C:ae):b8:=fun β n ds k=>
 bif Nat.beq n 17 then bM Mq [false,false,true,false,false,false,true,false] [[1,2,0,0,4,5,6,0,8]] (@CV C) ds k else
 none
abbrev ag8 (C:ae) (b:bZ):Prop:=b6 Tryz.prog av C (Vw C) 60 (cl Tryz.prog (av.aQ 60)) (av.sin 60).bc.length b
theorem ag9 (C:ae):ag8 C (.loop (ax [1,0,0] Vu)):=
 bP Mq [false,false,true,false,false,false,true,false] [[1,2,0,0,4,5,6,0,8]] (@CV C) (by kernel_rfl) (a9 (bs:=[]) (by kernel_rfl) aw) (fun ds=>by kernel_rfl) (fun i x=>by kernel_rfl) (fun i x β k=>by kernel_rfl) (fun β ds k=>by kernel_rfl)
noncomputable def Vx (C:ae) (i lC mj:Int) (tI au aS:List V):Option (List V):=
 bif (decide (0≤i))&&(decide (i<(au.length:Int))) then
  (au[(i:Int).toNat]?).bind fun x1=>
  (c9 Tryz.prog aD au [((i:Int).toNat,0)]).bind fun x2=>
  (Loop (CW C i (x2.toList.length:Int) lC mj tI aS) (0,au)).bind (un fun (T9:Int)=>un fun (Nx:Bool) (aha:List V)=>
   some [.int .i64 lC,.int .i64 mj,.list aa tI,.list aD aha,.list aD aS])
 else none
theorem ahb {i lC mj:Int} {tI au aS:List V} {r:Option (List V)} (h:Vx CC i lC mj tI au aS=r):CC qi [.int .i64 i,.int .i64 lC,.int .i64 mj,.list aa tI,.list aD au,.list aD aS]=r:=
 aZ (key:=60) (L:=Vw CC) (bs:=[.loop (ax [1,0,0] Vu)]) (by kernel_rfl) (br (ag9 CC) aw) (aX (by kernel_rfl) h)
noncomputable def Vy (C:ae) (i:Int) (ch au:List V):Option (List V):=
 bif (decide (0≤i))&&(decide (i<(au.length:Int))) then
  (au[(i:Int).toNat]?).bind fun x1=>
  (c9 Tryz.prog aD au [((i:Int).toNat,0)]).bind fun x2=>
  (C vA [.list aJ x2.toList,.int .i64 i,.list aJ ch]).bind fun r3=>
  some [.list aD au,.list aJ ((V.nth r3 0).toList)]
 else none
theorem ahc {i:Int} {ch au:List V} {r:Option (List V)} (h:Vy CC i ch au=r):CC qd [.int .i64 i,.list aJ ch,.list aD au]=r:=
 aZ (key:=53) (L:=bX) (bs:=[]) (by kernel_rfl) aw (aX (by kernel_rfl) h)
end Go.AM
