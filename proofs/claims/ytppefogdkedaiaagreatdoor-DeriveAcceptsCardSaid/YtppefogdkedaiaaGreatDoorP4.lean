/-
  Functions of the program, lifted to plain data.
-/
import Derived.Test.YtppefogdkedaiaaGreatDoorProg
import Derived.Tactics
import Derived.Tactics2
import Derived.StillTactics
import Derived.Laws.Pointers
import Derived.Lib.LazyBuf
import Derived.RegionTactic
import Derived.LoopTactic
import Derived.WalkKit
import Derived.Laws.Externs
import Derived.Lib.Builder
import Derived.Recover
import Derived.Test.YtppefogdkedaiaaGreatDoorRows
import Derived.Lib.LaidTab
import Derived.LaidHandle
import Derived.MakeChecks
import Derived.Lay
import Derived.Test.YtppefogdkedaiaaGreatDoorP3
set_option linter.unusedVariables false
set_option linter.unusedSimpArgs false
set_option maxRecDepth 100000
namespace Go.AM
open Go.Proofs
abbrev L3:FuncId:=3
abbrev GS:FuncId:=5
abbrev GU:FuncId:=6
abbrev GV:FuncId:=7
abbrev qf:FuncId:=8
abbrev BO:FuncId:=9
abbrev GW:FuncId:=10
abbrev GX:FuncId:=11
abbrev GY:FuncId:=12
abbrev yx:FuncId:=15
abbrev GZ:FuncId:=16
abbrev yz:FuncId:=17
abbrev vA:FuncId:=18
abbrev G0:FuncId:=19
abbrev yA:FuncId:=20
abbrev G1:FuncId:=21
abbrev G2:FuncId:=22
abbrev G3:FuncId:=23
abbrev yB:FuncId:=24
abbrev G4:FuncId:=25
abbrev yC:FuncId:=26
abbrev G5:FuncId:=27
abbrev pg:FuncId:=28
abbrev vB:FuncId:=29
abbrev mY:FuncId:=30
abbrev yD:FuncId:=31
abbrev G6:FuncId:=33
abbrev G7:FuncId:=34
abbrev yE:FuncId:=35
abbrev BP:FuncId:=36
abbrev vC:FuncId:=37
abbrev yF:FuncId:=38
abbrev kP:FuncId:=39
abbrev G8:FuncId:=40
abbrev G9:FuncId:=41
abbrev BQ:FuncId:=42
abbrev BR:FuncId:=43
abbrev mZ:FuncId:=44
abbrev qg:FuncId:=45
abbrev Ha:FuncId:=46
abbrev ph:FuncId:=47
abbrev yG:FuncId:=48
abbrev kQ:FuncId:=49
abbrev tt:FuncId:=50
abbrev Hb:FuncId:=51
abbrev tu:FuncId:=52
abbrev qh:FuncId:=53
abbrev vD:FuncId:=54
abbrev lG:FuncId:=55
abbrev qi:FuncId:=56
abbrev qj:FuncId:=57
abbrev qk:FuncId:=58
abbrev ql:FuncId:=59
abbrev qm:FuncId:=60
abbrev qn:FuncId:=61
abbrev pj:FuncId:=62
abbrev yH:FuncId:=63
abbrev yI:FuncId:=64
abbrev Hc:FuncId:=65
abbrev Hd:FuncId:=66
abbrev He:FuncId:=67
abbrev vE:FuncId:=68
abbrev qo:FuncId:=69
abbrev tv:FuncId:=70
abbrev sc:FuncId:=71
abbrev mi:FuncId:=72
abbrev BT:FuncId:=73
abbrev tw:FuncId:=74
abbrev yJ:FuncId:=75
abbrev yK:FuncId:=76
abbrev m7:FuncId:=77
abbrev vF:FuncId:=78
abbrev qp:FuncId:=79
abbrev pk:FuncId:=80
abbrev Hf:FuncId:=82
abbrev Hg:FuncId:=83
abbrev BU:FuncId:=84
abbrev bp:FuncId:=85
abbrev Hh:FuncId:=86
abbrev qq:FuncId:=87
abbrev gK:FuncId:=89
abbrev BV:FuncId:=90
abbrev yL:FuncId:=91
abbrev Hi:FuncId:=92
abbrev BW:FuncId:=93
abbrev BX:FuncId:=94
abbrev Hj:FuncId:=95
abbrev BY:FuncId:=96
abbrev Hk:FuncId:=97
abbrev Hl:FuncId:=98
abbrev vG:FuncId:=99
abbrev oc:FuncId:=100
abbrev Hm:FuncId:=102
abbrev BZ:FuncId:=103
abbrev B0:FuncId:=104
abbrev Hn:FuncId:=105
abbrev Ho:FuncId:=106
abbrev yM:FuncId:=107
abbrev B1:FuncId:=108
abbrev yN:FuncId:=109
abbrev m8:TypeId:=3
abbrev gM:TypeId:=4
abbrev dc:TypeId:=5
abbrev Tx:TypeId:=22
abbrev aa:TypeId:=24
abbrev cZ:TypeId:=54
abbrev aD:TypeId:=58
abbrev ei:TypeId:=64
abbrev aI:TypeId:=72
abbrev L4:Nat:=131
abbrev B4:Nat:=132
abbrev Hp:Nat:=133
abbrev Hq:Nat:=134
abbrev Hr:Nat:=135
abbrev L5:Nat:=136
abbrev Hs:Nat:=137
abbrev L6:Nat:=138
abbrev L7:Nat:=139
abbrev L8:Nat:=140
abbrev L9:Nat:=141
abbrev Ht:Nat:=142
abbrev Ma:Nat:=143
abbrev Hu:Nat:=145
abbrev Hv:Nat:=146
def vH:List V:=[.int .u8 0,.int .u8 1,.int .u8 56,.int .u8 2,.int .u8 57,.int .u8 49,.int .u8 28,.int .u8 3,.int .u8 61,.int .u8 58,.int .u8 42,.int .u8 50,.int .u8 38,.int .u8 29,.int .u8 17,.int .u8 4,.int .u8 62,.int .u8 47,.int .u8 59,.int .u8 36,.int .u8 45,.int .u8 43,.int .u8 51,.int .u8 22,.int .u8 53,.int .u8 39,.int .u8 33,.int .u8 30,.int .u8 24,.int .u8 18,.int .u8 12,.int .u8 5,.int .u8 63,.int .u8 55,.int .u8 48,.int .u8 27,.int .u8 60,.int .u8 41,.int .u8 37,.int .u8 16,.int .u8 46,.int .u8 35,.int .u8 44,.int .u8 21,.int .u8 52,.int .u8 32,.int .u8 23,.int .u8 11,.int .u8 54,.int .u8 26,.int .u8 40,.int .u8 15,.int .u8 34,.int .u8 20,.int .u8 31,.int .u8 10,.int .u8 25,.int .u8 14,.int .u8 19,.int .u8 9,.int .u8 13,.int .u8 8,.int .u8 7,.int .u8 6]
abbrev af:VS:= .one (.int .i64)
abbrev aN:VS:= .one (.bool)
abbrev cG:VS:= .one (.list aa)
abbrev bE:VS:= .one (.whole aa 0)
abbrev cD:VS:= .one (.aW 0 0 0)
abbrev kR:VS:= .one (.str)
abbrev cR:VS:= .one (.list aI)
abbrev adx:VS:= .one (.whole aD 3)
abbrev fO:VS:= .one (.int .u64)
abbrev ij:VS:= .one (.aW 1 0 0)
abbrev ady:VS:= .one (.whole aD 4)
abbrev vI:VS:= .one (.rb)
abbrev kS:VS:= .one (.aW 2 0 0)
abbrev B5:VS:= .one (.whole aa 4)
abbrev vJ:VS:= .one (.cE ei 3)
abbrev Tz:VS:= .one (.whole aI 4)
abbrev Hw:VS:= .one (.whole aa 1)
abbrev adz:VS:= .one (.whole dc 2)
abbrev Mb:VS:= .one (.list cZ)
abbrev yO:VS:= .one (.whole aa 5)
abbrev yP:VS:= .one (.whole aa 3)
abbrev vK:VS:= .one (.whole aa 6)
abbrev adA:VS:= .one (.whole aD 5)
abbrev Mc:VS:= .one (.whole cZ 5)
abbrev adB:VS:= .one (.whole dc 3)
abbrev TA:VS:= .one (.whole cZ 2)
abbrev adC:VS:= .one (.list gM)
abbrev Md:VS:= .one (.whole aa 2)
abbrev TB:VS:= .one (.whole aI 2)
abbrev Hy:VS:= .one (.aW 3 0 0)
abbrev adD:VS:= .one (.whole aI 5)
abbrev Hz:VS:= .one (.whole aI 0)
abbrev adE:VS:= .one (.whole dc 1)
abbrev adF:VS:= .one (.whole aD 0)
abbrev HA:VS:= .one (.whole cZ 7)
abbrev Me:VS:= .one (.whole aD 2)
abbrev mj:VS:= .agg [.int .i64,.int .i64,.list aa]
abbrev Mf:VS:= .agg [.str]
abbrev HB:VS:= .agg [.int .i64,.int .i64,.list aa,.int .i64,.int .i64,.list aa,.bool]
abbrev adG:VS:= .agg [.int .i64,.bool]
abbrev HC:VS:= .agg [.int .i64,.int .i64,.whole aa 0]
abbrev sd:BS:= .var 61 [adx]
abbrev jr:BS:= .var 24 [af,af,cG]
abbrev tx:BS:= .var 3 [af]
abbrev m9:BS:= .var 56 [kR]
abbrev vL:BS:= .var 61 [ady]
abbrev HD:BS:= .var 4 [aN]
abbrev adH:BS:= .var 58 [Tz]
abbrev adI:BS:= .var 87 [vI,adz]
abbrev adJ:BS:= .var 61 [adA]
abbrev adK:BS:= .var 87 [vI,adB]
abbrev yQ:BS:= .var 33 [af,af,adC,Mb]
abbrev Mg:BS:= .var 127 [fO]
abbrev adL:BS:= .var 58 [adD]
abbrev B6:BS:= .var 77 [af,af,B5,af,af,yO,aN]
abbrev adM:BS:= .var 68 [af,Hw,TA,af,vJ]
abbrev adN:BS:= .var 87 [vI,adE]
abbrev adO:BS:= .var 68 [af,B5,Mc,af,vJ]
abbrev HE:BS:= .var 79 [af,aN]
abbrev adP:BS:= .var 58 [TB]
abbrev adQ:BS:= .var 33 [af,af,.one (.whole gM 2),.one (.whole cZ 3)]
abbrev adR:BS:= .var 68 [af,B5,Mc,af,.one (.cE ei 6)]
abbrev TC:BS:= .var 33 [af,af,.one (.whole gM 8),.one (.whole cZ 9)]
abbrev cO:BS:= .arr aa false
abbrev kT:BS:= .arr aI false
abbrev Mh:BS:= .arr dc false
abbrev na:BS:= .arr cZ false
abbrev tz:BS:= .arr gM false
abbrev fc:BS:= .nest aD
abbrev bf:List BS:=[cO]
abbrev gA:List BS:=[tx]
abbrev od:List BS:=[adH,sd,.dead,fc,kT]
abbrev pn:List BS:=[adI,.dead,Mh]
abbrev qs:List BS:=[m9,sd,jr,fc]
abbrev qt:List BS:=[sd,jr,vL,fc,fc]
abbrev tA:List BS:=[m9,tx,sd,fc]
abbrev tB:List BS:=[m9,vL,HD,adJ,fc,fc]
abbrev vM:List BS:=[adK,.dead,jr,Mh]
abbrev yR:List BS:=[.dead,cO]
abbrev yS:List BS:=[HD,adL,vL,.dead,fc,kT]
abbrev B7:List BS:=[adM,cO,na,.map ei]
abbrev B8:List BS:=[adN,Mh]
abbrev HF:List BS:=[adO,.dead,.dead,.map ei,cO,na]
abbrev HG:List BS:=[cO,Mg]
abbrev HH:List BS:=[adP,sd,kT,fc]
abbrev TD:List BS:=[adQ,adR,tz,na,cO,na,.map ei]
abbrev fA:List (Nat × VS):=[(0,aN)]
abbrev gB:List (Nat × VS):=[(0,af)]
abbrev js:List (Nat × VS):=[(0,mj)]
abbrev qu:List (Nat × VS):=[(0,mj),(1,af)]
abbrev vN:List (Nat × VS):=[(0,bE)]
abbrev yT:List (Nat × VS):=[(0,cD)]
abbrev B9:List (Nat × VS):=[(0,fO)]
abbrev Cc:List (Nat × VS):=[(0,adF)]
abbrev Cd:List (Nat × VS):=[(0,Hw)]
abbrev HI:List (Nat × VS):=[(0,Mf),(1,mj),(2,cR)]
abbrev HJ:List (Nat × VS):=[(0,af),(1,cD),(2,ij),(3,kS)]
abbrev HK:List (Nat × VS):=[(0,adG),(1,mj)]
abbrev HL:List (Nat × VS):=[(0,af),(1,af)]
abbrev TE:List (Nat × VS):=[(0,kR),(1,af),(5,af)]
def Mi:Shape × List (Out × Shape):=(⟨TE,[]⟩,[(.ret,⟨[(4,aN)],[]⟩),(.exit 0,⟨TE++[(17,aN)],[]⟩)])
def Mj:Shape × List (Out × Shape):=(⟨[(4,cD),(7,ij)],TD⟩,[(.ret,⟨[(4,cD),(5,af)],[.var 33 [af,af,.one (.whole gM 1),TA],tz,na]⟩),(.exit 0,⟨[(4,cD),(7,ij),(22,aN)],TD⟩)])
abbrev TF:List (Nat × VS):=[(1,cD),(26,Mb),(27,af),(28,af),(37,.one (.list m8)),(38,af),(39,af)]
def Mk:Shape × List (Out × Shape):=(⟨TF,[yQ]⟩,[(.ret,⟨[(2,aN)],[]⟩),(.exit 2,⟨TF++[(40,aN)],[yQ]⟩)])
abbrev TG:List (Nat × VS):=[(1,cD),(26,Mb),(27,af),(28,af)]
def Ml:Shape × List (Out × Shape):=(⟨TG,[yQ]⟩,[(.ret,⟨[(2,aN)],[]⟩),(.exit 0,⟨TG++[(29,aN)],[yQ]⟩)])
abbrev TH:List (Nat × VS):=[(1,kR),(2,cD),(5,af),(6,af)]
def Mm:Shape × List (Out × Shape):=(⟨TH,[yQ]⟩,[(.exit 0,⟨TH++[(10,aN)],[yQ]⟩)])
def Mn:Shape × List (Out × Shape):=(⟨[(1,af),(2,cD),(5,af),(6,aN),(39,aN)],[jr]⟩,[(.norm,⟨[(1,af),(2,cD),(5,af),(6,aN)],[jr]⟩)])
abbrev TI:List (Nat × VS):=[(1,af),(2,cD),(5,af),(6,aN),(7,af)]
def Mo:Shape × List (Out × Shape):=(⟨TI,[jr]⟩,[(.exit 1,⟨TI++[(63,aN)],[jr]⟩)])
abbrev TJ:List (Nat × VS):=[(1,af),(2,cD),(6,af),(7,af),(8,af)]
def Mp:Shape × List (Out × Shape):=(⟨TJ,[jr]⟩,[(.exit 0,⟨TJ++[(20,aN)],[jr]⟩)])
abbrev TK:List (Nat × VS):=[(0,cD),(3,.one (.whole m8 4)),(16,af),(17,af)]
def Mq:Shape × List (Out × Shape):=(⟨TK,[.var 68 [af,yO,.one (.whole cZ 6),af,vJ],.dead,.dead,.map ei,.arr m8 false,cO,na]⟩,[(.ret,⟨[(2,af)],HF⟩),(.exit 0,⟨TK++[(18,aN)],[.var 68 [af,yO,.one (.whole cZ 6),af,vJ],.dead,.dead,.map ei,.arr m8 false,cO,na]⟩)])
abbrev TL:List (Nat × VS):=[(2,.one (.aW 4 0 0)),(3,.one (.aW 5 0 0)),(21,vK),(22,af),(23,af)]
def Mr:Shape × List (Out × Shape):=(⟨TL,[.var 68 [af,vK,HA,af,vJ],.dead,.dead,.map ei,TC,.var 33 [af,af,.one (.whole gM 10),HA],cO,na,tz,na,tz]⟩,[(.exit 0,⟨TL++[(24,aN)],[.var 68 [af,vK,HA,af,vJ],.dead,.dead,.map ei,TC,.var 33 [af,af,.one (.whole gM 10),HA],cO,na,tz,na,tz]⟩)])
abbrev TM:List (Nat × VS):=[(0,kR),(1,af),(18,af),(19,af)]
def Ms:Shape × List (Out × Shape):=(⟨TM,[]⟩,[(.ret,⟨[(4,aN)],[]⟩),(.exit 0,⟨TM++[(20,aN)],[]⟩)])
abbrev TN:List (Nat × VS):=[(1,af),(53,cG),(54,af),(55,af)]
def Mt:Shape × List (Out × Shape):=(⟨TN,[]⟩,[(.ret,⟨[(4,aN)],[]⟩),(.exit 1,⟨TN++[(56,aN)],[]⟩)])
abbrev TO:List (Nat × VS):=[(1,cD),(2,ij),(3,Md),(20,cG),(21,af),(22,af)]
def Mu:Shape × List (Out × Shape):=(⟨TO,[jr,.var 24 [af,af,yP],cO,cO]⟩,[(.exit 0,⟨TO++[(23,aN)],[jr,.var 24 [af,af,yP],cO,cO]⟩)])
abbrev TP:List (Nat × VS):=[(19,cG),(20,af),(21,af)]
def Mv:Shape × List (Out × Shape):=(⟨TP,[]⟩,[(.ret,⟨[(2,aN)],[]⟩),(.exit 1,⟨TP++[(22,aN)],[]⟩)])
abbrev TQ:List (Nat × VS):=[(2,cR),(3,cD),(7,ij),(20,cG),(21,af),(22,af)]
def Mw:Shape × List (Out × Shape):=(⟨TQ,[m9,.var 61 [Me],fc]⟩,[(.exit 0,⟨TQ++[(23,aN)],[m9,.var 61 [Me],fc]⟩)])
abbrev TR:List (Nat × VS):=[(3,cD),(4,ij),(7,TB),(8,Hy),(9,af)]
def Mx:Shape × List (Out × Shape):=(⟨TR,[m9,jr,kT,tx]⟩,[(.exit 0,⟨TR++[(28,aN)],[m9,jr,kT,tx]⟩)])
abbrev TS:List (Nat × VS):=[(3,cD),(8,ij),(10,Me),(11,Hy),(12,af)]
def My:Shape × List (Out × Shape):=(⟨TS,[m9,tx,fc,vL,fc]⟩,[(.exit 2,⟨TS++[(48,aN)],[m9,tx,fc,vL,fc]⟩)])
abbrev TT:List (Nat × VS):=[(2,cR),(3,cD),(4,ij),(7,kS),(20,cG),(21,af),(22,af)]
def Mz:Shape × List (Out × Shape):=(⟨TT,[m9,jr,sd,fc]⟩,[(.exit 0,⟨TT++[(23,aN)],[m9,jr,sd,fc]⟩)])
def MA:Shape × List (Out × Shape):=(⟨[(1,.fn qg [] [.aW 0 0 0,.aW 1 0 0,.aW 2 0 0]),(4,af),(5,fO),(6,cR),(7,af),(8,af)],qs⟩,[(.exit 2,⟨[(1,.fn qg [] [.aW 0 0 0,.aW 1 0 0,.aW 2 0 0]),(4,af),(5,fO),(6,cR),(7,af),(8,af),(14,aN)],qs⟩)])
def MB:Shape × List (Out × Shape):=(⟨[(1,.fn qg [] [.aW 0 0 0,.aW 1 0 0,.aW 2 0 0]),(6,cR),(7,af),(8,af)],qs⟩,[(.exit 0,⟨[(1,.fn qg [] [.aW 0 0 0,.aW 1 0 0,.aW 2 0 0]),(6,cR),(7,af),(8,af),(9,aN)],qs⟩)])
def MC:Shape × List (Out × Shape):=(⟨[(0,af),(1,cD),(2,ij),(3,kS),(10,aN)],qs⟩,[(.norm,⟨[],qs⟩)])
def MD:Shape × List (Out × Shape):=(⟨[(3,cD),(4,ij),(5,kS),(6,Hy),(24,aN)],[jr,B6,.var 24 [af,af,vK],.var 24 [af,af,.one (.whole aa 7)],cO,cO,cO,cO]⟩,[(.norm,⟨[(3,cD),(4,ij),(5,kS)],[jr,.var 77 [af,af,yP,af,af,B5,aN],.var 24 [af,af,yO],cO,cO,cO]⟩)])
abbrev TU:List (Nat × VS):=[(1,af),(2,cD),(23,cG),(24,af),(25,af)]
def ME:Shape × List (Out × Shape):=(⟨TU,gA⟩,[(.ret,⟨[(6,aN)],gA⟩),(.exit 0,⟨TU++[(26,aN)],gA⟩)])
def MF:Shape × List (Out × Shape):=(⟨[(0,cD),(3,kS),(5,af),(28,aN)],vM⟩,[(.norm,⟨[],pn⟩)])
def MG:Shape × List (Out × Shape):=(⟨[(0,cD),(3,kS),(5,af),(22,aN)],vM⟩,[(.norm,⟨[],pn⟩)])
def MH:Shape × List (Out × Shape):=(⟨[(0,cD),(3,kS),(5,af),(14,aN)],vM⟩,[(.norm,⟨[],pn⟩)])
def MI:Shape × List (Out × Shape):=(⟨[(0,cD),(3,kS),(5,af),(10,aN)],vM⟩,[(.norm,⟨[],pn⟩)])
def MJ:Shape × List (Out × Shape):=(⟨[(0,cD),(3,kS),(5,af),(6,aN)],vM⟩,[(.norm,⟨[],pn⟩)])
abbrev TV:List (Nat × VS):=[(0,Hz),(1,cR),(6,af)]
def MK:Shape × List (Out × Shape):=(⟨TV,[kT]⟩,[(.exit 0,⟨TV++[(12,aN)],[kT]⟩)])
abbrev TW:List (Nat × VS):=[(0,af),(1,cD),(2,ij),(3,kS),(10,af),(11,af)]
def ML:Shape × List (Out × Shape):=(⟨TW,qt⟩,[(.exit 0,⟨TW++[(12,aN)],qt⟩)])
abbrev TY:List (Nat × VS):=[(0,af),(1,cD),(2,ij),(3,kS),(5,Tz),(6,af)]
def MM:Shape × List (Out × Shape):=(⟨TY,[m9,tx,sd,fc,kT]⟩,[(.exit 0,⟨TY++[(13,aN)],[m9,tx,sd,fc,kT]⟩)])
abbrev TZ:List (Nat × VS):=[(2,cD),(3,ij),(4,kS),(5,yP),(6,B5),(7,af),(21,cG),(22,af),(23,af)]
def MN:Shape × List (Out × Shape):=(⟨TZ,[HE,jr,.var 77 [af,af,yO,af,af,vK,aN],cO,cO,cO,cO]⟩,[(.exit 0,⟨TZ++[(24,aN)],[HE,jr,.var 77 [af,af,yO,af,af,vK,aN],cO,cO,cO,cO]⟩)])
abbrev T4:List (Nat × VS):=[(2,cD),(4,ij),(5,Md),(6,yP),(7,aN),(20,cG),(21,af),(22,af)]
def MO:Shape × List (Out × Shape):=(⟨T4,[HE,B6,cO,cO,cO,cO]⟩,[(.exit 0,⟨T4++[(23,aN)],[HE,B6,cO,cO,cO,cO]⟩)])
abbrev T6:List (Nat × VS):=[(4,cD),(6,Hw),(7,aN),(11,Md),(54,yP),(55,af),(56,af)]
def MP:Shape × List (Out × Shape):=(⟨T6,[B6,cO,cO,cO,cO,cO]⟩,[(.exit 2,⟨T6++[(57,aN)],[B6,cO,cO,cO,cO,cO]⟩)])
def MQ:Shape × List (Out × Shape):=(⟨[(0,cD),(2,kR),(3,af),(9,kS),(10,cG),(11,af),(12,af),(18,aN)],vM⟩,[(.norm,⟨[(0,cD),(2,kR),(3,af),(9,kS),(10,cG),(11,af),(12,af)],vM⟩)])
abbrev T7:List (Nat × VS):=[(0,cD),(2,kR),(3,af),(10,cG),(11,af),(12,af)]
def MR:Shape × List (Out × Shape):=(⟨T7,pn⟩,[(.exit 0,⟨T7++[(13,aN)],pn⟩)])
def MS:Shape × List (Out × Shape):=(⟨[(0,cG),(1,.fn mi [] []),(7,af),(8,af)],[]⟩,[(.ret,⟨[(4,af)],[]⟩),(.exit 0,⟨[(0,cG),(1,.fn mi [] []),(7,af),(8,af),(9,aN)],[]⟩)])
def MT:Shape × List (Out × Shape):=(⟨[(0,bE),(1,.fn lG [] []),(5,af),(6,af)],bf⟩,[(.exit 0,⟨[(0,bE),(1,.fn lG [] []),(5,af),(6,af),(19,aN)],bf⟩)])
abbrev T8:List (Nat × VS):=[(0,af),(5,bE),(8,cG),(9,af),(10,af)]
def MU:Shape × List (Out × Shape):=(⟨T8,bf⟩,[(.exit 0,⟨T8++[(11,aN)],bf⟩)])
def MV:Shape × List (Out × Shape):=(⟨[(0,bE),(1,.fn qq [] []),(5,af),(6,.one (.sub aa 0)),(7,af)],bf⟩,[(.exit 2,⟨[(0,bE),(1,.fn qq [] []),(5,af),(6,.one (.sub aa 0)),(7,af),(35,aN)],bf⟩)])
def MW:Shape × List (Out × Shape):=(⟨[(0,bE),(1,.fn qq [] []),(5,af)],bf⟩,[(.ret,⟨[(4,Hw)],yR⟩),(.exit 0,⟨[(0,bE),(1,.fn qq [] []),(5,af),(15,aN)],bf⟩)])
def MX:Shape × List (Out × Shape):=(⟨[(0,bE),(1,af),(2,af),(3,af),(4,.fn bp [] []),(10,aN),(11,aN),(12,af),(39,aN)],bf⟩,[(.norm,⟨[(0,bE),(1,af),(2,af),(3,af),(4,.fn bp [] []),(10,aN),(11,aN),(12,af)],bf⟩)])
def MY:Shape × List (Out × Shape):=(⟨[(0,bE),(1,af),(2,af),(3,af),(4,.fn bp [] []),(10,aN),(11,aN),(12,af),(13,af),(14,af),(56,aN)],bf⟩,[(.norm,⟨[(0,bE),(1,af),(2,af),(3,af),(4,.fn bp [] []),(10,aN),(11,aN),(12,af),(13,af),(14,af)],bf⟩)])
def MZ:Shape × List (Out × Shape):=(⟨[(0,bE),(1,af),(2,af),(3,af),(4,.fn bp [] []),(10,aN),(11,aN),(12,af),(13,af),(75,aN)],bf⟩,[(.ret,⟨[(0,bE),(1,af),(2,af),(3,af),(4,.fn bp [] []),(10,aN),(11,aN),(12,af),(13,af),(80,aN)],bf⟩),(.norm,⟨[(0,bE),(1,af),(2,af),(3,af),(4,.fn bp [] []),(10,aN),(11,aN),(12,af),(13,af)],bf⟩)])
def M0:Shape × List (Out × Shape):=(⟨[(0,bE),(1,af),(2,af),(3,af),(4,.fn bp [] []),(10,aN),(11,aN)],bf⟩,[(.ret,⟨[],bf⟩)])
def M1:Shape × List (Out × Shape):=(⟨[(0,cG),(1,cG),(2,.fn bp [] []),(11,cG),(12,af),(13,af)],[]⟩,[(.ret,⟨[(6,af)],[]⟩),(.exit 0,⟨[(0,cG),(1,cG),(2,.fn bp [] []),(11,cG),(12,af),(13,af),(14,aN)],[]⟩)])
def M3:Shape × List (Out × Shape):=(⟨[(0,bE),(1,af),(2,af),(3,.fn bp [] []),(8,af),(9,af)],bf⟩,[(.exit 2,⟨[(0,bE),(1,af),(2,af),(3,.fn bp [] []),(8,af),(9,af),(34,aN)],bf⟩)])
def M4:Shape × List (Out × Shape):=(⟨[(0,bE),(1,af),(2,af),(3,.fn bp [] []),(8,af)],bf⟩,[(.exit 0,⟨[(0,bE),(1,af),(2,af),(3,.fn bp [] []),(8,af),(14,aN)],bf⟩)])
def M5:Shape × List (Out × Shape):=(⟨[(0,bE),(3,.fn bp [] []),(8,af),(9,af),(10,af),(11,af)],bf⟩,[(.exit 0,⟨[(0,bE),(3,.fn bp [] []),(8,af),(9,af),(10,af),(11,af),(21,aN)],bf⟩)])
def M6:Shape × List (Out × Shape):=(⟨[(0,bE),(3,.fn bp [] []),(8,af),(9,af),(12,af)],bf⟩,[(.exit 2,⟨[(0,bE),(3,.fn bp [] []),(8,af),(9,af),(12,af),(33,aN)],bf⟩)])
def M7:Shape × List (Out × Shape):=(⟨[(0,bE),(1,af),(8,af),(9,ij),(10,fO),(11,af),(12,af),(45,aN)],HG⟩,[(.norm,⟨[(0,bE),(1,af),(8,af),(9,ij),(10,fO),(11,af),(12,af)],HG⟩)])
abbrev T9:List (Nat × VS):=[(0,bE),(1,af),(8,af),(9,ij),(10,fO),(11,af)]
def M8:Shape × List (Out × Shape):=(⟨T9,HG⟩,[(.exit 0,⟨T9++[(35,aN)],HG⟩)])
def M9:Shape × List (Out × Shape):=(⟨[(0,cG),(3,.fn bp [] []),(11,cD),(12,af),(13,af),(14,af),(36,aN)],gA⟩,[(.norm,⟨[(0,cG),(3,.fn bp [] []),(11,cD),(12,af),(13,af),(14,af)],gA⟩)])
def Na:Shape × List (Out × Shape):=(⟨[(0,cG),(3,.fn bp [] []),(10,af),(11,cD),(12,af),(13,af),(14,af),(34,aN)],gA⟩,[(.norm,⟨[(11,cD),(13,af)],gA⟩)])
abbrev Ua:List (Nat × VS):=[(0,bE),(8,af),(9,af)]
def Nb:Shape × List (Out × Shape):=(⟨Ua,bf⟩,[(.exit 0,⟨Ua++[(15,aN)],bf⟩)])
def Nc:Shape × List (Out × Shape):=(⟨[(0,bE),(1,af),(2,af),(3,.fn bp [] []),(9,af),(10,af)],bf⟩,[(.exit 2,⟨[(0,bE),(1,af),(2,af),(3,.fn bp [] []),(9,af),(10,af),(36,aN)],bf⟩)])
def Nd:Shape × List (Out × Shape):=(⟨[(0,bE),(1,af),(2,af),(3,.fn bp [] []),(9,af),(10,af),(11,af)],bf⟩,[(.exit 4,⟨[(0,bE),(1,af),(2,af),(3,.fn bp [] []),(9,af),(10,af),(11,af)],bf⟩)])
def Nf:Shape × List (Out × Shape):=(⟨[(0,bE),(1,af),(2,af),(3,.fn bp [] []),(9,af),(10,af),(65,aN)],bf⟩,[(.norm,⟨[(0,bE),(1,af),(2,af),(3,.fn bp [] []),(9,af),(10,af)],bf⟩)])
def Ng:Shape × List (Out × Shape):=(⟨[(0,bE),(1,af),(2,af),(3,.fn bp [] []),(9,af),(10,af),(12,af)],bf⟩,[(.exit 6,⟨[(0,bE),(1,af),(2,af),(3,.fn bp [] []),(9,af),(10,af),(12,af)],bf⟩)])
def Nh:Shape × List (Out × Shape):=(⟨[(0,bE),(1,af),(2,af),(3,.fn bp [] []),(9,af),(10,af)],bf⟩,[(.ret,⟨[(8,aN)],bf⟩),(.exit 0,⟨[(0,bE),(1,af),(2,af),(3,.fn bp [] []),(9,af),(10,af),(16,aN)],bf⟩)])
def Ni:Shape × List (Out × Shape):=(⟨[(0,bE),(1,af),(4,.fn bp [] []),(11,af),(12,af)],bf⟩,[(.exit 2,⟨[(0,bE),(1,af),(4,.fn bp [] []),(11,af),(12,af),(47,aN)],bf⟩)])
def Nj:Shape × List (Out × Shape):=(⟨[(0,bE),(1,af),(4,.fn bp [] []),(11,af),(12,af)],bf⟩,[(.exit 4,⟨[(0,bE),(1,af),(4,.fn bp [] []),(11,af),(12,af),(65,aN)],bf⟩)])
def Nk:Shape × List (Out × Shape):=(⟨[(0,bE),(1,af),(4,.fn bp [] []),(11,af),(12,af)],bf⟩,[(.exit 0,⟨[(0,bE),(1,af),(4,.fn bp [] []),(11,af),(12,af),(70,aN)],bf⟩)])
def Nl:Shape × List (Out × Shape):=(⟨[(0,bE),(1,af),(4,.fn bp [] []),(12,af),(13,af)],bf⟩,[(.exit 0,⟨[(0,bE),(1,af),(4,.fn bp [] []),(12,af),(13,af),(47,aN)],bf⟩)])
def Nn:Shape × List (Out × Shape):=(⟨[(0,bE),(1,af),(4,.fn bp [] []),(12,af),(13,af)],bf⟩,[(.exit 2,⟨[(0,bE),(1,af),(4,.fn bp [] []),(12,af),(13,af),(66,aN)],bf⟩)])
def No:Shape × List (Out × Shape):=(⟨[(0,bE),(1,af),(4,.fn bp [] []),(12,af),(13,af)],bf⟩,[(.exit 6,⟨[(0,bE),(1,af),(4,.fn bp [] []),(12,af),(13,af),(120,aN)],bf⟩)])
def Np:Shape × List (Out × Shape):=(⟨[(0,bE),(1,af),(4,.fn bp [] []),(12,af),(13,af)],bf⟩,[(.exit 8,⟨[(0,bE),(1,af),(4,.fn bp [] []),(12,af),(13,af),(139,aN)],bf⟩)])
def Nq:Shape × List (Out × Shape):=(⟨[(0,bE),(1,af),(4,.fn bp [] []),(12,af),(13,af)],bf⟩,[(.exit 4,⟨[(0,bE),(1,af),(4,.fn bp [] []),(12,af),(13,af),(144,aN)],bf⟩)])
def Nr:Shape × List (Out × Shape):=(⟨[(0,fO),(2,af),(4,aN)],[]⟩,[(.norm,⟨[(0,fO),(2,af)],[]⟩)])
def Ns:Shape × List (Out × Shape):=(⟨[(0,fO),(2,af),(8,aN)],[]⟩,[(.norm,⟨[(0,fO),(2,af)],[]⟩)])
def Nt:Shape × List (Out × Shape):=(⟨[(0,bE),(2,af),(3,af),(4,.fn bp [] []),(10,af),(11,af),(40,aN)],bf⟩,[(.norm,⟨[(0,bE),(2,af),(3,af),(4,.fn bp [] []),(10,af),(11,af)],bf⟩)])
def Nu:Shape × List (Out × Shape):=(⟨[(0,bE),(2,af),(3,af),(4,.fn bp [] []),(10,af)],bf⟩,[(.exit 0,⟨[(0,bE),(2,af),(3,af),(4,.fn bp [] []),(10,af),(11,af),(18,aN)],bf⟩),(.ret,⟨[(0,bE),(2,af),(3,af),(4,.fn bp [] []),(10,af),(11,af),(58,aN)],bf⟩)])
def Nw:Shape × List (Out × Shape):=(⟨[(0,cG),(1,.fn lG [] []),(7,af),(8,af)],[]⟩,[(.ret,⟨[(4,af)],[]⟩),(.exit 0,⟨[(0,cG),(1,.fn lG [] []),(7,af),(8,af),(9,aN)],[]⟩)])
def Nx:Shape × List (Out × Shape):=(⟨[(0,bE),(1,.fn pk [] []),(5,af),(6,af)],bf⟩,[(.exit 0,⟨[(0,bE),(1,.fn pk [] []),(5,af),(6,af),(19,aN)],bf⟩)])
def Ny:Shape × List (Out × Shape):=(⟨[(0,cG),(1,.fn pk [] []),(7,af),(8,af)],[]⟩,[(.ret,⟨[(4,af)],[]⟩),(.exit 0,⟨[(0,cG),(1,.fn pk [] []),(7,af),(8,af),(9,aN)],[]⟩)])
def Nz:Shape × List (Out × Shape):=(⟨[(0,bE),(1,.fn mi [] []),(5,af),(6,af)],bf⟩,[(.exit 0,⟨[(0,bE),(1,.fn mi [] []),(5,af),(6,af),(19,aN)],bf⟩)])
def NA:Shape × List (Out × Shape):=(⟨[(1,.fn qk [] [.aW 0 0 0]),(4,af),(5,fO),(6,cR),(7,af),(8,af)],gA⟩,[(.exit 2,⟨[(1,.fn qk [] [.aW 0 0 0]),(4,af),(5,fO),(6,cR),(7,af),(8,af),(14,aN)],gA⟩)])
def NB:Shape × List (Out × Shape):=(⟨[(1,.fn qk [] [.aW 0 0 0]),(6,cR),(7,af),(8,af)],gA⟩,[(.exit 0,⟨[(1,.fn qk [] [.aW 0 0 0]),(6,cR),(7,af),(8,af),(9,aN)],gA⟩)])
def NC:Shape × List (Out × Shape):=(⟨[(1,.fn qn [] [.aW 0 0 0,.aW 1 0 0,.aW 2 0 0]),(4,af),(5,fO),(6,cR),(7,af),(8,af)],tA⟩,[(.exit 2,⟨[(1,.fn qn [] [.aW 0 0 0,.aW 1 0 0,.aW 2 0 0]),(4,af),(5,fO),(6,cR),(7,af),(8,af),(14,aN)],tA⟩)])
def ND:Shape × List (Out × Shape):=(⟨[(1,.fn qn [] [.aW 0 0 0,.aW 1 0 0,.aW 2 0 0]),(6,cR),(7,af),(8,af)],tA⟩,[(.exit 0,⟨[(1,.fn qn [] [.aW 0 0 0,.aW 1 0 0,.aW 2 0 0]),(6,cR),(7,af),(8,af),(9,aN)],tA⟩)])
def NF:Shape × List (Out × Shape):=(⟨[(1,.fn qm [] [.aW 0 0 0,.aW 1 0 0,.aW 2 0 0]),(4,af),(5,fO),(6,cR),(7,af),(8,af)],qt⟩,[(.exit 2,⟨[(1,.fn qm [] [.aW 0 0 0,.aW 1 0 0,.aW 2 0 0]),(4,af),(5,fO),(6,cR),(7,af),(8,af),(14,aN)],qt⟩)])
def NG:Shape × List (Out × Shape):=(⟨[(1,.fn qm [] [.aW 0 0 0,.aW 1 0 0,.aW 2 0 0]),(6,cR),(7,af),(8,af)],qt⟩,[(.exit 0,⟨[(1,.fn qm [] [.aW 0 0 0,.aW 1 0 0,.aW 2 0 0]),(6,cR),(7,af),(8,af),(9,aN)],qt⟩)])
def NH:Shape × List (Out × Shape):=(⟨[(1,.fn ql [] [.aW 0 0 0,.aW 1 0 0]),(4,af),(5,fO),(6,cR),(7,af),(8,af)],od⟩,[(.exit 2,⟨[(1,.fn ql [] [.aW 0 0 0,.aW 1 0 0]),(4,af),(5,fO),(6,cR),(7,af),(8,af),(14,aN)],od⟩)])
def NI:Shape × List (Out × Shape):=(⟨[(1,.fn ql [] [.aW 0 0 0,.aW 1 0 0]),(6,cR),(7,af),(8,af)],od⟩,[(.exit 0,⟨[(1,.fn ql [] [.aW 0 0 0,.aW 1 0 0]),(6,cR),(7,af),(8,af),(9,aN)],od⟩)])
def NJ:Shape × List (Out × Shape):=(⟨[(1,.fn qh [] [.aW 0 0 0,.aW 1 0 0]),(4,af),(5,fO),(6,cR),(7,af),(8,af)],od⟩,[(.exit 2,⟨[(1,.fn qh [] [.aW 0 0 0,.aW 1 0 0]),(4,af),(5,fO),(6,cR),(7,af),(8,af),(14,aN)],od⟩)])
def NK:Shape × List (Out × Shape):=(⟨[(1,.fn qh [] [.aW 0 0 0,.aW 1 0 0]),(6,cR),(7,af),(8,af)],od⟩,[(.exit 0,⟨[(1,.fn qh [] [.aW 0 0 0,.aW 1 0 0]),(6,cR),(7,af),(8,af),(9,aN)],od⟩)])
def NL:Shape × List (Out × Shape):=(⟨[(1,.fn qi [] [.aW 0 0 0,.aW 1 0 0,.aW 2 0 0,.aW 3 0 0]),(4,af),(5,fO),(6,cR),(7,af),(8,af)],tB⟩,[(.exit 2,⟨[(1,.fn qi [] [.aW 0 0 0,.aW 1 0 0,.aW 2 0 0,.aW 3 0 0]),(4,af),(5,fO),(6,cR),(7,af),(8,af),(14,aN)],tB⟩)])
def NM:Shape × List (Out × Shape):=(⟨[(1,.fn qi [] [.aW 0 0 0,.aW 1 0 0,.aW 2 0 0,.aW 3 0 0]),(6,cR),(7,af),(8,af)],tB⟩,[(.exit 0,⟨[(1,.fn qi [] [.aW 0 0 0,.aW 1 0 0,.aW 2 0 0,.aW 3 0 0]),(6,cR),(7,af),(8,af),(9,aN)],tB⟩)])
def NN:Shape × List (Out × Shape):=(⟨[(1,.fn qj [] [.aW 0 0 0,.aW 1 0 0,.aW 2 0 0]),(4,af),(5,fO),(6,cR),(7,af),(8,af)],yS⟩,[(.exit 2,⟨[(1,.fn qj [] [.aW 0 0 0,.aW 1 0 0,.aW 2 0 0]),(4,af),(5,fO),(6,cR),(7,af),(8,af),(14,aN)],yS⟩)])
def NO:Shape × List (Out × Shape):=(⟨[(1,.fn qj [] [.aW 0 0 0,.aW 1 0 0,.aW 2 0 0]),(6,cR),(7,af),(8,af)],yS⟩,[(.exit 0,⟨[(1,.fn qj [] [.aW 0 0 0,.aW 1 0 0,.aW 2 0 0]),(6,cR),(7,af),(8,af),(9,aN)],yS⟩)])
def NP:Shape × List (Out × Shape):=(⟨[(0,cG),(1,.fn kP [] []),(7,af),(8,af)],[]⟩,[(.ret,⟨[(4,af)],[]⟩),(.exit 0,⟨[(0,cG),(1,.fn kP [] []),(7,af),(8,af),(9,aN)],[]⟩)])
def adS:List (Nat × FuncId):=[(3,L3),
 (5,GS),
 (6,GU),
 (7,GV),
 (8,qf),
 (9,BO),
 (10,GW),
 (11,GX),
 (12,GY),
 (15,yx),
 (16,GZ),
 (17,yz),
 (18,vA),
 (19,G0),
 (20,yA),
 (21,G1),
 (22,G2),
 (23,G3),
 (24,yB),
 (25,G4),
 (26,yC),
 (27,G5),
 (28,pg),
 (29,vB),
 (30,mY),
 (31,yD),
 (33,G6),
 (34,G7),
 (35,yE),
 (36,BP),
 (37,vC),
 (38,yF),
 (39,kP),
 (40,G8),
 (41,G9),
 (42,BQ),
 (43,BR),
 (44,mZ),
 (45,qg),
 (46,Ha),
 (47,ph),
 (48,yG),
 (49,kQ),
 (50,tt),
 (51,Hb),
 (52,tu),
 (53,qh),
 (54,vD),
 (55,lG),
 (56,qi),
 (57,qj),
 (58,qk),
 (59,ql),
 (60,qm),
 (61,qn),
 (62,pj),
 (63,yH),
 (64,yI),
 (65,Hc),
 (66,Hd),
 (67,He),
 (68,vE),
 (69,qo),
 (70,tv),
 (71,sc),
 (72,mi),
 (73,BT),
 (74,tw),
 (75,yJ),
 (76,yK),
 (77,m7),
 (78,vF),
 (79,qp),
 (80,pk),
 (82,Hf),
 (83,Hg),
 (84,BU),
 (85,bp),
 (86,Hh),
 (87,qq),
 (89,gK),
 (90,BV),
 (91,yL),
 (92,Hi),
 (93,BW),
 (94,BX),
 (95,Hj),
 (96,BY),
 (97,Hk),
 (98,Hl),
 (99,vG),
 (100,oc),
 (102,Hm),
 (103,BZ),
 (104,B0),
 (105,Hn),
 (106,Ho),
 (107,yM),
 (108,B1),
 (109,yN),
 (131,tu),
 (132,sc),
 (133,yJ),
 (134,sc),
 (135,yJ),
 (136,mZ),
 (137,vB),
 (138,mZ),
 (139,mZ),
 (140,mZ),
 (141,mZ),
 (142,mZ),
 (143,mZ),
 (145,tu),
 (146,sc)]
def adT:List (Nat × Shape):=[(3,⟨[(0,mj),(1,af),(2,kR)],[]⟩),
 (5,⟨qu,[]⟩),
 (6,⟨js,[]⟩),
 (7,⟨[(0,kR),(1,af)],[]⟩),
 (8,⟨[],[]⟩),
 (9,⟨qu,[]⟩),
 (10,⟨[(0,.agg [.int .i64,.int .i64,.list gM,.list cZ])],[]⟩),
 (11,⟨[(0,.agg [.int .i64,.int .i64,.list gM,.list cZ]),(1,kR)],[]⟩),
 (12,⟨[(0,mj),(1,kR)],[]⟩),
 (15,⟨gB,[]⟩),
 (16,⟨js,[]⟩),
 (17,⟨qu,[]⟩),
 (18,⟨qu,[]⟩),
 (19,⟨[],[]⟩),
 (20,⟨qu,[]⟩),
 (21,⟨qu,[]⟩),
 (22,⟨js,[]⟩),
 (23,⟨yT,B7⟩),
 (24,⟨yT,B7⟩),
 (25,⟨yT,B7⟩),
 (26,⟨js,[]⟩),
 (27,⟨[(0,kR),(1,af)],[]⟩),
 (28,⟨[(0,Mf)],[]⟩),
 (29,⟨[(0,Hz),(1,af)],[kT]⟩),
 (30,⟨HI,[]⟩),
 (31,⟨[(0,cR),(1,af)],[]⟩),
 (33,⟨qu,[]⟩),
 (34,⟨js,[]⟩),
 (35,⟨qu,[]⟩),
 (36,⟨[(0,cD),(1,mj)],B7⟩),
 (37,⟨js,[]⟩),
 (38,⟨js,[]⟩),
 (39,⟨js,[]⟩),
 (40,⟨[(0,Mf),(1,cG),(2,cR)],[]⟩),
 (41,⟨HI,[]⟩),
 (42,⟨HI,[]⟩),
 (43,⟨HI,[]⟩),
 (44,⟨[(0,cR),(1,.fn qg [] [.aW 0 0 0,.aW 1 0 0,.aW 2 0 0])],qs⟩),
 (45,⟨HJ,qs⟩),
 (46,⟨[(0,HB)],[]⟩),
 (47,⟨HK,[]⟩),
 (48,⟨[(0,mj),(1,af),(2,cD)],gA⟩),
 (49,⟨[(0,af),(1,cG)],[]⟩),
 (50,⟨[(0,cD),(1,mj)],B8⟩),
 (51,⟨yT,B8⟩),
 (52,⟨[(0,cG),(1,.fn mi [] [])],[]⟩),
 (53,⟨[(0,af),(1,cD),(2,ij)],HH⟩),
 (54,⟨[(0,Hz),(1,cR),(2,af)],[kT]⟩),
 (55,⟨js,[]⟩),
 (56,⟨[(0,af),(1,cD),(2,ij),(3,kS),(4,Hy)],tB⟩),
 (57,⟨HJ,[HD,.var 58 [.one (.whole aI 3)],vL,kT,fc]⟩),
 (58,⟨[(0,af),(1,cD)],gA⟩),
 (59,⟨[(0,af),(1,cD),(2,ij)],HH⟩),
 (60,⟨HJ,qt⟩),
 (61,⟨HJ,tA⟩),
 (62,⟨B9,[]⟩),
 (63,⟨HK,[]⟩),
 (64,⟨HK,[]⟩),
 (65,⟨[(0,cG)],[]⟩),
 (66,⟨[(0,cG)],[]⟩),
 (67,⟨[(0,cG)],[]⟩),
 (68,⟨[],[]⟩),
 (69,⟨[(0,cD),(1,.one (.int .u8))],B8⟩),
 (70,⟨[(0,cD),(1,cG),(2,kR),(3,af)],B8⟩),
 (71,⟨[(0,cG),(1,.fn mi [] [])],[]⟩),
 (72,⟨js,[]⟩),
 (73,⟨HK,[]⟩),
 (74,⟨[],[]⟩),
 (75,⟨[(0,bE),(1,.fn lG [] [])],bf⟩),
 (76,⟨[(0,af),(1,cG)],[]⟩),
 (77,⟨[(0,af),(1,cG),(2,mj)],[]⟩),
 (78,⟨vN,bf⟩),
 (79,⟨[],[]⟩),
 (80,⟨js,[]⟩),
 (82,⟨[(0,cD),(1,kR)],B8⟩),
 (83,⟨gB,[]⟩),
 (84,⟨[(0,bE),(1,.fn bp [] [])],bf⟩),
 (85,⟨[(0,mj),(1,mj)],[]⟩),
 (86,⟨[(0,bE),(1,.fn qq [] [])],bf⟩),
 (87,⟨[(0,mj),(1,mj)],[]⟩),
 (89,⟨[(0,bE),(1,af),(2,af),(3,af),(4,.fn bp [] [])],bf⟩),
 (90,⟨B9,[]⟩),
 (91,⟨HL,[]⟩),
 (92,⟨[(0,cG),(1,cG),(2,.fn bp [] [])],[]⟩),
 (93,⟨[(0,bE),(1,af),(2,af),(3,.fn bp [] [])],bf⟩),
 (94,⟨[(0,bE),(1,af),(2,af),(3,.fn bp [] [])],bf⟩),
 (95,⟨[(0,bE),(1,af),(2,af),(3,.fn bp [] [])],bf⟩),
 (96,⟨[(0,cG),(1,af),(2,af),(3,.fn bp [] [])],[]⟩),
 (97,⟨[(0,bE),(1,af),(2,af),(3,.fn bp [] [])],bf⟩),
 (98,⟨[(0,bE),(1,af),(2,af),(3,.fn bp [] [])],bf⟩),
 (99,⟨[(0,bE),(1,af),(2,af),(3,af),(4,.fn bp [] [])],bf⟩),
 (100,⟨[(0,bE),(1,af),(2,af),(3,af),(4,.fn bp [] [])],bf⟩),
 (102,⟨B9,[]⟩),
 (103,⟨gB,[]⟩),
 (104,⟨[(0,bE),(1,af),(2,af),(3,af),(4,.fn bp [] [])],bf⟩),
 (105,⟨gB,[]⟩),
 (106,⟨yT,[Mg]⟩),
 (107,⟨[(0,cG),(1,af),(2,cD),(3,.fn bp [] [])],gA⟩),
 (108,⟨[(0,cG),(1,af),(2,af),(3,af),(4,cD),(5,.fn bp [] [])],gA⟩),
 (109,⟨[(0,cG),(1,af),(2,af),(3,cD),(4,.fn bp [] [])],gA⟩),
 (131,⟨[(0,cG),(1,.fn lG [] [])],[]⟩),
 (132,⟨[(0,cG),(1,.fn lG [] [])],[]⟩),
 (133,⟨[(0,bE),(1,.fn pk [] [])],bf⟩),
 (134,⟨[(0,cG),(1,.fn pk [] [])],[]⟩),
 (135,⟨[(0,bE),(1,.fn mi [] [])],bf⟩),
 (136,⟨[(0,cR),(1,.fn qk [] [.aW 0 0 0])],gA⟩),
 (137,⟨[(0,.one (.row aI 0 [0])),(1,af)],[fc]⟩),
 (138,⟨[(0,cR),(1,.fn qn [] [.aW 0 0 0,.aW 1 0 0,.aW 2 0 0])],tA⟩),
 (139,⟨[(0,cR),(1,.fn qm [] [.aW 0 0 0,.aW 1 0 0,.aW 2 0 0])],qt⟩),
 (140,⟨[(0,cR),(1,.fn ql [] [.aW 0 0 0,.aW 1 0 0])],HH⟩),
 (141,⟨[(0,cR),(1,.fn qh [] [.aW 0 0 0,.aW 1 0 0])],HH⟩),
 (142,⟨[(0,cR),(1,.fn qi [] [.aW 0 0 0,.aW 1 0 0,.aW 2 0 0,.aW 3 0 0])],tB⟩),
 (143,⟨[(0,cR),(1,.fn qj [] [.aW 0 0 0,.aW 1 0 0,.aW 2 0 0])],[HD,.var 58 [.one (.whole aI 3)],vL,kT,fc]⟩),
 (145,⟨[(0,cG),(1,.fn kP [] [])],[]⟩),
 (146,⟨[(0,cG),(1,.fn kP [] [])],[]⟩)]
def adU:List (Nat × Shape):=[(3,⟨fA,[]⟩),
 (5,⟨gB,[]⟩),
 (6,⟨gB,[]⟩),
 (7,⟨fA,[]⟩),
 (8,⟨fA,[]⟩),
 (9,⟨[(0,.agg [.int .i64,.int .i64,.whole gM 0,.whole cZ 1]),(1,af)],[tz,na]⟩),
 (10,⟨fA,[]⟩),
 (11,⟨fA,[]⟩),
 (12,⟨fA,[]⟩),
 (15,⟨fA,[]⟩),
 (16,⟨fA,[]⟩),
 (17,⟨fA,[]⟩),
 (18,⟨HL,[]⟩),
 (19,⟨[(0,HC)],bf⟩),
 (20,⟨gB,[]⟩),
 (21,⟨yT,B7⟩),
 (22,⟨js,[]⟩),
 (23,⟨fA,HF⟩),
 (24,⟨gB,HF⟩),
 (25,⟨[(0,.agg [.int .i64,.int .i64,.whole gM 4,.whole cZ 5])],[.var 68 [af,vK,Mc,af,vJ],.dead,.dead,.map ei,tz,na,cO]⟩),
 (26,⟨fA,[]⟩),
 (27,⟨fA,[]⟩),
 (28,⟨[(0,Hz)],[kT]⟩),
 (29,⟨[],[kT]⟩),
 (30,⟨Cc,[fc]⟩),
 (31,⟨fA,[]⟩),
 (33,⟨qu,[]⟩),
 (34,⟨fA,[]⟩),
 (35,⟨fA,[]⟩),
 (36,⟨gB,HF⟩),
 (37,⟨js,[]⟩),
 (38,⟨[(0,kR)],[]⟩),
 (39,⟨fA,[]⟩),
 (40,⟨Cc,[fc]⟩),
 (41,⟨Cc,[fc]⟩),
 (42,⟨Cc,[fc]⟩),
 (43,⟨Cc,[fc]⟩),
 (44,⟨[],qs⟩),
 (45,⟨[],qs⟩),
 (46,⟨qu,[]⟩),
 (47,⟨[(0,HB)],[]⟩),
 (48,⟨fA,gA⟩),
 (49,⟨js,[]⟩),
 (50,⟨[],pn⟩),
 (51,⟨[(0,kR)],[.var 87 [vI,vI],.dead]⟩),
 (52,⟨fA,[]⟩),
 (53,⟨[],od⟩),
 (54,⟨[],[kT]⟩),
 (55,⟨fA,[]⟩),
 (56,⟨[],tB⟩),
 (57,⟨[],yS⟩),
 (58,⟨[],gA⟩),
 (59,⟨[],od⟩),
 (60,⟨[],qt⟩),
 (61,⟨[],tA⟩),
 (62,⟨gB,[]⟩),
 (63,⟨[(0,HB)],[]⟩),
 (64,⟨[(0,HB)],[]⟩),
 (65,⟨js,[]⟩),
 (66,⟨js,[]⟩),
 (67,⟨js,[]⟩),
 (68,⟨[(0,HC)],bf⟩),
 (69,⟨[(0,vI)],pn⟩),
 (70,⟨[],pn⟩),
 (71,⟨gB,[]⟩),
 (72,⟨fA,[]⟩),
 (73,⟨js,[]⟩),
 (74,⟨[(0,HC)],bf⟩),
 (75,⟨Cd,yR⟩),
 (76,⟨vN,bf⟩),
 (77,⟨js,[]⟩),
 (78,⟨Cd,yR⟩),
 (79,⟨[(0,HC)],bf⟩),
 (80,⟨fA,[]⟩),
 (82,⟨[(0,af),(1,vI)],pn⟩),
 (83,⟨gB,[]⟩),
 (84,⟨[],bf⟩),
 (85,⟨gB,[]⟩),
 (86,⟨Cd,yR⟩),
 (87,⟨fA,[]⟩),
 (89,⟨[],bf⟩),
 (90,⟨gB,[]⟩),
 (91,⟨gB,[]⟩),
 (92,⟨gB,[]⟩),
 (93,⟨[],bf⟩),
 (94,⟨[],bf⟩),
 (95,⟨[],bf⟩),
 (96,⟨HL,[]⟩),
 (97,⟨[],bf⟩),
 (98,⟨fA,bf⟩),
 (99,⟨gB,bf⟩),
 (100,⟨[(0,af),(1,aN)],bf⟩),
 (102,⟨gB,[]⟩),
 (103,⟨fA,[]⟩),
 (104,⟨[],bf⟩),
 (105,⟨B9,[]⟩),
 (106,⟨B9,[Mg]⟩),
 (107,⟨gB,gA⟩),
 (108,⟨gB,gA⟩),
 (109,⟨HL,gA⟩),
 (131,⟨fA,[]⟩),
 (132,⟨gB,[]⟩),
 (133,⟨Cd,yR⟩),
 (134,⟨gB,[]⟩),
 (135,⟨Cd,yR⟩),
 (136,⟨[],gA⟩),
 (137,⟨[],[fc]⟩),
 (138,⟨[],tA⟩),
 (139,⟨[],qt⟩),
 (140,⟨[],od⟩),
 (141,⟨[],od⟩),
 (142,⟨[],tB⟩),
 (143,⟨[],yS⟩),
 (145,⟨fA,[]⟩),
 (146,⟨gB,[]⟩)]
def adV:List (Nat × Shape):=[(75,⟨vN,bf⟩),
 (78,⟨vN,bf⟩),
 (86,⟨vN,bf⟩),
 (133,⟨vN,bf⟩),
 (135,⟨vN,bf⟩)]
def adW:List (Nat × List (Nat × List Nat)):=[(3,[(0,[1,2,3]),(1,[1,2,3,32]),(2,[6]),(3,[2,3,7,8]),(4,[2,3,7,8,41]),(5,[6]),(6,[6])]),
 (5,[(0,[1,2]),(1,[1,2,5]),(2,[4]),(3,[1,2,9]),(4,[4]),(5,[13]),(6,[4]),(7,[4])]),
 (6,[(0,[1]),(1,[3]),(2,[2])]),
 (7,[(0,[0,1]),(1,[0,1,13]),(2,[4]),(3,[0,1,5]),(4,[0,1,5,17]),(5,[0,1,5]),(6,[0,1,5,32]),(7,[4]),(8,[4])]),
 (8,[(0,[]),(1,[1,2]),(2,[0])]),
 (9,[(0,[1,2,4]),(1,[1,2,4,6]),(2,[1,2,4,6,13]),(3,[4,5]),(4,[4,7]),(5,[4,7,22]),(6,[4,7,8]),(7,[4,7,8,26]),(8,[4,5]),(9,[4,5])]),
 (10,[(0,[1]),(1,[1,24]),(2,[2]),(3,[1,26,27,28]),(4,[1,26,27,28,29]),(5,[1,4,26,27,28]),(6,[1,4,26,27,28,36]),(7,[2]),(8,[1,26,27,28,37,38,39]),(9,[1,26,27,28,37,38,39,40]),(10,[1,6,26,27,28,37,38,39]),(11,[1,26,27,28,37,38,39,51]),(12,[2]),(13,[1,26,27,28,37,38,39]),(14,[1,26,27,28]),(15,[2])]),
 (11,[(0,[1,2]),(1,[1,2,5]),(2,[1,2,5,6]),(3,[1,2,5,6,10]),(4,[1,2,5,6]),(5,[1,2,5,6]),(6,[4])]),
 (12,[(0,[1,2]),(1,[1,2,14]),(2,[4]),(3,[1,2,5]),(4,[1,2,5,6]),(5,[1,2,5,6]),(6,[4])]),
 (15,[(0,[0]),(1,[2])]),
 (16,[(0,[1]),(1,[3,4]),(2,[2])]),
 (17,[(0,[1,2]),(1,[1,2,5]),(2,[1,2,5,6]),(3,[1,2,5,6,20]),(4,[1,2,5,6]),(5,[1,2,5,6,20,26]),(6,[1,2,5,6,20,26]),(7,[1,2,5,6,20,26]),(8,[1,2,5,6]),(9,[1,2,5,6,20,32]),(10,[1,2,5,6,32]),(11,[1,2,5,6]),(12,[1,2,5,6,39]),(13,[1,2,5,6]),(14,[1,2,5,6]),(15,[1,2,5,6,7]),(16,[1,2,5,6,7,63]),(17,[1,2,5,6,7]),(18,[1,2,5,6,7]),(19,[4])]),
 (18,[(0,[1,2]),(1,[1,2,6,7]),(2,[1,2,6,7,8]),(3,[1,2,6,7,8,20]),(4,[1,2,6,7,8]),(5,[1,2,6,7,8,9,10]),(6,[1,2,6,7,8]),(7,[4,5])]),
 (19,[(0,[0]),(1,[0,1,2]),(2,[0])]),
 (20,[(0,[1,2]),(1,[1,2,10]),(2,[4]),(3,[1,2,13]),(4,[4]),(5,[17]),(6,[4]),(7,[4])]),
 (21,[(0,[1,2]),(1,[1,2,5]),(2,[2,5]),(3,[5]),(4,[4])]),
 (22,[(0,[1,2]),(1,[1,2,5]),(2,[2]),(3,[2])]),
 (23,[(0,[0]),(1,[2])]),
 (24,[(0,[0]),(1,[0,3]),(2,[0,3,16,17]),(3,[0,3,16,17,18]),(4,[0,3,4,16,17]),(5,[0,3,4,5,6,16,17]),(6,[0,3,4,5,6,16,17,38]),(7,[2]),(8,[0,3,4,5,7,8,16,17]),(9,[0,3,4,5,7,16,17,51]),(10,[0,3,4,5,16,17,58]),(11,[2]),(12,[0,3,4,7,16,17]),(13,[0,3,16,17]),(14,[0,3,16,17]),(15,[0]),(16,[]),(17,[2])]),
 (25,[(0,[0,2]),(1,[0,2,3]),(2,[2,3,21,22,23]),(3,[2,3,21,22,23,24]),(4,[2,3,5,21,22,23]),(5,[2,3,21,22,23]),(6,[2,3,21,22,23]),(7,[2])]),
 (26,[(0,[1]),(1,[2])]),
 (27,[(0,[0,1]),(1,[0,1,16]),(2,[4]),(3,[0,1,18,19]),(4,[0,1,18,19,20]),(5,[0,1,5,18,19]),(6,[0,1,18,19,34]),(7,[4]),(8,[0,1,18,19]),(9,[4])]),
 (28,[(0,[1]),(1,[2])]),
 (29,[(0,[])]),
 (30,[(0,[2,3,4]),(1,[2,3,4,9]),(2,[2,3,4,9,10]),(3,[6]),(4,[2,3,4,9,17]),(5,[6]),(6,[2,3,4,9,26]),(7,[2,3,4,9,26]),(8,[6]),(9,[2,3,4,33]),(10,[6]),(11,[2,3,4,7]),(12,[7]),(13,[6])]),
 (31,[(0,[0,1]),(1,[4])]),
 (33,[(0,[1,2,4]),(1,[4,5])]),
 (34,[(0,[1]),(1,[1,3]),(2,[2])]),
 (35,[(0,[1,2]),(1,[1,2,9]),(2,[4]),(3,[1,2,27]),(4,[4]),(5,[1,2,29]),(6,[4]),(7,[1,2,29,30]),(8,[1,2,29,30]),(9,[4]),(10,[1,2,29,37]),(11,[1,2,29,37]),(12,[1,2,29,37]),(13,[1,2,44]),(14,[4]),(15,[1,2,29,45]),(16,[1,2,45]),(17,[1,2,51]),(18,[4]),(19,[1,53,54,55]),(20,[1,53,54,55,56]),(21,[1,6,53,54,55]),(22,[1,53,54,55,62]),(23,[4]),(24,[1,53,54,55]),(25,[4])]),
 (36,[(0,[0,3]),(1,[0,3,5]),(2,[0,3,5]),(3,[5]),(4,[4])]),
 (37,[(0,[1,2]),(1,[1,2,9]),(2,[2]),(3,[1,2,3]),(4,[1,2,3,20,21,22]),(5,[1,2,3,20,21,22,23]),(6,[1,2,3,4,5,20,21,22]),(7,[1,2,3,20,21,22]),(8,[1,2,3,20,21,22]),(9,[2])]),
 (38,[(0,[1]),(1,[1,6]),(2,[2]),(3,[1,3]),(4,[3]),(5,[2])]),
 (39,[(0,[1]),(1,[1,6]),(2,[1,6,7]),(3,[1,6,7]),(4,[2]),(5,[1,6,10]),(6,[2]),(7,[1,6,15]),(8,[1,6,15]),(9,[19,20,21]),(10,[19,20,21,22]),(11,[4,19,20,21]),(12,[19,20,21,27]),(13,[2]),(14,[19,20,21]),(15,[2]),(16,[1,29]),(17,[2]),(18,[2])]),
 (40,[(0,[1,2,3]),(1,[1,2,3,7]),(2,[2,3,7,20,21,22]),(3,[2,3,7,20,21,22,23]),(4,[2,3,7,9,20,21,22]),(5,[2,3,7,9,10,20,21,22]),(6,[2,3,7,9,10,20,21,22]),(7,[2,3,7,9,11,20,21,22]),(8,[2,3,7,11,12,20,21,22]),(9,[2,3,7,20,21,22]),(10,[2,3,7,20,21,22]),(11,[6])]),
 (41,[(0,[2,3,4]),(1,[2,3,4,7,8]),(2,[3,4,7,8]),(3,[3,4,7,8,9]),(4,[3,4,7,8,9,28]),(5,[3,4,7,8,9]),(6,[3,4,7,8,9]),(7,[3,8,10]),(8,[3,8,10,11]),(9,[3,8,10,11,12]),(10,[3,8,10,11,12,48]),(11,[3,8,10,11,12]),(12,[3,8,10,11,12,13]),(13,[3,8,10,11,12,13]),(14,[3,8,10,11,12,13]),(15,[3,8,10,11,12]),(16,[6])]),
 (42,[(0,[2,3,4]),(1,[2,3,4,7]),(2,[2,3,4,7,20,21,22]),(3,[2,3,4,7,20,21,22,23]),(4,[2,3,4,7,9,20,21,22]),(5,[2,3,4,7,10,20,21,22]),(6,[2,3,4,7,20,21,22]),(7,[2,3,4,7,20,21,22]),(8,[6])]),
 (43,[(0,[2,3,4]),(1,[2,3,7]),(2,[2,3,7,8]),(3,[7]),(4,[6])]),
 (44,[(0,[1,6,7,8]),(1,[1,6,7,8,9]),(2,[1,4,5,6,7,8]),(3,[1,4,5,6,7,8,14]),(4,[1,4,5,6,7,8]),(5,[1,4,5,6,7,8]),(6,[1,6,7,8])]),
 (45,[(0,[0,1,2,3]),(1,[0,1,2,3,10]),(2,[]),(3,[0,2,20]),(4,[])]),
 (46,[(0,[1,2]),(1,[1,2,7]),(2,[2,3]),(3,[2,3])]),
 (47,[(0,[2,3,4]),(1,[2,3,4,5,6]),(2,[2,3,4,5,6,12]),(3,[2,3,4,5,6,12,13]),(4,[4]),(5,[2,3,4,5,6,12,18]),(6,[3,4,5,6,24]),(7,[3,4,5]),(8,[4]),(9,[2,3,4,5,12,31]),(10,[2,3,4,5,12,31]),(11,[2,3,4,5,12,31]),(12,[4]),(13,[2,3,4,5,12,38]),(14,[4,7]),(15,[4,7,8]),(16,[4]),(17,[2,3,4,5,57]),(18,[4]),(19,[4])]),
 (48,[(0,[1,2,3]),(1,[1,2,3,16]),(2,[6]),(3,[1,2,3]),(4,[1,2,23,24,25]),(5,[1,2,23,24,25,26]),(6,[1,2,8,23,24,25]),(7,[1,2,23,24,25,34]),(8,[6]),(9,[1,2,23,24,25]),(10,[6])]),
 (49,[(0,[0,1,4]),(1,[0,1,4,6]),(2,[0,1,4,6,7]),(3,[4]),(4,[0,1,4,6,11]),(5,[4]),(6,[0,1,4,15]),(7,[4]),(8,[0,1,4,21]),(9,[4]),(10,[0,4,5]),(11,[4,5,26]),(12,[4,5,26,27]),(13,[4,5,37]),(14,[4]),(15,[4]),(16,[4,5,45]),(17,[4,5,47]),(18,[4]),(19,[4,5,57]),(20,[4]),(21,[4]),(22,[4])]),
 (50,[(0,[0,3]),(1,[0,3,5]),(2,[0,3,5,6]),(3,[]),(4,[0,3,5,10]),(5,[]),(6,[0,3,5,14]),(7,[]),(8,[0,3,5,22]),(9,[]),(10,[0,3,5,28]),(11,[]),(12,[0,3,5,34]),(13,[]),(14,[0,3,5,40]),(15,[0,3]),(16,[]),(17,[0,3,48]),(18,[0]),(19,[])]),
 (51,[(0,[0]),(1,[2])]),
 (52,[(0,[0,1]),(1,[4])]),
 (53,[(0,[])]),
 (54,[(0,[0,1,6]),(1,[0,1,6,12]),(2,[0,1,6]),(3,[0,1,6])]),
 (55,[(0,[1]),(1,[2])]),
 (56,[(0,[0,2,3,4,6]),(1,[0,2,6]),(2,[])]),
 (57,[(0,[0,2,3,12]),(1,[])]),
 (58,[(0,[])]),
 (59,[(0,[0,1,2,7]),(1,[])]),
 (60,[(0,[0,1,2,3,10,11]),(1,[0,1,2,3,10,11,12]),(2,[0,1,2,3,5,10,11]),(3,[0,1,2,3,5,10,11,16]),(4,[0,1,2,3,10,11]),(5,[0,1,2,3,10,11]),(6,[0,1,2,3,10,11])]),
 (61,[(0,[0,1,2,3,5]),(1,[0,1,2,3,5,6]),(2,[0,1,2,3,5,6,13]),(3,[0,1,2,3,5,6]),(4,[0,1,2,3,5,6]),(5,[0,1,2,3,5]),(6,[0,3,5]),(7,[])]),
 (62,[(0,[0]),(1,[0,4]),(2,[2]),(3,[2])]),
 (63,[(0,[2,3,4]),(1,[2,3,4,5,6]),(2,[2,3,4,5,6,7]),(3,[2,3,4,5,6,7,21,22,23]),(4,[2,3,4,5,6,7,21,22,23,24]),(5,[2,3,4,5,6,7,8,9,21,22,23]),(6,[2,3,4,5,6,7,8,10,21,22,23]),(7,[2,3,4,5,6,7,10,21,22,23]),(8,[2,3,4,5,6,7,21,22,23,42]),(9,[2,3,4,5,6,7,21,22,23]),(10,[2,3,4,5,6,7,21,22,23]),(11,[3,4,7,11]),(12,[3,4,7,11,56]),(13,[3,4,7,11,56,57]),(14,[4,11]),(15,[3,4,7,11,56,62]),(16,[4,11]),(17,[4,7,11,70]),(18,[4,11]),(19,[4])]),
 (64,[(0,[2,3,4]),(1,[2,3,4,5]),(2,[2,3,4,5,6]),(3,[2,3,4,5,6,7]),(4,[2,4,5,6,7,20,21,22]),(5,[2,4,5,6,7,20,21,22,23]),(6,[2,4,5,6,7,8,9,20,21,22]),(7,[2,4,5,6,7,8,9,20,21,22,28]),(8,[2,4,5,6,7,20,21,22]),(9,[2,4,5,6,8,10,20,21,22]),(10,[2,4,5,6,7,20,21,22]),(11,[2,4,5,6,7,20,21,22]),(12,[4,5,6,7,11]),(13,[4,6,7,11,54,55,56]),(14,[4,6,7,11,54,55,56,57]),(15,[4,6,7,11,12,13,54,55,56]),(16,[4,6,7,11,12,13,54,55,56,63]),(17,[4,6,7,11,54,55,56]),(18,[4,6,7,11,12,14,54,55,56]),(19,[4,6,7,11,54,55,56]),(20,[4,6,7,11,54,55,56]),(21,[4])]),
 (65,[(0,[0,2]),(1,[0,2,5]),(2,[2]),(3,[2,3]),(4,[2])]),
 (66,[(0,[0,2]),(1,[0,2,5]),(2,[2]),(3,[2,3]),(4,[2])]),
 (67,[(0,[0,2]),(1,[0,2,5]),(2,[2]),(3,[2,3]),(4,[2])]),
 (68,[(0,[0]),(1,[0])]),
 (69,[(0,[0,1]),(1,[0,1]),(2,[]),(3,[4])]),
 (70,[(0,[0,2,3,10,11,12]),(1,[0,2,3,10,11,12,13]),(2,[0,2,3,8,9,10,11,12]),(3,[0,2,3,9,10,11,12,18]),(4,[0,2,3,9,10,11,12]),(5,[0,2,3,9,10,11,12,26]),(6,[0,2,3,10,11,12]),(7,[0,2,3,9,10,11,12]),(8,[0,2,3,10,11,12]),(9,[0,2,3,10,11,12]),(10,[0,2,3,10,11,12])]),
 (71,[(0,[0,1]),(1,[0,1,7,8]),(2,[0,1,7,8,9]),(3,[0,1,5,7,8]),(4,[0,1,5,7,8,16]),(5,[4]),(6,[0,1,7,8]),(7,[4])]),
 (72,[(0,[1]),(1,[2])]),
 (73,[(0,[2,3,4]),(1,[3,4,6]),(2,[4]),(3,[4])]),
 (74,[(0,[0]),(1,[0])]),
 (75,[(0,[0,1]),(1,[0,1,5]),(2,[0,1,5,12]),(3,[4]),(4,[0,1,5,6]),(5,[0,1,5,6,19]),(6,[0,1,5,6]),(7,[0,1,5,6,7]),(8,[0,1,5,6,7,29]),(9,[0,1,5,6]),(10,[0,1,5,6]),(11,[0,5]),(12,[4])]),
 (76,[(0,[0,1]),(1,[0,1,5]),(2,[0,5,8,9,10]),(3,[0,5,8,9,10,11]),(4,[0,5,7,8,9,10]),(5,[0,5,7,8,9,10,17]),(6,[0,5,8,9,10]),(7,[0,5,8,9,10]),(8,[0,5,8,9,10]),(9,[4])]),
 (77,[(0,[0,1,5,6]),(1,[0,1,5,6,8]),(2,[0,1,5,6,8,9]),(3,[6]),(4,[0,1,6,12]),(5,[6]),(6,[6])]),
 (78,[(0,[0]),(1,[0]),(2,[2])]),
 (79,[(0,[0]),(1,[0])]),
 (80,[(0,[1]),(1,[2])]),
 (82,[(0,[0,1]),(1,[0,1]),(2,[1]),(3,[4,5])]),
 (83,[(0,[0]),(1,[3]),(2,[3,4]),(3,[2]),(4,[3,6]),(5,[2]),(6,[3,8]),(7,[2]),(8,[3,10]),(9,[2]),(10,[12]),(11,[2]),(12,[2])]),
 (84,[(0,[0,1,4]),(1,[])]),
 (85,[(0,[2,3]),(1,[2,3,9]),(2,[4]),(3,[2,3,19]),(4,[4]),(5,[4])]),
 (86,[(0,[0,1]),(1,[0,1,10]),(2,[4]),(3,[0,1,5]),(4,[0,1,5,15]),(5,[0,1,5]),(6,[0,1,5,28]),(7,[0,1,5,6]),(8,[0,1,5,6,7]),(9,[0,1,5,6,7,35]),(10,[0,1,5,6,7]),(11,[0,1,5,6,7,49]),(12,[0,1,5,6,7]),(13,[0,1,5,6,7]),(14,[0,5]),(15,[4]),(16,[4])]),
 (87,[(0,[2,3]),(1,[4])]),
 (89,[(0,[0,1,2,3,4,10]),(1,[0,1,2,3,4,10,11]),(2,[0,1,2,3,4,10,11,12]),(3,[0,1,2,3,4,10,11,12,25]),(4,[]),(5,[0,1,2,3,4,10,11,12,32]),(6,[]),(7,[0,1,2,3,4,10,11,12,39]),(8,[0,1,2,3,4,10,11,12]),(9,[0,1,2,3,4,10,11,12]),(10,[0,1,2,3,4,10,11,12,13,14]),(11,[0,1,2,3,4,10,11,12,13,14,56]),(12,[0,1,2,3,4,10,11,12,13]),(13,[0,1,2,3,4,10,11,12,13]),(14,[0,1,2,3,4,10,11,12,13,14]),(15,[0,1,2,3,4,10,11,12,13,75]),(16,[0,1,2,3,4,10,11,12,13,80]),(17,[0,1,2,3,4,10,11,12,13,97]),(18,[0,2,3,4,10,11,15]),(19,[0,1,2,3,4,10,11]),(20,[0,1,2,3,4,12,16,17]),(21,[0,1,2,3,4,11,12,16]),(22,[0,1,2,3,4,11,12,16,18,19]),(23,[0,1,2,3,4,11,16,18,19,20]),(24,[0,1,2,3,4,11,16,18,19,20,125]),(25,[0,1,2,3,4,10,11,16]),(26,[0,2,3,4,10,11,16]),(27,[0,1,2,3,4,10,11]),(28,[0,1,2,3,4,10,11,16]),(29,[0,1,3,4,10,11,16]),(30,[0,1,2,3,4,10,11])]),
 (90,[(0,[0]),(1,[2]),(2,[2])]),
 (91,[(0,[0,1]),(1,[0,1,5]),(2,[0,1,5,6]),(3,[0,1,6,11]),(4,[12]),(5,[4]),(6,[4]),(7,[0,1,13]),(8,[4]),(9,[0,1,16]),(10,[4]),(11,[19]),(12,[4]),(13,[4])]),
 (92,[(0,[0,1,2]),(1,[0,1,2,11,12,13]),(2,[0,1,2,11,12,13,14]),(3,[0,1,2,7,8,11,12,13]),(4,[0,1,2,7,8,11,12,13,21]),(5,[6]),(6,[0,1,2,8,9,11,12,13]),(7,[0,1,2,10,11,12,13]),(8,[0,1,2,10,11,12,13,31]),(9,[6]),(10,[0,1,2,11,12,13]),(11,[38]),(12,[6]),(13,[6])]),
 (93,[(0,[0,1,2,3,8]),(1,[0,1,2,3,8,14]),(2,[0,1,2,3,8]),(3,[0,1,2,3,8,9]),(4,[0,1,2,3,8,9,34]),(5,[0,1,2,3,8,9]),(6,[0,1,2,3,8,9])]),
 (94,[(0,[0,1,2,3,8]),(1,[0,1,2,3,8,9]),(2,[0,3,8,9,10]),(3,[0,3,8,9,10,11]),(4,[0,3,8,9,10,11,21]),(5,[0,3,8,9,10,11]),(6,[0,3,8,9,10,11]),(7,[0,3,8,9,12]),(8,[0,3,8,9,12,33]),(9,[0,3,8,9,12]),(10,[0,3,8,9,12]),(11,[0,3,8,9,12])]),
 (95,[(0,[0,1,8]),(1,[0,1,8,17]),(2,[0,1,8,9]),(3,[0,1,8,9,10]),(4,[0,1,8,9,10,11]),(5,[0,1,8,9,10,11,35]),(6,[0,1,8,9,10,11]),(7,[0,1,8,9,10,11,12]),(8,[0,1,8,9,10,11,12,45]),(9,[0,1,8,9,10,11,12]),(10,[0,1,8,9,10,11])]),
 (96,[(0,[0,1,2,3]),(1,[0,1,3,10]),(2,[0,1,3,10,11]),(3,[0,1,3,10,11,12]),(4,[0,1,3,10,11,12,13]),(5,[0,3,10,11,12,13,14]),(6,[0,3,10,11,12,13,14,34]),(7,[0,3,11,12,13,14,36]),(8,[0,3,11,12,13,14]),(9,[0,3,11,12,13,14]),(10,[0,3,11,12,13,14]),(11,[11,13]),(12,[13,55]),(13,[8,9]),(14,[13,55,57]),(15,[8,9]),(16,[13,60]),(17,[8,9])]),
 (97,[(0,[0,2,8]),(1,[0,8,9]),(2,[0,8,9,15]),(3,[0,8,9]),(4,[0,8,9]),(5,[0,8,9])]),
 (98,[(0,[0,1,2,3]),(1,[0,1,2,3,9]),(2,[0,1,2,3,9,10]),(3,[0,1,2,3,9,10,16]),(4,[0,1,2,3,9,10]),(5,[0,1,2,3,9,10,36]),(6,[0,1,2,3,9,10]),(7,[0,1,2,3,9,10,41]),(8,[8]),(9,[0,1,2,3,9,10,45]),(10,[8]),(11,[0,1,2,3,9,10]),(12,[0,1,2,3,9,10,65]),(13,[0,1,2,3,9,10,11]),(14,[0,1,2,3,9,10,11,69]),(15,[0,1,2,3,9,10,11]),(16,[0,1,2,3,9,10,11,84]),(17,[0,1,2,3,9,10,11]),(18,[0,1,2,3,9,10,104]),(19,[0,1,2,3,9,10,12]),(20,[0,1,2,3,9,10,12,109]),(21,[0,1,2,3,9,10,12]),(22,[0,1,2,3,9,10,12,124]),(23,[0,1,2,3,9,10,12]),(24,[8])]),
 (99,[(0,[0,1,2,3,4]),(1,[0,1,2,4]),(2,[0,1,4,11,12]),(3,[0,1,4,11,12,47]),(4,[0,1,4,11,12]),(5,[0,1,4,11,12,65]),(6,[0,1,4,11,12]),(7,[0,1,4,11,12,70]),(8,[0,1,4,11,12]),(9,[0,1,4,11,12]),(10,[0,1,4,11,12]),(11,[10])]),
 (100,[(0,[0,1,2,3,4]),(1,[0,1,2,4]),(2,[0,1,4,12,13]),(3,[0,1,4,12,13,47]),(4,[0,1,4,12,13]),(5,[0,1,4,12,13,66]),(6,[0,1,4,12,13]),(7,[0,1,4,12,13,71]),(8,[13]),(9,[10,11]),(10,[0,1,4,12,13]),(11,[0,1,4,12,13]),(12,[0,1,4,12,13]),(13,[0,1,4,12,13,120]),(14,[0,1,4,12,13]),(15,[0,1,4,12,13,139]),(16,[0,1,4,12,13]),(17,[0,1,4,12,13,144]),(18,[0,1,4,12,13]),(19,[0,1,4,12,13]),(20,[0,1,4,12,13]),(21,[13]),(22,[10,11])]),
 (102,[(0,[0,2]),(1,[0,2,4]),(2,[0]),(3,[0,2]),(4,[0,2,8]),(5,[0,2]),(6,[0,2]),(7,[0,2,14]),(8,[0,2]),(9,[0,2]),(10,[2])]),
 (103,[(0,[0]),(1,[2])]),
 (104,[(0,[0,2,3,4,10]),(1,[0,2,3,4,10,11]),(2,[0,2,3,4,10,11,18]),(3,[0,2,3,4,10,11,40]),(4,[0,2,3,4,10,11]),(5,[0,2,3,4,10,11,58]),(6,[0,2,3,4,11]),(7,[0,2,3,4,10])]),
 (105,[(0,[0]),(1,[2])]),
 (106,[(0,[0]),(1,[0]),(2,[0]),(3,[0]),(4,[2])]),
 (107,[(0,[0,1,2,3]),(1,[8])]),
 (108,[(0,[0,1,2,3,4,5]),(1,[0,1,2,3,4,5]),(2,[0,1,2,4,5]),(3,[2]),(4,[12])]),
 (109,[(0,[0,1,2,3,4]),(1,[1,2,3,22]),(2,[1,2]),(3,[10,11]),(4,[10,11])])]
def adX:List (Nat × List (Nat × List Nat)):=[(3,[(32,[1,2,3]),(41,[2,3,7])]),
 (5,[(5,[]),(9,[]),(13,[])]),
 (6,[]),
 (7,[(13,[0,1]),(17,[0,1,5]),(32,[0,1,5])]),
 (8,[]),
 (9,[(13,[1,2,4]),(22,[4,7]),(26,[4,7])]),
 (10,[(24,[1]),(29,[1,26,27,28]),(36,[1,4,26,27,28]),(40,[1,26,27,28,37,38,39]),(51,[1,26,27,28,37,38,39])]),
 (11,[(10,[1,2,5,6])]),
 (12,[(14,[1,2])]),
 (15,[]),
 (16,[]),
 (17,[(26,[1,2,5,6,20,26]),(32,[1,2,5,6,32]),(39,[1,2,5,6]),(63,[1,2,5,7])]),
 (18,[(20,[1,2,6,7,8])]),
 (19,[]),
 (20,[(10,[1,2]),(13,[1,2]),(17,[])]),
 (21,[]),
 (22,[(5,[1,2])]),
 (23,[]),
 (24,[(18,[0,3,16,17]),(38,[0,3,4,5,16,17]),(51,[0,3,4,7,16,17]),(58,[0,3,4,5,16,17])]),
 (25,[(24,[2,3,21,22,23])]),
 (26,[]),
 (27,[(16,[0,1]),(20,[0,1,18,19]),(34,[0,1,18,19])]),
 (28,[]),
 (29,[]),
 (30,[(10,[2,3,4]),(17,[2,3,4]),(26,[2,3,4,9,26]),(33,[2,3,4])]),
 (31,[]),
 (33,[]),
 (34,[]),
 (35,[(9,[1,2]),(27,[1,2]),(30,[1,2,29,30]),(37,[1,2,29,37]),(44,[1,2]),(45,[1,2,45]),(51,[1,2]),(56,[1,53,54,55]),(62,[1,53,54,55])]),
 (36,[]),
 (37,[(9,[1,2]),(23,[1,2,3,20,21,22])]),
 (38,[(6,[1])]),
 (39,[(7,[1,6,7]),(10,[]),(15,[1,6,15]),(22,[19,20,21]),(27,[19,20,21]),(29,[])]),
 (40,[(23,[2,3,7,20,21,22])]),
 (41,[(28,[3,4,7,8,9]),(48,[3,8,10,11,12])]),
 (42,[(23,[2,3,4,7,20,21,22])]),
 (43,[]),
 (44,[(9,[1,6,7,8]),(14,[1,4,5,6,7,8])]),
 (45,[(10,[]),(20,[])]),
 (46,[(7,[1,2])]),
 (47,[(13,[4,5]),(18,[4,5]),(24,[3,4,5]),(31,[2,3,4,5,12,31]),(38,[4,5]),(57,[4,5])]),
 (48,[(16,[1,2,3]),(26,[1,2,23,24,25]),(34,[1,2,23,24,25])]),
 (49,[(7,[0,1,4]),(11,[0,1,4]),(15,[0,1,4]),(21,[0,1,4]),(27,[4]),(37,[4,5]),(45,[4]),(47,[4,5]),(57,[4,5])]),
 (50,[(6,[]),(10,[]),(14,[]),(22,[]),(28,[]),(34,[]),(40,[]),(48,[])]),
 (51,[]),
 (52,[]),
 (53,[]),
 (54,[(12,[0,1,6])]),
 (55,[]),
 (56,[]),
 (57,[(12,[])]),
 (58,[]),
 (59,[(7,[])]),
 (60,[(12,[0,1,2,3,10,11]),(16,[0,1,2,3,10,11])]),
 (61,[(13,[0,1,2,3,5,6])]),
 (62,[(4,[0])]),
 (63,[(24,[2,3,4,5,6,7,21,22,23]),(42,[2,3,4,5,6,7,21,22,23]),(57,[4,11]),(62,[4,11]),(70,[4,11])]),
 (64,[(23,[2,4,5,6,7,20,21,22]),(28,[2,4,5,6,8,9,20,21,22]),(57,[4,6,7,11,54,55,56]),(63,[4,6,7,11,12,13,54,55,56])]),
 (65,[(5,[0,2])]),
 (66,[(5,[0,2])]),
 (67,[(5,[0,2])]),
 (68,[]),
 (69,[]),
 (70,[(13,[0,2,3,10,11,12]),(18,[0,2,3,9,10,11,12]),(26,[0,2,3,9,10,11,12])]),
 (71,[(9,[0,1,7,8]),(16,[0,1,7,8])]),
 (72,[]),
 (73,[(6,[3,4])]),
 (74,[]),
 (75,[(12,[0,1,5]),(19,[0,1,5,6]),(29,[0,1,5,6])]),
 (76,[(11,[0,5,8,9,10]),(17,[0,5,8,9,10])]),
 (77,[(9,[0,1,6]),(12,[0,1,6])]),
 (78,[]),
 (79,[]),
 (80,[]),
 (82,[]),
 (83,[(4,[]),(6,[]),(8,[]),(10,[]),(12,[])]),
 (84,[]),
 (85,[(9,[2,3]),(19,[2,3])]),
 (86,[(10,[0,1]),(15,[0,1,5]),(28,[0,1,5]),(35,[0,1,5,6,7]),(49,[0,1,5,6,7])]),
 (87,[]),
 (89,[(25,[0,1,2,3,4,10,11,12]),(32,[0,1,2,3,4,10,11,12]),(39,[0,1,2,3,4,10,11,12]),(56,[0,1,2,3,4,10,11,12,13,14]),(75,[0,1,2,3,4,10,11,12,13]),(80,[0,1,2,3,4,10,11,12,13]),(97,[0,1,2,3,4,12,13]),(125,[0,1,2,3,4,10,11])]),
 (90,[]),
 (91,[(11,[0,1,6]),(12,[]),(13,[0,1]),(16,[0,1]),(19,[])]),
 (92,[(14,[0,1,2,11,12,13]),(21,[0,1,2,7,8,11,12,13]),(31,[0,1,2,11,12,13]),(38,[])]),
 (93,[(14,[0,1,2,3,8]),(34,[0,1,2,3,8,9])]),
 (94,[(21,[0,3,8,9,10,11]),(33,[0,3,8,9,12])]),
 (95,[(17,[]),(35,[0,1,8,9,10,11]),(45,[0,1,8,9,10,11,12])]),
 (96,[(34,[11,13]),(36,[0,3,11,12,13,14]),(57,[8,9]),(60,[8,9])]),
 (97,[(15,[0,8,9])]),
 (98,[(16,[0,1,2,3,9,10]),(36,[0,1,2,3,9,10]),(41,[0,1,2,3,9,10]),(45,[0,1,2,3,9,10]),(65,[0,1,2,3,9,10]),(69,[0,1,2,3,9,10,11]),(84,[0,1,2,3,9,10,11]),(104,[0,1,2,3,9,10]),(109,[0,1,2,3,9,10,12]),(124,[0,1,2,3,9,10,12])]),
 (99,[(47,[0,1,4,11,12]),(65,[0,1,4,11,12]),(70,[0,1,4,11,12])]),
 (100,[(47,[0,1,4,12,13]),(66,[0,1,4,12,13]),(71,[0,1,4,12,13]),(120,[0,1,4,12,13]),(139,[0,1,4,12,13]),(144,[0,1,4,12,13])]),
 (102,[(4,[0,2]),(8,[0,2]),(14,[0,2])]),
 (103,[]),
 (104,[(18,[0,2,3,4,10,11]),(40,[0,2,3,4,10,11]),(58,[0,2,3,4,10,11])]),
 (105,[]),
 (106,[]),
 (107,[]),
 (108,[]),
 (109,[(22,[1,2])])]
def adY:List (Nat × List (Nat × List Nat)):=[(3,[]),
 (5,[(0,[])]),
 (6,[]),
 (7,[(0,[]),(1,[0,1,5])]),
 (8,[]),
 (9,[(0,[4,7]),(1,[4,7])]),
 (10,[(0,[]),(1,[1,26,27,28]),(2,[1,26,27,28]),(3,[1,26,27,28,37,38,39])]),
 (11,[(0,[2,5]),(1,[1,2,5,6])]),
 (12,[]),
 (15,[]),
 (16,[]),
 (17,[(0,[1,2,5,6]),(1,[6]),(2,[1,2,5,6,7])]),
 (18,[(0,[6,7]),(1,[1,2,6,7,8])]),
 (19,[]),
 (20,[]),
 (21,[]),
 (22,[]),
 (23,[]),
 (24,[(0,[0,3]),(1,[0,3,16,17])]),
 (25,[(0,[2,3]),(1,[2,3,21,22,23])]),
 (26,[]),
 (27,[(0,[]),(1,[0,1,18,19])]),
 (28,[]),
 (29,[]),
 (30,[(0,[2,3,4])]),
 (31,[]),
 (33,[]),
 (34,[]),
 (35,[(0,[1,2]),(1,[]),(2,[1,53,54,55])]),
 (36,[]),
 (37,[(0,[1,2,3]),(1,[1,2,3,20,21,22])]),
 (38,[]),
 (39,[(0,[]),(1,[]),(2,[19,20,21])]),
 (40,[(0,[7]),(1,[2,3,7,20,21,22])]),
 (41,[(0,[3,4,7,8]),(1,[3,4,7,8,9]),(2,[11]),(3,[3,8,10,11,12])]),
 (42,[(0,[7]),(1,[2,3,4,7,20,21,22])]),
 (43,[]),
 (44,[(0,[]),(1,[1,6,7,8]),(2,[1,6,7,8]),(3,[1,4,5,6,7,8])]),
 (45,[(0,[])]),
 (46,[]),
 (47,[(0,[4,5])]),
 (48,[(0,[]),(1,[1,2,23,24,25])]),
 (49,[(0,[0,1,4]),(1,[4]),(2,[4,5])]),
 (50,[(0,[])]),
 (51,[]),
 (52,[]),
 (53,[]),
 (54,[(0,[]),(1,[0,1,6])]),
 (55,[]),
 (56,[]),
 (57,[]),
 (58,[]),
 (59,[]),
 (60,[(0,[]),(1,[0,1,2,3,10,11])]),
 (61,[(0,[0,1,2,3,5]),(1,[0,1,2,3,5,6])]),
 (62,[]),
 (63,[(0,[3,4,5,6,7]),(1,[2,3,4,5,6,7,21,22,23]),(2,[4,11])]),
 (64,[(0,[4,5,6,7]),(1,[2,4,5,6,7,20,21,22]),(2,[4,6,7,11]),(3,[4,6,7,11,54,55,56])]),
 (65,[]),
 (66,[]),
 (67,[]),
 (68,[]),
 (69,[]),
 (70,[(0,[]),(1,[0,2,3,10,11,12])]),
 (71,[(0,[]),(1,[0,1,7,8])]),
 (72,[]),
 (73,[]),
 (74,[]),
 (75,[(0,[0,5]),(1,[0,1,5,6])]),
 (76,[(0,[5]),(1,[0,5,8,9,10])]),
 (77,[(0,[0,1,6])]),
 (78,[]),
 (79,[]),
 (80,[]),
 (82,[]),
 (83,[(0,[])]),
 (84,[]),
 (85,[]),
 (86,[(0,[0]),(1,[0,1,5]),(2,[0,5]),(3,[0,1,5,6,7])]),
 (87,[]),
 (89,[(0,[]),(1,[0,1,2,3,4,10,11])]),
 (90,[]),
 (91,[]),
 (92,[(0,[0,1]),(1,[0,1,2,11,12,13])]),
 (93,[(0,[]),(1,[0,1,2,3,8]),(2,[0,1,2,3,8]),(3,[0,1,2,3,8,9])]),
 (94,[(0,[0,3,8,9,10]),(1,[0,3,8,9,10,11]),(2,[]),(3,[0,3,8,9,12])]),
 (95,[(0,[]),(1,[0,1,8,9,10,11])]),
 (96,[(0,[8,9])]),
 (97,[(0,[]),(1,[0,8,9])]),
 (98,[(0,[]),(1,[0,1,2,3,9,10]),(2,[0,1,2,3,9,10]),(3,[0,1,2,3,9,10]),(4,[0,1,2,3,9,10]),(5,[0,1,2,3,9,10,11]),(6,[0,1,2,3,9,10]),(7,[0,1,2,3,9,10,12])]),
 (99,[(0,[11]),(1,[0,1,4,11,12]),(2,[0,1,4,11,12]),(3,[0,1,4,11,12]),(4,[0,1,4,11,12]),(5,[0,1,4,11,12])]),
 (100,[(0,[0,1,4,12,13]),(1,[0,1,4,12,13]),(2,[0,1,4,12,13]),(3,[0,1,4,12,13]),(4,[0,1,13]),(5,[0,1,4,12,13]),(6,[0,1,4,12,13]),(7,[0,1,4,12,13]),(8,[0,1,4,12,13]),(9,[0,1,4,12,13])]),
 (102,[]),
 (103,[]),
 (104,[(0,[]),(1,[0,2,3,4,10])]),
 (105,[]),
 (106,[]),
 (107,[]),
 (108,[]),
 (109,[])]
def adZ:List (Nat × List (Nat × List Nat)):=[]
def ad0:List (Nat × List Nat):=[(22,[0]),
 (37,[0]),
 (46,[0]),
 (47,[0]),
 (49,[0]),
 (65,[0]),
 (66,[0]),
 (67,[0]),
 (73,[0])]
def ad1:List (Nat × List (Nat × List (Nat × Nat))):=[(3,[(1,[(2,5),(6,6),(16,7)]),(2,[(0,8)]),(3,[(2,9)]),(5,[(3,8)]),(6,[(1,10),(5,11),(8,12),(12,8)])]),
 (5,[(1,[(1,15)]),(3,[(1,16)]),(5,[(2,17)])]),
 (6,[(1,[(1,18)])]),
 (7,[(1,[(1,15)])]),
 (8,[(1,[(0,19),(1,9)])]),
 (9,[(1,[(2,20)]),(4,[(1,22),(3,21)]),(5,[(1,23)]),(6,[(1,24)]),(9,[(1,25)])]),
 (12,[(1,[(1,26),(5,27)]),(4,[(1,28)]),(5,[(1,29)]),(6,[(3,30),(8,31)])]),
 (16,[(1,[(1,18)])]),
 (17,[(18,[(6,17)])]),
 (18,[(5,[(6,18)])]),
 (20,[(3,[(1,34)]),(5,[(2,35)])]),
 (21,[(3,[(2,36)])]),
 (22,[(1,[(1,26)]),(3,[(1,37)])]),
 (24,[(5,[(13,33)]),(8,[(5,38)]),(12,[(2,36)])]),
 (25,[(5,[(3,39)])]),
 (26,[(1,[(1,20)])]),
 (30,[(3,[(4,40)]),(5,[(6,41)]),(8,[(3,42)]),(10,[(6,43)]),(12,[(2,44)])]),
 (33,[(1,[(3,47),(4,46)])]),
 (34,[(2,[(1,48)])]),
 (35,[(22,[(2,35)])]),
 (36,[(2,[(5,38)])]),
 (37,[(7,[(3,37)]),(9,[(3,49)])]),
 (38,[(1,[(1,26)]),(4,[(1,50)]),(5,[(0,51)])]),
 (39,[(6,[(2,145)]),(12,[(1,39)]),(17,[(9,39)])]),
 (40,[(1,[(5,30)]),(5,[(1,28)]),(6,[(2,141)]),(7,[(3,30)]),(8,[(5,55)]),(9,[(2,142)])]),
 (41,[(1,[(1,28)]),(2,[(2,136)]),(6,[(2,29)]),(7,[(3,30)]),(12,[(1,28)]),(13,[(2,29)]),(14,[(5,140)])]),
 (42,[(1,[(6,30)]),(5,[(3,30)]),(6,[(2,139)])]),
 (43,[(1,[(3,30)]),(3,[(2,138)])]),
 (44,[(5,[(4,62),(6,45)])]),
 (45,[(0,[(3,28)]),(2,[(5,137)]),(4,[(6,137)])]),
 (46,[(1,[(2,20)])]),
 (47,[(12,[(2,63)]),(14,[(5,47)]),(15,[(3,49)]),(16,[(4,49)]),(18,[(2,64)])]),
 (48,[(7,[(4,48)])]),
 (49,[(3,[(1,65)]),(5,[(1,66)]),(7,[(1,67)]),(18,[(0,68)]),(19,[(5,55)])]),
 (50,[(3,[(1,69)]),(5,[(1,69)]),(7,[(5,69)]),(9,[(3,70)]),(11,[(3,70)]),(13,[(3,70)]),(15,[(1,69)]),(16,[(3,70)]),(18,[(3,70)]),(19,[(1,69)])]),
 (52,[(1,[(2,71)])]),
 (53,[(0,[(6,54)])]),
 (55,[(1,[(14,72)])]),
 (56,[(0,[(1,28)]),(1,[(5,143)])]),
 (57,[(0,[(5,31)]),(1,[(6,54)])]),
 (59,[(0,[(2,31)]),(1,[(6,54)])]),
 (61,[(0,[(1,28)])]),
 (63,[(6,[(2,47)]),(11,[(3,49),(7,49)])]),
 (64,[(8,[(4,73)]),(9,[(2,47)]),(19,[(3,49)]),(21,[(1,49),(3,49)])]),
 (65,[(1,[(1,131)]),(2,[(0,74)]),(3,[(1,76),(2,135)]),(4,[(1,78),(2,79),(3,77)])]),
 (66,[(1,[(1,52)]),(2,[(0,79)]),(3,[(1,76),(2,133)]),(4,[(1,68),(2,77)])]),
 (67,[(1,[(1,52)]),(2,[(0,79)]),(3,[(1,76),(2,75)]),(4,[(1,78),(2,74),(3,77)])]),
 (70,[(4,[(2,82)]),(5,[(2,83)]),(6,[(2,50)]),(7,[(1,69)]),(8,[(2,50)]),(9,[(1,69)])]),
 (71,[(4,[(5,72)])]),
 (73,[(3,[(1,37)])]),
 (74,[(1,[(0,79)])]),
 (75,[(1,[(2,132)]),(8,[(2,55)])]),
 (78,[(1,[(1,84)]),(2,[(1,86)])]),
 (84,[(1,[(4,90),(6,89)])]),
 (85,[(2,[(4,91)]),(4,[(4,91)]),(5,[(4,92)])]),
 (86,[(6,[(10,87)]),(11,[(10,87)])]),
 (87,[(1,[(2,85)])]),
 (89,[(4,[(4,93)]),(6,[(4,94)]),(8,[(4,95)]),(10,[(4,96)]),(12,[(4,97)]),(16,[(4,98)]),(17,[(13,85)]),(18,[(5,99)]),(20,[(5,100)]),(26,[(5,89)]),(29,[(6,89)])]),
 (90,[(2,[(1,102)])]),
 (91,[(1,[(1,103)]),(2,[(1,103)])]),
 (92,[(7,[(3,85)])]),
 (93,[(4,[(14,85)])]),
 (94,[(6,[(5,104)]),(11,[(5,104)])]),
 (95,[(3,[(1,105)]),(7,[(0,106)])]),
 (96,[(8,[(3,107)]),(9,[(3,107)]),(10,[(3,107)]),(11,[(5,108)])]),
 (98,[(5,[(14,85)]),(16,[(10,85)]),(22,[(10,85)])]),
 (99,[(3,[(13,85)]),(5,[(13,85)])]),
 (100,[(3,[(13,85)]),(5,[(13,85)]),(13,[(13,85)]),(15,[(13,85)])]),
 (104,[(3,[(19,85)]),(5,[(13,85)])]),
 (105,[(1,[(2,90)])]),
 (107,[(1,[(8,108)])]),
 (108,[(1,[(5,109)]),(2,[(5,109)]),(3,[(5,109)])]),
 (109,[(1,[(9,85)])]),
 (131,[(1,[(2,132)])]),
 (132,[(4,[(5,55)])]),
 (133,[(1,[(2,134)]),(8,[(2,80)])]),
 (134,[(4,[(5,80)])]),
 (135,[(1,[(2,71)]),(8,[(2,72)])]),
 (136,[(5,[(4,62),(6,58)])]),
 (138,[(5,[(4,62),(6,61)])]),
 (139,[(5,[(4,62),(6,60)])]),
 (140,[(5,[(4,62),(6,59)])]),
 (141,[(5,[(4,62),(6,53)])]),
 (142,[(5,[(4,62),(6,56)])]),
 (143,[(5,[(4,62),(6,57)])]),
 (145,[(1,[(2,146)])]),
 (146,[(4,[(5,39)])])]
def ad2:List (Nat × List (Nat × (Shape × List (Out × Shape)))):=[(7,[(65,Mi)]),
 (9,[(81,Mj)]),
 (10,[(145,Mk),(65,Ml)]),
 (11,[(49,Mm)]),
 (17,[(639,Mn),(257,Mo)]),
 (18,[(49,Mp)]),
 (24,[(49,Mq)]),
 (25,[(49,Mr)]),
 (27,[(65,Ms)]),
 (35,[(321,Mt)]),
 (37,[(81,Mu)]),
 (39,[(161,Mv)]),
 (40,[(49,Mw)]),
 (41,[(65,Mx),(161,My)]),
 (42,[(49,Mz)]),
 (44,[(49,MA),(17,MB)]),
 (45,[(175,MC)]),
 (47,[(399,MD)]),
 (48,[(81,ME)]),
 (50,[(463,MF),(367,MG),(239,MH),(175,MI),(111,MJ)]),
 (54,[(17,MK)]),
 (60,[(17,ML)]),
 (61,[(33,MM)]),
 (63,[(65,MN)]),
 (64,[(81,MO),(225,MP)]),
 (70,[(303,MQ),(17,MR)]),
 (71,[(33,MS)]),
 (75,[(81,MT)]),
 (76,[(49,MU)]),
 (86,[(145,MV),(65,MW)]),
 (89,[(639,MX),(911,MY),(1215,MZ),(33,M0)]),
 (92,[(33,M1)]),
 (93,[(65,M3),(17,M4)]),
 (94,[(65,M5),(129,M6)]),
 (95,[(735,M7),(81,M8)]),
 (96,[(591,M9),(559,Na)]),
 (97,[(33,Nb)]),
 (98,[(81,Nc),(225,Nd),(1055,Nf),(321,Ng),(49,Nh)]),
 (99,[(49,Ni),(81,Nj),(50,Nk)]),
 (100,[(49,Nl),(81,Nn),(209,No),(241,Np),(210,Nq)]),
 (102,[(79,Nr),(143,Ns)]),
 (104,[(655,Nt),(17,Nu)]),
 (132,[(33,Nw)]),
 (133,[(81,Nx)]),
 (134,[(33,Ny)]),
 (135,[(81,Nz)]),
 (136,[(49,NA),(17,NB)]),
 (138,[(49,NC),(17,ND)]),
 (139,[(49,NF),(17,NG)]),
 (140,[(49,NH),(17,NI)]),
 (141,[(49,NJ),(17,NK)]),
 (142,[(49,NL),(17,NM)]),
 (143,[(49,NN),(17,NO)]),
 (146,[(33,NP)])]
def ad3:List (Nat × List (Nat × List Nat)):=[(30,[(11,[46])]),
 (41,[(8,[42])]),
 (75,[(12,[41])]),
 (86,[(15,[64])]),
 (133,[(12,[41])]),
 (135,[(12,[41])])]
def HM (k:Nat):FuncId:=(dN adS k).getD 0
def au:cK where
 aP:=HM
 sin:=fun k=>(dN adT k).getD ⟨[],[]⟩
 gD:=fun k=>(dN adU k).getD ⟨[],[]⟩
 live:=fun k r=>(dN ((dN adW (HM k)).getD []) r).getD []
 join:=fun k r=>(dN ((dN adX (HM k)).getD []) r).getD []
 blk:=fun k r=>(dN ((dN adY (HM k)).getD []) r).getD []
 pur:=fun k r=>(dN ((dN adZ k).getD []) r).getD []
 uA:=fun k=>(dN ad0 k).getD []
 alt:=fun k=>dN adV k
 P1:=fun k r=>(dN ((dN ad3 k).getD []) r).getD []
 ck:=fun k r i=>(dN ((dN ((dN ad1 k).getD []) r).getD []) i).getD 0
 iA:=fun k x=>dN ((dN ad2 k).getD []) x
 xj:=[]
 EY:=fun _=>0
 ext:=fun f=>bif Nat.beq f 81 then some 87 else none
 oQ:=fun f=>none
 idle:=fun f=>false
 mv:=fun k=>(dN ([(23,[1,2]),(24,[1,2]),(25,[1,2]),(36,[1,2]),(50,[1]),(51,[1]),(53,[2]),(57,[3]),(59,[2]),(69,[1]),(70,[1]),(82,[1]),(140,[2]),(141,[2]),(143,[3])]:List (Nat × List Nat)) k).getD []
 aF:=fun g=>bif Nat.beq g 0 then .pref [5,5,5,5,5,5,5,5,5,5,5,5,5,5,5,5,5,5,5,5,5,5,5,5,5,5,5,5,5,5,5,5,5,5,5,5,5,5,5,5,5,5,5,5,5,5,5,5,5,5,5,5,5,5,5,5,5,5,5,5,5,5,5,5] vH else .undef
noncomputable abbrev PG:Program:=Tryz.prog
noncomputable abbrev CC:ae:=Call Tryz.prog au
end Go.AM
set_option maxRecDepth 100000
namespace Go.AM
open Go.Proofs Go.RowKit
theorem ad4 (hP:Bx PG) (f:FuncId) (e:TypeId) (h:au.oQ f=some e):RU PG f e:=by
 have h1:au.oQ f=none:=by kernel_rfl
 rw[h1] at h
 cases h
theorem ad5 {w:World} {b:Nat} {C:Array Value} {T:TypeId} (h:w.heap[b]? =some (.cells C T (0,0))):w.shape? b=some (T,C.size)∧w.frozen? ⟨b,0,none⟩=false∧w.cell? ⟨b,0,none⟩=C[0]? :=by
 refine ⟨by simp[World.shape?,h],by simp[World.frozen?,h],cell?_cells h⟩
set_option maxHeartbeats 1000000 in
theorem ad6 (b:Nat) (w:World) (h0:w.cell? ⟨b,0,none⟩=some (.pointer (some ⟨b,0,none⟩))):
  Calls Tryz.prog 81 #[.pointer (some ⟨b,0,none⟩)] w fun e w'=>e= .returned (.tuple #[])∧w'=w:=by
 obtain ⟨j,hj⟩:=An.1 (show (Tryz.prog.info? 87).isSome=true by kernel_rfl)
 have hu:Tryz.prog.underlying 84=some (.pointer 87):=by kernel_rfl
 go_enter Tryz.func81,Tryz.ntmps81
 go_wp2
 rw[Lib.run_neq_ptr_same w _ hu hj]
 go_wp2
 go_end0
 exact ⟨rfl,rfl⟩
set_option maxHeartbeats 1000000 in
theorem ad7 (b n:Nat) (w:World) (hn:0<n) (h0:w.cell? ⟨b,0,none⟩=some (.pointer none)) (tC:w.shape? b=some (87,n)) (LI:w.frozen? ⟨b,0,none⟩=false) (hl:liesAt Tryz.prog Tryz.prog.depth 87 (n/Tryz.prog.cellsOf 87) 0 87 1=true):
  Calls Tryz.prog 81 #[.pointer (some ⟨b,0,none⟩)] w fun e w'=>e= .returned (.tuple #[])∧w'=w.setCell ⟨b,0,none⟩ (.pointer (some ⟨b,0,none⟩)):=by
 obtain ⟨j,hj⟩:=An.1 (show (Tryz.prog.info? 87).isSome=true by kernel_rfl)
 have hjs:j.size≠0:=by
  have U:(Tryz.prog.info? 87).map (·.size)=some 2:=by kernel_rfl
  rw[hj] at U
  simp at U
  omega
 have hu:Tryz.prog.underlying 84=some (.pointer 87):=by kernel_rfl
 have mR:Tryz.prog.underlying 112=some .unsafePointer:=by kernel_rfl
 go_enter Tryz.func81,Tryz.ntmps81
 go_wp2
 rw[Lib.run_to_unsafe w ⟨b,0,none⟩ hu mR hj hjs tC hn]
 simp only[Result.andThen]
 rw[Oper.upon_value]
 go_wp2
 rw[run_callFunc_extern Tryz.func88 (by kernel_rfl) (by kernel_rfl) (by kernel_rfl) (e:=Extern.AbiNoEscape.same) (by kernel_rfl)]
 rw[Lib.run_noEscape]
 simp only[Result.andThen]
 rw[Oper.upon_value]
 go_wp2
 rw[Lib.run_from_unsafe w ⟨b,0,none⟩ mR hu hj tC hl]
 simp only[Result.andThen]
 rw[Oper.upon_value]
 go_wp2
 go_end0
 exact ⟨rfl,rfl⟩
theorem ad8 (hP:Bx Tryz.prog):iL Tryz.prog au where
 count:=hP
 oQ:=ad4 hP
 ext:=by
  intro f T h b C w hh hs hc
  have hf:f=81∧T=87:=by
   have h1:au.ext f=bif Nat.beq f 81 then some 87 else none:=by kernel_rfl
   rw[h1] at h
   cases hb:Nat.beq f 81 with
   | true=>rw[hb] at h;rw[a9] at hb;exact ⟨hb,(cT h).symm⟩
   | false=>rw[hb] at h;cases h
  obtain ⟨rfl,rfl⟩:=hf
  obtain ⟨h1,U,h3⟩:=ad5 hh
  refine ⟨MuLone.run_callFunc_enter Tryz.func81 (hP _ _ Tryz.func81) (by kernel_rfl:Tryz.f81.body=some (cg Tryz.prog 81)) _ _,?_⟩
  have jb:Tryz.prog.cellsOf 87=2:=by kernel_rfl
  rcases hc with hc|hc
  ·refine (ad7 b C.size w (by omega) (h3.trans hc) h1 U (by rw[hs,jb];kernel_rfl)).mono ?_
   rintro e w' ⟨rfl,rfl⟩
   exact ⟨rfl,.inr rfl⟩
  ·refine (ad6 b w (h3.trans hc)).mono ?_
   rintro e w' ⟨rfl,rfl⟩
   exact ⟨rfl,.inl rfl⟩
 idle:=by
  intro f h
  have h1:au.idle f=false:=by kernel_rfl
  rw[h1] at h
  cases h
end Go.AM
set_option maxRecDepth 100000
namespace Go.AM
open Go.Proofs Go.Proofs.YtppefogdkedaiaaGreatDoor Go.Lib Go.MakeChecks
def se:List Int:=[0,1,56,2,57,49,28,3,61,58,42,50,38,29,17,4,62,47,59,36,45,43,51,22,53,39,33,30,24,18,12,5,63,55,48,27,60,41,37,16,46,35,44,21,52,32,23,11,54,26,40,15,34,20,31,10,25,14,19,9,13,8,7,6]
theorem ad9:vH=se.map fun z=> .int .u8 z:=by kernel_rfl
theorem aea:Rows.laid_math_bits_deBruijn64tab (H:=Unit)=tabData .u8 se:=by kernel_rfl
def Ce : List (String × DataW Unit) := [("math/bits.deBruijn64tab", Rows.laid_math_bits_deBruijn64tab)]
theorem aay {W:World} (h:laidMetH Tryz.prog Ce W):gE Tryz.prog au.aF W (mg W):=by
 have h1 : laidMetH Tryz.prog [("math/bits.deBruijn64tab", tabData .u8 se)] W := by
  have : Ce = [("math/bits.deBruijn64tab", tabData .u8 se)] := by unfold Ce; rw [aea]
  rwa [this] at h
 rw[laidMetH_plain _ _ _ (by kernel_rfl)] at h1
 have hn : Tryz.prog.globalNamed "math/bits.deBruijn64tab" = some 0 := by kernel_rfl
 have ht:=tabIs_of_head (g:=0) (t:=100) (e:=5) (n:=64) hn (by kernel_rfl) (by kernel_rfl) (by kernel_rfl) (by kernel_rfl) (by kernel_rfl) h1
 have hlen:se.length=64:=by kernel_rfl
 have hc: ∀i,i<64→W.cell? ⟨0,i,none⟩=some (.int .u8 (se.getD i 0)):=fun i hi=>ht.cell hn i (by rw[hlen];exact hi)
 intro g
 have hg:au.aF g=bif Nat.beq g 0 then .pref (List.replicate 64 5) vH else .undef:=by kernel_rfl
 rw[hg]
 cases hb:Nat.beq g 0 with
 | false=>exact .inl rfl
 | true=>
  rw[a9] at hb
  subst hb
  refine .inr ⟨List.replicate 64 5,vH,rfl,by kernel_rfl,fun _=> ?_,fun j t x hj hx=> ?_⟩
  ·have h0:=hc 0 (by omega)
   unfold mg
   unfold World.cell? at h0
   by_cases hz:0<W.heap.size
   ·exact hz
   ·have:W.heap[0]? =none:=Array.getElem?_eq_none (by omega)
    simp[this] at h0
  ·have HN:j<64:=by
    have:=(bw.1 hj).1
    simpa using this
   rw[EJ,ag HN] at hj
   cases hj
   rw[ad9,fU] at hx
   have nR:se[j]? =some (se.getD j 0):=by
    rw[bH (by rw[hlen];exact HN)]
    simp[List.getD,bH (show j<se.length by rw[hlen];exact HN)]
   rw[nR] at hx
   cases hx
   exact ⟨_,by simpa using hc j HN,.int (by kernel_rfl)⟩
theorem own:ownKnob Tryz.prog.godebug=none:=by kernel_rfl
theorem aeb:Bx Tryz.prog:=adr (by kernel_rfl)
theorem mixed:Tryz.prog.follows .mixedOrders=true:=by kernel_rfl
theorem aax:iL Tryz.prog au:=ad8 aeb
noncomputable def PZ (os:Os):World:=World.laidAll Tryz.prog os Ce
theorem aav (os:Os) (args:Array Value):laidMetH Tryz.prog Ce ((PZ os).forCall (fun _ _=>0) ⟨#[],args,[]⟩).memory:=by
 rw[laidMetH_plain _ _ _ (by kernel_rfl)]
 exact laidMet_laidAll args (by kernel_rfl) (by kernel_rfl)
end Go.AM
namespace Go.AM
theorem wrap_u64 (n:Int):IntKind.u64.wrap n=n %18446744073709551616:=by simp[IntKind.wrap,IntKind.bits,IntKind.signed]
theorem tD {A:Nat} (h:A<2^64):IntKind.wrap .u64 (A:Int)=A:=by
 rw[wrap_u64];omega
theorem yU {n A:Nat} (h:A<2^n):(BitVec.ofInt n (A:Int)).toNat=A:=by
 rw[BitVec.ofInt_natCast,BitVec.toNat_ofNat];exact Nat.mod_eq_of_lt h
theorem aec {n A B:Nat} (hA:A<2^n) (hB:B<2^n):(BitVec.ofInt n (A:Int)|||BitVec.ofInt n (B:Int)).toNat=A|||B:=by
 rw[BitVec.toNat_or,yU hA,yU hB]
theorem bv_and {n A B:Nat} (hA:A<2^n) (hB:B<2^n):(BitVec.ofInt n (A:Int)&&&BitVec.ofInt n (B:Int)).toNat=A&&&B:=by
 rw[BitVec.toNat_and,yU hA,yU hB]
theorem u64_or {A B:Nat} (hA:A<2^64) (hB:B<2^64):IntKind.wrap .u64 ((BitVec.ofInt (IntKind.bits .u64) (A:Int)|||BitVec.ofInt (IntKind.bits .u64) (B:Int)).toNat)=((A|||B:Nat):Int):=by
 rw[aec (n:=IntKind.bits .u64) hA hB]
 exact tD (EP hA hB)
theorem u64_and {A B:Nat} (hA:A<2^64) (hB:B<2^64):IntKind.wrap .u64 ((BitVec.ofInt (IntKind.bits .u64) (A:Int)&&&BitVec.ofInt (IntKind.bits .u64) (B:Int)).toNat)=((A&&&B:Nat):Int):=by
 rw[bv_and (n:=IntKind.bits .u64) hA hB]
 exact tD (oJ Nat.and_le_left hA)
theorem NQ {m:Nat} (h:m<64):IntKind.wrap .u64 (1*2^(min m (IntKind.bits .u64)))=((2^m:Nat):Int):=by
 have e:min m (IntKind.bits .u64)=m:=Nat.min_eq_left (by show m≤64;omega)
 rw[e]
 have:(1*2^m:Int)=((2^m:Nat):Int):=by simp
 rw[this]
 exact tD (As (by omega) h)
theorem yV {A m:Nat} (h:m<64):Int.fdiv (A:Int) (2^(min m (IntKind.bits .u64)))=((A/2^m:Nat):Int):=by
 have e:min m (IntKind.bits .u64)=m:=Nat.min_eq_left (by show m≤64;omega)
 rw[e]
 have:(2^m:Int)=((2^m:Nat):Int):=by simp
 rw[this,Int.fdiv_eq_ediv_of_nonneg _ (Int.natCast_nonneg _)]
 exact Int.natCast_ediv ..
theorem aed {A m:Nat} (hA:A<2^64) (h:m<64):
  (IntKind.wrap .u64 ((BitVec.ofInt (IntKind.bits .u64) (Int.fdiv (A:Int) (2^(min m (IntKind.bits .u64))))&&&BitVec.ofInt (IntKind.bits .u64) 1).toNat)==1)=A.testBit m:=by
 rw[yV h]
 have:=u64_and (A:=A/2^m) (B:=1) (oJ (Nat.div_le_self _ _) hA) (by omega)
 rw[show ((1:Nat):Int)=1 from rfl] at this
 rw[this]
 rw[Nat.and_one_is_mod,Nat.testBit_eq_decide_div_mod_eq]
 by_cases hb:A/2^m %2=1
 ·simp[hb]
 ·have:A/2^m %2=0:=by omega
  simp[this]
end Go.AM
set_option maxRecDepth 100000
namespace Go.AM
open Go.Proofs
theorem po:maxLen≤9223372036854775807:=by unfold maxLen;omega
theorem oe:cI=35184372088832:=by unfold cI;rfl
section
variable {α β:Type} {o:Option α} {a:α} {f:α→Option β} {r:Option β} {x y z:β} {b:Bool}
theorem bs (h:o=some a) (U:f a=r):o.bind f=r:=by rw[h];exact U
theorem bT (hb:b=true) (h:x=z):(bif b then x else y)=z:=by rw[hb];exact h
theorem bF (hb:b=false) (h:y=z):(bif b then x else y)=z:=by rw[hb];exact h
end
section
variable {X R A α:Type} {step:X→Option (X ⊕ R)}
theorem Ub (good:Nat→Prop) [DecidablePred good] (n:Nat) (s:Nat→X) (bad ok:R) (h: ∀i,i<n→step (s i)=some (if good i then .inl (s (i+1)) else .inr bad)) (he:step (s n)=some (.inr ok)):
  Loop step (s 0)=some (if∀i,i<n→good i then ok else bad):=by
 have go: ∀(d k:Nat),k+d=n→((∀i,k≤i→i<n→good i)→Loop step (s k)=some ok)∧((¬∀i,k≤i→i<n→good i)→Loop step (s k)=some bad):=by
  intro d
  induction d with
  | zero=>
   intro k hk
   have:k=n:=by omega
   subst this
   exact ⟨fun _=>bj he,fun hx=>absurd (fun i h1 U=>by omega) hx⟩
  | succ d ih=>
   intro k hk
   have h1:=h k (by omega)
   by_cases hg:good k
   ·rw[ag hg] at h1
    rw[bW h1]
    obtain ⟨i1,i2⟩:=ih (k+1) (by omega)
    refine ⟨fun ha=>i1 fun i h1 U=>ha i (by omega) U,fun ha=>i2 fun hx=>ha fun i h1 U=> ?_⟩
    by_cases hi:i=k
    ·rw[hi];exact hg
    ·exact hx i (by omega) U
   ·rw[ah hg] at h1
    rw[bj h1]
    exact ⟨fun ha=>absurd (ha k (bV _) (by omega)) hg,fun _=>rfl⟩
 obtain ⟨g1,g2⟩:=go n 0 (by omega)
 by_cases ha: ∀i,i<n→good i
 ·rw[ag ha];exact g1 fun i _ h=>ha i h
 ·rw[ah ha];exact g2 fun hx=>ha fun i h=>hx i (by omega) h
end
inductive Ex where
 | node (op letter:Int) (kids:List Ex)
namespace Ex
def op:Ex→Int| .node o _ _=>o
def letter:Ex→Int| .node _ l _=>l
def kids:Ex→List Ex| .node _ _ ks=>ks
theorem ind {p:Ex→Prop} (h: ∀o l ks,(∀k∈ks,p k)→p (.node o l ks)): ∀e,p e
 | .node o l ks=>h o l ks fun k hk=>ind h k
termination_by e=>SizeOf.sizeOf e
decreasing_by
 have:=EG hk
 simp
 omega
mutual
def enc:Ex→V
 | .node o l ks=> .agg [.int .i64 o,.int .i64 l,.list aa (Cf ks)]
def Cf:List Ex→List V
 | []=>[]
 | k::ks=>enc k::Cf ks
end
theorem Uc: ∀ks,Cf ks=ks.map enc
 | []=>by simp only[Cf,fp]
 | k::ks=>by simp only[Cf,cr,Uc ks]
theorem eY (e:Ex):e.enc= .agg [.int .i64 e.op,.int .i64 e.letter,.list aa (e.kids.map enc)]:=by
 cases e;simp only[enc,op,letter,kids,Uc]
mutual
def size:Ex→Nat
 | .node _ _ ks=>1+aS ks
def aS:List Ex→Nat
 | []=>0
 | k::ks=>size k+aS ks
end
mutual
def depth:Ex→Nat
 | .node _ _ ks=>1+cS ks
def cS:List Ex→Nat
 | []=>0
 | k::ks=>max (depth k) (cS ks)
end
theorem size_pos: ∀e:Ex,0<e.size
 | .node _ _ ks=>by simp only[size];omega
theorem aee: ∀e:Ex,0<e.depth
 | .node _ _ ks=>by simp only[depth];omega
theorem aef: ∀e:Ex,e.depth≤e.size:=ind fun o l ks ih=>by
 have: ∀ks:List Ex,(∀k∈ks,k.depth≤k.size)→cS ks≤aS ks:=by
  intro ks
  induction ks with
  | nil=>intro _;simp only[cS,aS];omega
  | cons k ks ih=>
   intro h
   have h1:=h k (by simp)
   have U:=ih fun k hk=>h k (by simp[hk])
   simp only[cS,aS];omega
 have:=this ks ih
 simp only[depth,size];omega
inductive Ok:Ex→Prop
 | node {o l:Int} {ks:List Ex}:(-9223372036854775808≤o∧o≤9223372036854775807)→(-9223372036854775808≤l∧l≤9223372036854775807)→ks.length≤maxLen→(∀k∈ks,Ok k)→Ok (.node o l ks)
theorem Ok.og {o l:Int} {ks:List Ex} (h:Ok (.node o l ks)): ∀k∈ks,Ok k:=by cases h;assumption
theorem Ok.len {o l:Int} {ks:List Ex} (h:Ok (.node o l ks)):ks.length≤maxLen:=by cases h;assumption
end Ex
open Ex
abbrev b9 (e:Ex) (l:List V):List V:= .int .i64 e.op:: .int .i64 e.letter:: .list aa (e.kids.map enc)::l
theorem PY: ∀(n:Nat) (x:V),SizeOf.sizeOf x<n→jO PG aa x→∃e:Ex,x=e.enc∧e.Ok
 | 0,x,h,_=>by omega
 | n+1,x,h,hw=>by
  obtain ⟨xs,rfl,hl,hx⟩:=hw.ly (by kernel_rfl)
  have e1:bc PG aa=[m8,m8,Tx]:=by kernel_rfl
  rw[e1] at hl hx
  match xs,hl,hx,h with
  | [a,b,c],_,hx,h=>
   obtain ⟨o,rfl,ho⟩:=(hx 0 m8 a rfl rfl).dY (k:= .i64) (by kernel_rfl)
   obtain ⟨l,rfl,hl⟩:=(hx 1 m8 b rfl rfl).dY (k:= .i64) (by kernel_rfl)
   obtain ⟨es,rfl,he,o6⟩:=(hx 2 Tx c rfl rfl).ads (e:=aa) (by kernel_rfl)
   have: ∃ks:List Ex,es=ks.map enc∧∀k∈ks,k.Ok:=Tg fun y hy=>PY n y (by
    have:=EG hy
    simp at h
    omega) (o6 y hy)
   obtain ⟨ks,rfl,br⟩:=this
   refine ⟨.node o l ks,by rw[eY];rfl,.node ?_ ?_ (by simpa using he) br⟩
   ·exact ho
   ·exact hl
noncomputable def Ud (C:ae) (aj ar:Int) (ai:List V) (letters:Int):Option (List V):=
 bif decide ((letters:Int)<1) then
  some [.int .i64 1]
 else
  bif decide ((letters:Int)>6) then
  some [.int .i64 1]
  else
  (C G7 [.int .i64 aj,.int .i64 ar,.list aa ai]).bind fun r1=>
  bif !((V.nth r1 0).toBool) then
   some [.int .i64 3]
  else
   (C yE [.int .i64 aj,.int .i64 ar,.list aa ai,.int .i64 letters]).bind fun r2=>
   bif !((V.nth r2 0).toBool) then
   some [.int .i64 4]
   else
   some [.int .i64 0]
theorem aeg {aj ar:Int} {ai:List V} {letters:Int} {r:Option (List V)} (h:Ud CC aj ar ai letters=r):CC yA [.int .i64 aj,.int .i64 ar,.list aa ai,.int .i64 letters]=r:=
 aY (key:=20) (L:=b6) (bs:=[]) (by kernel_rfl) ax (aX (by kernel_rfl) h)
noncomputable def Ue (C:ae) (aj ar:Int) (ai:List V):Option (List V):=
 (C yG [.int .i64 aj,.int .i64 ar,.list aa ai,.int .i64 40,.int .i64 400]).bind fun r1=>
 some [.bool ((V.nth r1 0).toBool)]
theorem aeh {aj ar:Int} {ai:List V} {r:Option (List V)} (h:Ue CC aj ar ai=r):CC G7 [.int .i64 aj,.int .i64 ar,.list aa ai]=r:=
 aY (key:=34) (L:=b6) (bs:=[]) (by kernel_rfl) ax (aX (by kernel_rfl) h)
noncomputable abbrev Uf:Code:=cg Tryz.prog (au.aP 48)
noncomputable def yW (C:ae) (depth:Int) (t23:List V) (t24 t25 oh:Int) {β:Type} (kn:(Int × Int)→Option β) (kr:((Bool × Int) ⊕ (Int × Bool × Int))→Option β):Option β:=
 bif decide ((t25:Int)<t24) then
  (idx t23 t25).bind fun x1=>
  (C yG [.int .i64 ((x1.cell 0).toInt),.int .i64 ((x1.cell 1).toInt),.list aa ((x1.cell 2).toList),.int .i64 (IntKind.wrap .i64 (depth-1)),.int .i64 oh]).bind fun r2=>
  bif !((V.nth r2 0).toBool) then
  kr (.inl (false,(V.nth (r2.drop 1) 0).toInt))
  else
  kn (IntKind.wrap .i64 (t25+1),(V.nth (r2.drop 1) 0).toInt)
 else
  kr (.inr (t25,decide ((t25:Int)<t24),oh))
noncomputable def vO (C:ae) (depth:Int) (t23:List V) (t24:Int):(Int × Int)→Option ((Int × Int) ⊕ ((Bool × Int) ⊕ (Int × Bool × Int))):=un fun t25 oh=>yW C depth t23 t24 t25 oh (fun y=>some (.inl y)) (fun r=>some (.inr r))
noncomputable def Ug (C:ae):bZ:=fun β n ds k=>
 bif Nat.beq n 81 then bK ME [false,false,false,true,true] [[0,0],[1,2,3,0,0,0]] (@yW C) ds k else
 none
abbrev aei (C:ae) (b:bX):Prop:=bY Tryz.prog au C (Ug C) 48 (cj Tryz.prog (au.aP 48)) (au.sin 48).ba.length b
theorem aej (C:ae):aei C (.loop (aw [1,1,1,0,1,0,0] Uf)):=
 bN ME [false,false,false,true,true] [[0,0],[1,2,3,0,0,0]] (@yW C) (by kernel_rfl) (a8 (bs:=[]) (by kernel_rfl) ax) (fun ds=>by kernel_rfl) (fun i x=>by kernel_rfl) (fun i x β k=>by kernel_rfl) (fun β ds k=>by kernel_rfl)
noncomputable def Cg (C:ae) (aj ar:Int) (ai:List V) (depth oh:Int):Option (List V):=
 bif (depth:Int)==0 then
  some [.bool false,.int .i64 oh]
 else
  bif (oh:Int)==0 then
  some [.bool false,.int .i64 oh]
  else
  (Loop (vO C depth ai (ai.length:Int)) (0,IntKind.wrap .i64 (oh-1))).bind (cu (un fun (jI:Bool) (b_4:Int)=>
   some [.bool jI,.int .i64 b_4]) (un fun (ik:Int)=>un fun (ml:Bool) (aek:Int)=>
   some [.bool true,.int .i64 aek]))
theorem HO {aj ar:Int} {ai:List V} {depth oh:Int} {r:Option (List V)} (h:Cg CC aj ar ai depth oh=r):CC yG [.int .i64 aj,.int .i64 ar,.list aa ai,.int .i64 depth,.int .i64 oh]=r:=
 aY (key:=48) (L:=Ug CC) (bs:=[.loop (aw [1,1,1,0,1,0,0] Uf)]) (by kernel_rfl) (bq (aej CC) ax) (aX (by kernel_rfl) h)
noncomputable abbrev Uh:Code:=cg Tryz.prog (au.aP 35)
noncomputable def yX (C:ae) (letters:Int) (t53:List V) (t54 t55:Int) {β:Type} (kn:Int→Option β) (kr:((Bool) ⊕ (Int × Bool))→Option β):Option β:=
 bif decide ((t55:Int)<t54) then
  (idx t53 t55).bind fun x1=>
  (C yE [.int .i64 ((x1.cell 0).toInt),.int .i64 ((x1.cell 1).toInt),.list aa ((x1.cell 2).toList),.int .i64 letters]).bind fun r2=>
  bif !((V.nth r2 0).toBool) then
  kr (.inl false)
  else
  kn (IntKind.wrap .i64 (t55+1))
 else
  kr (.inr (t55,decide ((t55:Int)<t54)))
noncomputable def fP (C:ae) (letters:Int) (t53:List V) (t54:Int):(Int)→Option ((Int) ⊕ ((Bool) ⊕ (Int × Bool))):=fun t55=>yX C letters t53 t54 t55 (fun y=>some (.inl y)) (fun r=>some (.inr r))
noncomputable def Ui (C:ae):bZ:=fun β n ds k=>
 bif Nat.beq n 321 then bK Mt [false,false,false,true] [[0],[1,2,3,0,0]] (@yX C) ds k else
 none
abbrev ael (C:ae) (b:bX):Prop:=bY Tryz.prog au C (Ui C) 35 (cj Tryz.prog (au.aP 35)) (au.sin 35).ba.length b
theorem aem (C:ae):ael C (.loop (aw [1,1,1,1,0,1,0,0] Uh)):=
 bN Mt [false,false,false,true] [[0],[1,2,3,0,0]] (@yX C) (by kernel_rfl) (a8 (bs:=[]) (by kernel_rfl) ax) (fun ds=>by kernel_rfl) (fun i x=>by kernel_rfl) (fun i x β k=>by kernel_rfl) (fun β ds k=>by kernel_rfl)
noncomputable def Uj (C:ae) (aj ar:Int) (ai:List V) (letters:Int):Option (List V):=
 bif (aj:Int)==3 then
  bif ((ai.length:Int):Int)==0 then
  bif decide ((ar:Int)≥0) then
   some [.bool (decide ((ar:Int)<letters))]
  else
   some [.bool false]
  else
  some [.bool false]
 else
  bif (ar:Int) != 0 then
  some [.bool false]
  else
  bif (aj:Int)==1 then
   bif (aj:Int)==1 then
   some [.bool (((ai.length:Int):Int)==0)]
   else
   bif (aj:Int)==4 then
    bif (aj:Int)==4 then
    bif decide (((ai.length:Int):Int)<2) then
     some [.bool false]
    else
     (Loop (fP C letters ai (ai.length:Int)) 0).bind (cu (fun (jI:Bool)=>
      some [.bool jI]) (un fun (mn:Int) (ik:Bool)=>
      some [.bool true]))
    else
    bif (aj:Int)==7 then
     bif (aj:Int)==7 then
     bif ((ai.length:Int):Int) != 1 then
      some [.bool false]
     else
      (Loop (fP C letters ai (ai.length:Int)) 0).bind (cu (fun (ml:Bool)=>
       some [.bool ml]) (un fun (nc:Int) (yY:Bool)=>
       some [.bool true]))
     else
     some [.bool false]
    else
     bif (aj:Int)==8 then
     bif ((ai.length:Int):Int) != 1 then
      some [.bool false]
     else
      (Loop (fP C letters ai (ai.length:Int)) 0).bind (cu (fun (oj:Bool)=>
       some [.bool oj]) (un fun (vP:Int) (tE:Bool)=>
       some [.bool true]))
     else
     some [.bool false]
   else
    bif (aj:Int)==5 then
    bif (aj:Int)==5 then
     bif decide (((ai.length:Int):Int)<2) then
     some [.bool false]
     else
     (Loop (fP C letters ai (ai.length:Int)) 0).bind (cu (fun (Ch:Bool)=>
      some [.bool Ch]) (un fun (Uk:Int) (Ci:Bool)=>
      some [.bool true]))
    else
     bif (aj:Int)==7 then
     bif (aj:Int)==7 then
      bif ((ai.length:Int):Int) != 1 then
      some [.bool false]
      else
      (Loop (fP C letters ai (ai.length:Int)) 0).bind (cu (fun (yZ:Bool)=>
       some [.bool yZ]) (un fun (Ul:Int) (aen:Bool)=>
       some [.bool true]))
     else
      some [.bool false]
     else
     bif (aj:Int)==8 then
      bif ((ai.length:Int):Int) != 1 then
      some [.bool false]
      else
      (Loop (fP C letters ai (ai.length:Int)) 0).bind (cu (fun (Um:Bool)=>
       some [.bool Um]) (un fun (an6:Int) (Un:Bool)=>
       some [.bool true]))
     else
      some [.bool false]
    else
    bif (aj:Int)==6 then
     bif decide (((ai.length:Int):Int)<2) then
     some [.bool false]
     else
     (Loop (fP C letters ai (ai.length:Int)) 0).bind (cu (fun (NR:Bool)=>
      some [.bool NR]) (un fun (NS:Int) (Uo:Bool)=>
      some [.bool true]))
    else
     bif (aj:Int)==7 then
     bif (aj:Int)==7 then
      bif ((ai.length:Int):Int) != 1 then
      some [.bool false]
      else
      (Loop (fP C letters ai (ai.length:Int)) 0).bind (cu (fun (aeo:Bool)=>
       some [.bool aeo]) (un fun (Up:Int) (NT:Bool)=>
       some [.bool true]))
     else
      some [.bool false]
     else
     bif (aj:Int)==8 then
      bif ((ai.length:Int):Int) != 1 then
      some [.bool false]
      else
      (Loop (fP C letters ai (ai.length:Int)) 0).bind (cu (fun (Uq:Bool)=>
       some [.bool Uq]) (un fun (an7:Int) (Ur:Bool)=>
       some [.bool true]))
     else
      some [.bool false]
  else
   bif (aj:Int)==2 then
   some [.bool (((ai.length:Int):Int)==0)]
   else
   bif (aj:Int)==4 then
    bif (aj:Int)==4 then
    bif decide (((ai.length:Int):Int)<2) then
     some [.bool false]
    else
     (Loop (fP C letters ai (ai.length:Int)) 0).bind (cu (fun (Us:Bool)=>
      some [.bool Us]) (un fun (an8:Int) (aep:Bool)=>
      some [.bool true]))
    else
    bif (aj:Int)==7 then
     bif (aj:Int)==7 then
     bif ((ai.length:Int):Int) != 1 then
      some [.bool false]
     else
      (Loop (fP C letters ai (ai.length:Int)) 0).bind (cu (fun (Ut:Bool)=>
       some [.bool Ut]) (un fun (aeq:Int) (an9:Bool)=>
       some [.bool true]))
     else
     some [.bool false]
    else
     bif (aj:Int)==8 then
     bif ((ai.length:Int):Int) != 1 then
      some [.bool false]
     else
      (Loop (fP C letters ai (ai.length:Int)) 0).bind (cu (fun (Uu:Bool)=>
       some [.bool Uu]) (un fun (aoa:Int) (Uv:Bool)=>
       some [.bool true]))
     else
     some [.bool false]
   else
    bif (aj:Int)==5 then
    bif (aj:Int)==5 then
     bif decide (((ai.length:Int):Int)<2) then
     some [.bool false]
     else
     (Loop (fP C letters ai (ai.length:Int)) 0).bind (cu (fun (Uw:Bool)=>
      some [.bool Uw]) (un fun (aob:Int) (aoc:Bool)=>
      some [.bool true]))
    else
     bif (aj:Int)==7 then
     bif (aj:Int)==7 then
      bif ((ai.length:Int):Int) != 1 then
      some [.bool false]
      else
      (Loop (fP C letters ai (ai.length:Int)) 0).bind (cu (fun (Ux:Bool)=>
       some [.bool Ux]) (un fun (aod:Int) (aoe:Bool)=>
       some [.bool true]))
     else
      some [.bool false]
     else
     bif (aj:Int)==8 then
      bif ((ai.length:Int):Int) != 1 then
      some [.bool false]
      else
      (Loop (fP C letters ai (ai.length:Int)) 0).bind (cu (fun (aer:Bool)=>
       some [.bool aer]) (un fun (aes:Int) (aof:Bool)=>
       some [.bool true]))
     else
      some [.bool false]
    else
    bif (aj:Int)==6 then
     bif decide (((ai.length:Int):Int)<2) then
     some [.bool false]
     else
     (Loop (fP C letters ai (ai.length:Int)) 0).bind (cu (fun (aet:Bool)=>
      some [.bool aet]) (un fun (aeu:Int) (aev:Bool)=>
      some [.bool true]))
    else
     bif (aj:Int)==7 then
     bif (aj:Int)==7 then
      bif ((ai.length:Int):Int) != 1 then
      some [.bool false]
      else
      (Loop (fP C letters ai (ai.length:Int)) 0).bind (cu (fun (aew:Bool)=>
       some [.bool aew]) (un fun (aog:Int) (aoh:Bool)=>
       some [.bool true]))
     else
      some [.bool false]
     else
     bif (aj:Int)==8 then
      bif ((ai.length:Int):Int) != 1 then
      some [.bool false]
      else
      (Loop (fP C letters ai (ai.length:Int)) 0).bind (cu (fun (Uy:Bool)=>
       some [.bool Uy]) (un fun (aoi:Int) (aoj:Bool)=>
       some [.bool true]))
     else
      some [.bool false]
theorem aex {aj ar:Int} {ai:List V} {letters:Int} {r:Option (List V)} (h:Uj CC aj ar ai letters=r):CC yE [.int .i64 aj,.int .i64 ar,.list aa ai,.int .i64 letters]=r:=
 aY (key:=35) (L:=Ui CC) (bs:=[.loop (aw [1,1,1,1,0,1,0,0] Uh)]) (by kernel_rfl) (bq (aem CC) ax) (aX (by kernel_rfl) h)
noncomputable def Uz (C:ae) (aj ar:Int) (ai:List V) (letters:Int):Option (List V):=
 (C yx [.int .i64 letters]).bind fun r1=>
 bif !((V.nth r1 0).toBool) then
  some [.int .i64 1]
 else
  (C GZ [.int .i64 aj,.int .i64 ar,.list aa ai]).bind fun r2=>
  bif !((V.nth r2 0).toBool) then
  some [.int .i64 3]
  else
  (C yz [.int .i64 aj,.int .i64 ar,.list aa ai,.int .i64 letters]).bind fun r3=>
  bif !((V.nth r3 0).toBool) then
   some [.int .i64 4]
  else
   some [.int .i64 0]
theorem aey {aj ar:Int} {ai:List V} {letters:Int} {r:Option (List V)} (h:Uz CC aj ar ai letters=r):CC GS [.int .i64 aj,.int .i64 ar,.list aa ai,.int .i64 letters]=r:=
 aY (key:=5) (L:=b6) (bs:=[]) (by kernel_rfl) ax (aX (by kernel_rfl) h)
noncomputable def UA (C:ae) (aj ar:Int) (ai:List V):Option (List V):=
 (C vA [.int .i64 aj,.int .i64 ar,.list aa ai,.int .i64 400]).bind fun r1=>
 bif decide ((((V.nth r1 0).toInt):Int)≤400) then
  some [.bool (decide ((((V.nth (r1.drop 1) 0).toInt):Int)≤40))]
 else
  some [.bool false]
theorem aez {aj ar:Int} {ai:List V} {r:Option (List V)} (h:UA CC aj ar ai=r):CC GZ [.int .i64 aj,.int .i64 ar,.list aa ai]=r:=
 aY (key:=16) (L:=b6) (bs:=[]) (by kernel_rfl) ax (aX (by kernel_rfl) h)
noncomputable abbrev UB:Code:=cg Tryz.prog (au.aP 18)
noncomputable def y5 (C:ae) (dh fg eD:Int) (dS:List V) (n deep i:Int) {β:Type} (kn:(Int × Int × Int)→Option β) (kr:(Int × Int × Int × Bool)→Option β):Option β:=
 bif decide ((i:Int)<(dS.length:Int)) then
  bif decide ((n:Int)≤dh) then
  (idx dS i).bind fun x1=>
  (C vA [.int .i64 ((x1.cell 0).toInt),.int .i64 ((x1.cell 1).toInt),.list aa ((x1.cell 2).toList),.int .i64 dh]).bind fun r2=>
  kn (if (IntKind.wrap .i64 (dh+1))<(IntKind.wrap .i64 (n+((V.nth r2 0).toInt))) then (IntKind.wrap .i64 (dh+1)) else (IntKind.wrap .i64 (n+((V.nth r2 0).toInt))),if ((V.nth (r2.drop 1) 0).toInt)>deep then ((V.nth (r2.drop 1) 0).toInt) else deep,IntKind.wrap .i64 (i+1))
  else
  kr (n,deep,i,decide ((n:Int)≤dh))
 else
  kr (n,deep,i,false)
noncomputable def y6 (C:ae) (dh fg eD:Int) (dS:List V):(Int × Int × Int)→Option ((Int × Int × Int) ⊕ (Int × Int × Int × Bool)):=un fun n=>un fun deep i=>y5 C dh fg eD dS n deep i (fun y=>some (.inl y)) (fun r=>some (.inr r))
noncomputable def UC (C:ae):bZ:=fun β n ds k=>
 bif Nat.beq n 49 then bK Mp [false,true,true,true,false,false,false] [[1,0,0,0,0,5,6,7]] (@y5 C) ds k else
 none
abbrev aeA (C:ae) (b:bX):Prop:=bY Tryz.prog au C (UC C) 18 (cj Tryz.prog (au.aP 18)) (au.sin 18).ba.length b
theorem aeB (C:ae):aeA C (.loop (aw [1,1,0,1,0,0] UB)):=
 bN Mp [false,true,true,true,false,false,false] [[1,0,0,0,0,5,6,7]] (@y5 C) (by kernel_rfl) (a8 (bs:=[]) (by kernel_rfl) ax) (fun ds=>by kernel_rfl) (fun i x=>by kernel_rfl) (fun i x β k=>by kernel_rfl) (fun β ds k=>by kernel_rfl)
noncomputable def UD (C:ae) (aj ar:Int) (ai:List V) (dh:Int):Option (List V):=
 (Loop (y6 C dh aj ar ai) (1,0,0)).bind (un fun (n_3:Int)=>un fun (aeC:Int)=>un fun (cW:Int) (ml:Bool)=>
  some [.int .i64 n_3,.int .i64 (IntKind.wrap .i64 (aeC+1))])
theorem aeD {aj ar:Int} {ai:List V} {dh:Int} {r:Option (List V)} (h:UD CC aj ar ai dh=r):CC vA [.int .i64 aj,.int .i64 ar,.list aa ai,.int .i64 dh]=r:=
 aY (key:=18) (L:=UC CC) (bs:=[.loop (aw [1,1,0,1,0,0] UB)]) (by kernel_rfl) (bq (aeB CC) ax) (aX (by kernel_rfl) h)
noncomputable abbrev y7:Code:=cg Tryz.prog (au.aP 17)
noncomputable def dm (C:ae) (letters k':Int) (ok t39:Bool) (fg eD:Int) (dS:List V) {β:Type} (kr:(Bool)→Option β):Option β:=
 bif t39 then
  bif ok then
  bif decide ((eD:Int)≥0) then
   kr (decide ((eD:Int)<letters))
  else
   kr false
  else
  kr false
 else
  bif ok then
  kr ((eD:Int)==0)
  else
  kr false
noncomputable def y8 (C:ae) (letters k' fg eD:Int) (dS:List V) (ok:Bool) (i:Int) {β:Type} (kn:(Bool × Int)→Option β) (kr:(Bool × Int × Bool)→Option β):Option β:=
 bif decide ((i:Int)<k') then
  bif ok then
  (idx dS i).bind fun x2=>
  (C yz [.int .i64 ((x2.cell 0).toInt),.int .i64 ((x2.cell 1).toInt),.list aa ((x2.cell 2).toList),.int .i64 letters]).bind fun r3=>
  kn ((V.nth r3 0).toBool,IntKind.wrap .i64 (i+1))
  else
  kr (ok,i,ok)
 else
  kr (ok,i,false)
noncomputable def di (C:ae) (letters k' fg eD:Int) (dS:List V):(Bool × Int)→Option ((Bool × Int) ⊕ (Bool × Int × Bool)):=un fun ok i=>y8 C letters k' fg eD dS ok i (fun y=>some (.inl y)) (fun r=>some (.inr r))
noncomputable def UE (C:ae):bZ:=fun β n ds k=>
 bif Nat.beq n 639 then iM Mn [[1,2,0,5,6,7]] (@dm C) ds k else
 bif Nat.beq n 257 then bK Mo [false,false,true,true,false,false,false] [[1,2,0,0,0,5,6,7]] (@y8 C) ds k else
 none
abbrev UF (C:ae) (b:bX):Prop:=bY Tryz.prog au C (UE C) 17 (cj Tryz.prog (au.aP 17)) (au.sin 17).ba.length b
theorem aeE (C:ae):UF C (.cond 39 (aw [1,1,1,1,0,1,0] y7) (aw [1,1,1,1,0,1,1] y7)):=
 jq Mn [[1,2,0,5,6,7]] (@dm C) (by kernel_rfl) (a8 (bs:=[]) (by kernel_rfl) ax) (a8 (bs:=[]) (by kernel_rfl) ax) (fun ds=>by kernel_rfl) (fun i β k=>by kernel_rfl) (fun β ds k=>by kernel_rfl)
theorem aeF (C:ae):UF C (.loop (aw [1,1,1,1,1,0,1,0,0] y7)):=
 bN Mo [false,false,true,true,false,false,false] [[1,2,0,0,0,5,6,7]] (@y8 C) (by kernel_rfl) (a8 (bs:=[]) (by kernel_rfl) ax) (fun ds=>by kernel_rfl) (fun i x=>by kernel_rfl) (fun i x β k=>by kernel_rfl) (fun β ds k=>by kernel_rfl)
noncomputable def UG (C:ae) (aj ar:Int) (ai:List V) (letters:Int):Option (List V):=
 bif decide ((aj:Int)≥1) then
  bif (aj:Int)==1 then
  bif (aj:Int)==1 then
   dm C letters (ai.length:Int) (((ai.length:Int):Int)==0) ((aj:Int)==3) aj ar ai (fun (aeG:Bool)=>
    (Loop (di C letters (ai.length:Int) aj ar ai) (aeG,0)).bind (un fun (aeH:Bool)=>un fun (cW:Int) (ml:Bool)=>
     some [.bool aeH]))
  else
   bif (aj:Int)==7 then
   bif (aj:Int)==7 then
    dm C letters (ai.length:Int) (((ai.length:Int):Int)==1) ((aj:Int)==3) aj ar ai (fun (aeI:Bool)=>
     (Loop (di C letters (ai.length:Int) aj ar ai) (aeI,0)).bind (un fun (aeJ:Bool)=>un fun (i_9:Int) (vP:Bool)=>
      some [.bool aeJ]))
   else
    bif decide ((aj:Int)≤8) then
    dm C letters (ai.length:Int) (decide (((ai.length:Int):Int)≥2)) ((aj:Int)==3) aj ar ai (fun (aeK:Bool)=>
     (Loop (di C letters (ai.length:Int) aj ar ai) (aeK,0)).bind (un fun (aeL:Bool)=>un fun (aok:Int) (Ci:Bool)=>
      some [.bool aeL]))
    else
    dm C letters (ai.length:Int) false ((aj:Int)==3) aj ar ai (fun (aeM:Bool)=>
     (Loop (di C letters (ai.length:Int) aj ar ai) (aeM,0)).bind (un fun (aeN:Bool)=>un fun (aol:Int) (Um:Bool)=>
      some [.bool aeN]))
   else
   bif (aj:Int)==8 then
    dm C letters (ai.length:Int) (((ai.length:Int):Int)==1) ((aj:Int)==3) aj ar ai (fun (aeO:Bool)=>
     (Loop (di C letters (ai.length:Int) aj ar ai) (aeO,0)).bind (un fun (aeP:Bool)=>un fun (aom:Int) (NS:Bool)=>
      some [.bool aeP]))
   else
    bif decide ((aj:Int)≤8) then
    dm C letters (ai.length:Int) (decide (((ai.length:Int):Int)≥2)) ((aj:Int)==3) aj ar ai (fun (aeQ:Bool)=>
     (Loop (di C letters (ai.length:Int) aj ar ai) (aeQ,0)).bind (un fun (aeR:Bool)=>un fun (aon:Int) (NT:Bool)=>
      some [.bool aeR]))
    else
    dm C letters (ai.length:Int) false ((aj:Int)==3) aj ar ai (fun (aeS:Bool)=>
     (Loop (di C letters (ai.length:Int) aj ar ai) (aeS,0)).bind (un fun (aeT:Bool)=>un fun (aoo:Int) (Us:Bool)=>
      some [.bool aeT]))
  else
  bif (aj:Int)==2 then
   bif (aj:Int)==2 then
   dm C letters (ai.length:Int) (((ai.length:Int):Int)==0) ((aj:Int)==3) aj ar ai (fun (aeU:Bool)=>
    (Loop (di C letters (ai.length:Int) aj ar ai) (aeU,0)).bind (un fun (aeV:Bool)=>un fun (aop:Int) (aeq:Bool)=>
     some [.bool aeV]))
   else
   bif (aj:Int)==7 then
    bif (aj:Int)==7 then
    dm C letters (ai.length:Int) (((ai.length:Int):Int)==1) ((aj:Int)==3) aj ar ai (fun (aeW:Bool)=>
     (Loop (di C letters (ai.length:Int) aj ar ai) (aeW,0)).bind (un fun (aeX:Bool)=>un fun (aeY:Int) (Uv:Bool)=>
      some [.bool aeX]))
    else
    bif decide ((aj:Int)≤8) then
     dm C letters (ai.length:Int) (decide (((ai.length:Int):Int)≥2)) ((aj:Int)==3) aj ar ai (fun (aeZ:Bool)=>
      (Loop (di C letters (ai.length:Int) aj ar ai) (aeZ,0)).bind (un fun (ae0:Bool)=>un fun (aoq:Int) (Ux:Bool)=>
       some [.bool ae0]))
    else
     dm C letters (ai.length:Int) false ((aj:Int)==3) aj ar ai (fun (ae1:Bool)=>
      (Loop (di C letters (ai.length:Int) aj ar ai) (ae1,0)).bind (un fun (ae2:Bool)=>un fun (aor:Int) (aes:Bool)=>
       some [.bool ae2]))
   else
    bif (aj:Int)==8 then
    dm C letters (ai.length:Int) (((ai.length:Int):Int)==1) ((aj:Int)==3) aj ar ai (fun (ae3:Bool)=>
     (Loop (di C letters (ai.length:Int) aj ar ai) (ae3,0)).bind (un fun (ae4:Bool)=>un fun (aos:Int) (aev:Bool)=>
      some [.bool ae4]))
    else
    bif decide ((aj:Int)≤8) then
     dm C letters (ai.length:Int) (decide (((ai.length:Int):Int)≥2)) ((aj:Int)==3) aj ar ai (fun (ae5:Bool)=>
      (Loop (di C letters (ai.length:Int) aj ar ai) (ae5,0)).bind (un fun (ae6:Bool)=>un fun (aot:Int) (Uy:Bool)=>
       some [.bool ae6]))
    else
     dm C letters (ai.length:Int) false ((aj:Int)==3) aj ar ai (fun (ae7:Bool)=>
      (Loop (di C letters (ai.length:Int) aj ar ai) (ae7,0)).bind (un fun (ae8:Bool)=>un fun (aou:Int) (aov:Bool)=>
       some [.bool ae8]))
  else
   bif (aj:Int)==3 then
   dm C letters (ai.length:Int) (((ai.length:Int):Int)==0) ((aj:Int)==3) aj ar ai (fun (ae9:Bool)=>
    (Loop (di C letters (ai.length:Int) aj ar ai) (ae9,0)).bind (un fun (afa:Bool)=>un fun (aow:Int) (aox:Bool)=>
     some [.bool afa]))
   else
   bif (aj:Int)==7 then
    bif (aj:Int)==7 then
    dm C letters (ai.length:Int) (((ai.length:Int):Int)==1) ((aj:Int)==3) aj ar ai (fun (afb:Bool)=>
     (Loop (di C letters (ai.length:Int) aj ar ai) (afb,0)).bind (un fun (afc:Bool)=>un fun (aoy:Int) (aoz:Bool)=>
      some [.bool afc]))
    else
    bif decide ((aj:Int)≤8) then
     dm C letters (ai.length:Int) (decide (((ai.length:Int):Int)≥2)) ((aj:Int)==3) aj ar ai (fun (afd:Bool)=>
      (Loop (di C letters (ai.length:Int) aj ar ai) (afd,0)).bind (un fun (afe:Bool)=>un fun (aoA:Int) (aoB:Bool)=>
       some [.bool afe]))
    else
     dm C letters (ai.length:Int) false ((aj:Int)==3) aj ar ai (fun (aff:Bool)=>
      (Loop (di C letters (ai.length:Int) aj ar ai) (aff,0)).bind (un fun (afg:Bool)=>un fun (aoC:Int) (aoD:Bool)=>
       some [.bool afg]))
   else
    bif (aj:Int)==8 then
    dm C letters (ai.length:Int) (((ai.length:Int):Int)==1) ((aj:Int)==3) aj ar ai (fun (afh:Bool)=>
     (Loop (di C letters (ai.length:Int) aj ar ai) (afh,0)).bind (un fun (afi:Bool)=>un fun (aoE:Int) (aoF:Bool)=>
      some [.bool afi]))
    else
    bif decide ((aj:Int)≤8) then
     dm C letters (ai.length:Int) (decide (((ai.length:Int):Int)≥2)) ((aj:Int)==3) aj ar ai (fun (afj:Bool)=>
      (Loop (di C letters (ai.length:Int) aj ar ai) (afj,0)).bind (un fun (afk:Bool)=>un fun (aoG:Int) (aoH:Bool)=>
       some [.bool afk]))
    else
     dm C letters (ai.length:Int) false ((aj:Int)==3) aj ar ai (fun (afl:Bool)=>
      (Loop (di C letters (ai.length:Int) aj ar ai) (afl,0)).bind (un fun (afm:Bool)=>un fun (aoI:Int) (aoJ:Bool)=>
       some [.bool afm]))
 else
  bif (aj:Int)==1 then
  bif (aj:Int)==1 then
   dm C letters (ai.length:Int) (((ai.length:Int):Int)==0) ((aj:Int)==3) aj ar ai (fun (afn:Bool)=>
    (Loop (di C letters (ai.length:Int) aj ar ai) (afn,0)).bind (un fun (afo:Bool)=>un fun (aoK:Int) (aoL:Bool)=>
     some [.bool afo]))
  else
   bif (aj:Int)==7 then
   bif (aj:Int)==7 then
    dm C letters (ai.length:Int) (((ai.length:Int):Int)==1) ((aj:Int)==3) aj ar ai (fun (afp:Bool)=>
     (Loop (di C letters (ai.length:Int) aj ar ai) (afp,0)).bind (un fun (afq:Bool)=>un fun (aoM:Int) (aoN:Bool)=>
      some [.bool afq]))
   else
    dm C letters (ai.length:Int) false ((aj:Int)==3) aj ar ai (fun (afr:Bool)=>
     (Loop (di C letters (ai.length:Int) aj ar ai) (afr,0)).bind (un fun (afs:Bool)=>un fun (aoO:Int) (aoP:Bool)=>
      some [.bool afs]))
   else
   bif (aj:Int)==8 then
    dm C letters (ai.length:Int) (((ai.length:Int):Int)==1) ((aj:Int)==3) aj ar ai (fun (aft:Bool)=>
     (Loop (di C letters (ai.length:Int) aj ar ai) (aft,0)).bind (un fun (afu:Bool)=>un fun (aoQ:Int) (aoR:Bool)=>
      some [.bool afu]))
   else
    dm C letters (ai.length:Int) false ((aj:Int)==3) aj ar ai (fun (afv:Bool)=>
     (Loop (di C letters (ai.length:Int) aj ar ai) (afv,0)).bind (un fun (afw:Bool)=>un fun (aoS:Int) (aoT:Bool)=>
      some [.bool afw]))
  else
  bif (aj:Int)==2 then
   bif (aj:Int)==2 then
   dm C letters (ai.length:Int) (((ai.length:Int):Int)==0) ((aj:Int)==3) aj ar ai (fun (afx:Bool)=>
    (Loop (di C letters (ai.length:Int) aj ar ai) (afx,0)).bind (un fun (afy:Bool)=>un fun (aoU:Int) (aoV:Bool)=>
     some [.bool afy]))
   else
   bif (aj:Int)==7 then
    bif (aj:Int)==7 then
    dm C letters (ai.length:Int) (((ai.length:Int):Int)==1) ((aj:Int)==3) aj ar ai (fun (afz:Bool)=>
     (Loop (di C letters (ai.length:Int) aj ar ai) (afz,0)).bind (un fun (afA:Bool)=>un fun (aoW:Int) (aoX:Bool)=>
      some [.bool afA]))
    else
    dm C letters (ai.length:Int) false ((aj:Int)==3) aj ar ai (fun (afB:Bool)=>
     (Loop (di C letters (ai.length:Int) aj ar ai) (afB,0)).bind (un fun (afC:Bool)=>un fun (aoY:Int) (aoZ:Bool)=>
      some [.bool afC]))
   else
    bif (aj:Int)==8 then
    dm C letters (ai.length:Int) (((ai.length:Int):Int)==1) ((aj:Int)==3) aj ar ai (fun (afD:Bool)=>
     (Loop (di C letters (ai.length:Int) aj ar ai) (afD,0)).bind (un fun (afE:Bool)=>un fun (ao0:Int) (ao1:Bool)=>
      some [.bool afE]))
    else
    dm C letters (ai.length:Int) false ((aj:Int)==3) aj ar ai (fun (afF:Bool)=>
     (Loop (di C letters (ai.length:Int) aj ar ai) (afF,0)).bind (un fun (afG:Bool)=>un fun (ao2:Int) (ao3:Bool)=>
      some [.bool afG]))
  else
   bif (aj:Int)==3 then
   dm C letters (ai.length:Int) (((ai.length:Int):Int)==0) ((aj:Int)==3) aj ar ai (fun (afH:Bool)=>
    (Loop (di C letters (ai.length:Int) aj ar ai) (afH,0)).bind (un fun (afI:Bool)=>un fun (ao4:Int) (ao5:Bool)=>
     some [.bool afI]))
   else
   bif (aj:Int)==7 then
    bif (aj:Int)==7 then
    dm C letters (ai.length:Int) (((ai.length:Int):Int)==1) ((aj:Int)==3) aj ar ai (fun (afJ:Bool)=>
     (Loop (di C letters (ai.length:Int) aj ar ai) (afJ,0)).bind (un fun (afK:Bool)=>un fun (ao6:Int) (ao7:Bool)=>
      some [.bool afK]))
    else
    dm C letters (ai.length:Int) false ((aj:Int)==3) aj ar ai (fun (afL:Bool)=>
     (Loop (di C letters (ai.length:Int) aj ar ai) (afL,0)).bind (un fun (afM:Bool)=>un fun (ao8:Int) (ao9:Bool)=>
      some [.bool afM]))
   else
    bif (aj:Int)==8 then
    dm C letters (ai.length:Int) (((ai.length:Int):Int)==1) ((aj:Int)==3) aj ar ai (fun (afN:Bool)=>
     (Loop (di C letters (ai.length:Int) aj ar ai) (afN,0)).bind (un fun (afO:Bool)=>un fun (apa:Int) (apb:Bool)=>
      some [.bool afO]))
    else
    dm C letters (ai.length:Int) false ((aj:Int)==3) aj ar ai (fun (afP:Bool)=>
     (Loop (di C letters (ai.length:Int) aj ar ai) (afP,0)).bind (un fun (afQ:Bool)=>un fun (apc:Int) (apd:Bool)=>
      some [.bool afQ]))
theorem afR {aj ar:Int} {ai:List V} {letters:Int} {r:Option (List V)} (h:UG CC aj ar ai letters=r):CC yz [.int .i64 aj,.int .i64 ar,.list aa ai,.int .i64 letters]=r:=
 aY (key:=17) (L:=UE CC) (bs:=[.cond 39 (aw [1,1,1,1,0,1,0] y7) (aw [1,1,1,1,0,1,1] y7),.loop (aw [1,1,1,1,1,0,1,0,0] y7)]) (by kernel_rfl) (bq (aeE CC) (bq (aeF CC) ax)) (aX (by kernel_rfl) h)
noncomputable def NU (C:ae) (letters:Int):Option (List V):=
 bif decide ((letters:Int)≥1) then
  some [.bool (decide ((letters:Int)≤6))]
 else
  some [.bool false]
theorem UH {letters:Int} {r:Option (List V)} (h:NU CC letters=r):CC yx [.int .i64 letters]=r:=
 aY (key:=15) (L:=b6) (bs:=[]) (by kernel_rfl) ax (aX (by kernel_rfl) h)
end Go.AM
set_option maxRecDepth 100000
namespace Go.AM
open Go.Proofs Ex
theorem jJ (pre aJ:List Ex) (k:Ex):idx ((pre++k::aJ).map enc) (pre.length:Int)=some k.enc:=by
 rw[n0];simp
theorem bz (k:Ex):(k.enc.cell 0).toInt=k.op:=by rw[eY];simp
theorem bA (k:Ex):(k.enc.cell 1).toInt=k.letter:=by rw[eY];simp
theorem bB (k:Ex):(k.enc.cell 2).toList=k.kids.map enc:=by rw[eY];simp
theorem afS {ks:List Ex} (hlen:ks.length≤maxLen) {d:Int} (hd:0≤d∧d≤1000) (ih: ∀k∈ks,∀d l:Int,0≤d→d≤1000→0≤l→l≤1000→∃l',CC yG (b9 k [.int .i64 d,.int .i64 l])=some [.bool (decide ((k.depth:Int)≤d∧(k.size:Int)≤l)),.int .i64 l']∧0≤l'∧l'≤l∧(((k.depth:Int)≤d∧(k.size:Int)≤l)→l'=l-k.size)):
  ∀(aJ pre:List Ex) (l:Int),ks=pre++aJ→0≤l→l≤1000→1≤d→
  (∃l':Int,Loop (vO CC d (ks.map enc) ((ks.map enc).length:Int)) (((pre.length:Nat):Int),l)=some (.inl (false,l'))∧¬((cS aJ:Int)≤d-1∧(aS aJ:Int)≤l)∧0≤l'∧l'≤l)∨
  (∃i b,Loop (vO CC d (ks.map enc) ((ks.map enc).length:Int)) (((pre.length:Nat):Int),l)=some (.inr (i,b,l-aS aJ))∧((cS aJ:Int)≤d-1∧(aS aJ:Int)≤l)):=by
 intro aJ
 induction aJ with
 | nil=>
  intro pre l br h0 h1 Gp
  subst br
  refine .inr ⟨((pre.length:Nat):Int),false,?_,?_⟩
  ·have hz:l-((aS ([]:List Ex):Nat):Int)=l:=by simp only[aS];omega
   rw[hz]
   refine bj ?_
   simp only[vO,yW,un,dy,bt,az]
   rw[ah (by omega)]
   simp
  ·simp only[cS,aS];omega
 | cons k aJ gN=>
  intro pre l br h0 h1 Gp
  obtain ⟨l',e1,e2,e3,e4⟩:=ih k (by rw[br];simp) (d-1) l (by omega) (by omega) h0 h1
  have cb:pre.length<ks.length:=by rw[br];simp
  have:=po
  have cC:idx (ks.map enc) (pre.length:Int)=some k.enc:=by rw[br];exact jJ _ _ _
  by_cases hk:(k.depth:Int)≤d-1∧(k.size:Int)≤l
  ·have e7:vO CC d (ks.map enc) ((ks.map enc).length:Int) (((pre.length:Nat):Int),l)=some (.inl ((((pre++[k]).length:Nat):Int),l')):=by
    simp only[vO,yW,un,bt,az]
    rw[ag (by omega),cC]
    simp only[Option.bind_some,bz,bA,bB]
    rw[wrap64 (by omega) (by omega),e1]
    simp only[Option.bind_some,V.aC,V.cQ,eK hk,qX,cond_false,ek,dK,V.toInt_int]
    rw[wrap64 (by omega) (by omega)]
    simp
   rw[bW e7]
   have e5:=e4 hk
   rcases gN (pre++[k]) l' (by rw[br];simp) e2 (by omega) Gp with ⟨l2,q1,q2,q3,q4⟩|⟨i,b,q1,q2⟩
   ·refine .inl ⟨l2,q1,?_,q3,by omega⟩
    simp only[cS,aS];omega
   ·refine .inr ⟨i,b,q1.trans ?_,?_⟩
    ·simp only[aS]
     congr 4
     omega
    ·simp only[cS,aS];omega
  ·refine .inl ⟨l',bj ?_,?_,e2,e3⟩
   ·simp only[vO,yW,un,bt,az]
    rw[ag (by omega),cC]
    simp only[Option.bind_some,bz,bA,bB]
    rw[wrap64 (by omega) (by omega),e1]
    simp only[Option.bind_some,V.aC,V.cQ,cl hk,uw,cond_true,ek,dK,V.toInt_int]
   ·simp only[cS,aS];omega
theorem afT: ∀e:Ex,e.Ok→∀d l:Int,0≤d→d≤1000→0≤l→l≤1000→
  ∃l',CC yG (b9 e [.int .i64 d,.int .i64 l])=some [.bool (decide ((e.depth:Int)≤d∧(e.size:Int)≤l)),.int .i64 l']∧0≤l'∧l'≤l∧(((e.depth:Int)≤d∧(e.size:Int)≤l)→l'=l-e.size):=
 ind fun o lt ks ih ay d l h1 U h3 h4=>by
  have lA: ∀k∈ks,_:=fun k hk=>ih k hk (ay.og k hk)
  have hs: ∀e:Ex,e= .node o lt ks→e.size=1+aS ks∧e.depth=1+cS ks:=by rintro e rfl;constructor<;>simp only[size,depth]
  obtain ⟨s1,s2⟩:=hs _ rfl
  by_cases hd:d=0
  ·have hn: ¬(((Ex.node o lt ks).depth:Int)≤d∧((Ex.node o lt ks).size:Int)≤l):=by omega
   refine ⟨l,HO ?_,h3,Int.le_refl _,fun h=>absurd h hn⟩
   simp only[Cg,dD,ag hd,cl hn]
  ·by_cases hl:l=0
   ·have hn: ¬(((Ex.node o lt ks).depth:Int)≤d∧((Ex.node o lt ks).size:Int)≤l):=by omega
    refine ⟨l,HO ?_,h3,Int.le_refl _,fun h=>absurd h hn⟩
    simp only[Cg,dD,ah hd,ag hl,cl hn]
   ·rcases afS ay.len ⟨h1,U⟩ lA ks [] (l-1) rfl (by omega) (by omega) (by omega) with ⟨l',q1,q2,q3,q4⟩|⟨i,b,q1,q2⟩
    ·have hn: ¬(((Ex.node o lt ks).depth:Int)≤d∧((Ex.node o lt ks).size:Int)≤l):=by omega
     refine ⟨l',HO ?_,q3,by omega,fun h=>absurd h hn⟩
     simp only[Cg,dD,ah hd,ah hl,cl hn,Ex.kids]
     rw[wrap64 (by omega) (by omega)]
     simp only[List.length_nil,Int.ofNat_zero,Int.natCast_zero] at q1
     erw [q1]
     rfl
    ·have hn:(((Ex.node o lt ks).depth:Int)≤d∧((Ex.node o lt ks).size:Int)≤l):=by omega
     refine ⟨l-1-aS ks,HO ?_,by omega,by omega,fun _=>by omega⟩
     simp only[Cg,dD,ah hd,ah hl,eK hn,Ex.kids]
     rw[wrap64 (by omega) (by omega)]
     simp only[List.length_nil,Int.ofNat_zero,Int.natCast_zero] at q1
     erw [q1]
     rfl
theorem afU (e:Ex) (h:e.Ok):CC G7 (b9 e [])=some [.bool (decide (e.depth≤40∧e.size≤400))]:=by
 obtain ⟨l',e1,_⟩:=afT e h 40 400 (by omega) (by omega) (by omega) (by omega)
 refine aeh ?_
 simp only[Ue]
 rw[e1]
 simp only[Option.bind_some,V.aC,V.cQ]
 congr 3
 rw[decide_eq_decide]
 omega
theorem afV {ks:List Ex} (hlen:ks.length≤maxLen) {a b dh:Int} (hm:1≤dh∧dh≤1000) (ih: ∀k∈ks,∃d,CC vA (b9 k [.int .i64 dh])=some [.int .i64 (min (k.size:Int) (dh+1)),.int .i64 d]∧((k.size:Int)≤dh→d=k.depth)):
  ∀(aJ pre:List Ex) (n deep:Int),ks=pre++aJ→1≤n→n≤dh+1→0≤deep→
  ∃y9 i b',Loop (y6 CC dh a b (ks.map enc)) (n,deep,((pre.length:Nat):Int))=some (min (n+(aS aJ:Int)) (dh+1),y9,i,b')∧(n+(aS aJ:Int)≤dh→y9=max deep (cS aJ)):=by
 intro aJ
 induction aJ with
 | nil=>
  intro pre n deep br h0 h1 hdp
  subst br
  refine ⟨deep,((pre.length:Nat):Int),false,?_,fun _=> ?_⟩
  ·have hz:min (n+((aS ([]:List Ex):Nat):Int)) (dh+1)=n:=by simp only[aS];omega
   rw[hz]
   refine bj ?_
   simp only[y6,y5,un,dy,bt,az]
   rw[ah (by omega)]
  ·simp only[cS];omega
 | cons k aJ gN=>
  intro pre n deep br h0 h1 hdp
  have cb:pre.length<ks.length:=by rw[br];simp
  have:=po
  have cC:idx (ks.map enc) (pre.length:Int)=some k.enc:=by rw[br];exact jJ _ _ _
  have hkp:=size_pos k
  by_cases hn:n≤dh
  ·obtain ⟨d,e1,e2⟩:=ih k (by rw[br];simp)
   have e7: ∃dd,y6 CC dh a b (ks.map enc) (n,deep,((pre.length:Nat):Int))=some (.inl (min (n+(k.size:Int)) (dh+1),dd,(((pre++[k]).length:Nat):Int)))∧dd=max deep d:=by
    refine ⟨max deep d,?_,rfl⟩
    simp only[y6,y5,un,bt,az]
    rw[ag (by omega),ag hn,cC]
    simp only[Option.bind_some,bz,bA,bB]
    rw[e1]
    simp only[Option.bind_some,V.aC,ek,dK,V.toInt_int]
    rw[wrap64 (by omega) (by omega),wrap64 (by omega) (by omega),wrap64 (by omega) (by omega)]
    have r1:(if dh+1<n+min (k.size:Int) (dh+1) then dh+1 else n+min (k.size:Int) (dh+1))=min (n+(k.size:Int)) (dh+1):=by split<;>omega
    have r2:(if d>deep then d else deep)=max deep d:=by split<;>omega
    rw[r1,r2]
    simp
   obtain ⟨dd,jc,rfl⟩:=e7
   rw[bW jc]
   obtain ⟨y9,i,b',q1,q2⟩:=gN (pre++[k]) (min (n+(k.size:Int)) (dh+1)) (max deep d) (by rw[br];simp) (by omega) (by omega) (by omega)
   refine ⟨y9,i,b',q1.trans ?_,fun h=> ?_⟩
   ·simp only[aS]
    congr 2
    omega
   ·simp only[aS] at h
    rw[q2 (by omega),e2 (by omega)]
    simp only[cS]
    omega
  ·refine ⟨deep,((pre.length:Nat):Int),false,?_,fun h=> ?_⟩
   ·have hz:min (n+((aS (k::aJ):Nat):Int)) (dh+1)=n:=by simp only[aS];omega
    rw[hz]
    refine bj ?_
    simp only[y6,y5,un,bt,az]
    rw[ag (by omega),ah hn]
    simp[hn]
   ·omega
theorem UI: ∀e:Ex,e.Ok→∀dh:Int,1≤dh→dh≤1000→∃d,CC vA (b9 e [.int .i64 dh])=some [.int .i64 (min (e.size:Int) (dh+1)),.int .i64 d]∧((e.size:Int)≤dh→d=e.depth):=
 ind fun o lt ks ih ay dh h1 U=>by
  obtain ⟨y9,i,b',q1,q2⟩:=afV (a:=o) (b:=lt) ay.len ⟨h1,U⟩ (fun k hk=>ih k hk (ay.og k hk) dh h1 U) ks [] 1 0 rfl (by omega) (by omega) (by omega)
  have s1:(Ex.node o lt ks).size=1+aS ks:=by simp only[size]
  have s2:(Ex.node o lt ks).depth=1+cS ks:=by simp only[depth]
  have s3:=aef (.node o lt ks)
  refine ⟨IntKind.wrap .i64 (y9+1),aeD ?_,fun h=> ?_⟩
  ·simp only[UD,Ex.kids,Ex.op,Ex.letter]
   simp only[List.length_nil,Int.ofNat_zero,Int.natCast_zero] at q1
   erw [q1]
   simp only[Option.bind_some,un]
   rw[show (1:Int)+(aS ks:Int)=((Ex.node o lt ks).size:Int) by omega]
  ·rw[q2 (by omega),wrap64 (by omega) (by omega)]
   omega
def dz (o l len letters:Int):Bool:=
 if o=3 then decide (len=0∧0≤l∧l<letters)
 else decide (l=0)&&(if o=1∨o=2 then decide (len=0) else if o=7∨o=8 then decide (len=1) else decide (4≤o∧o≤6∧2≤len))
mutual
def Ex.wf (letters:Int):Ex→Bool
 | .node o l ks=>dz o l ks.length letters&&il letters ks
def Ex.il (letters:Int):List Ex→Bool
 | []=>true
 | k::ks=>Ex.wf letters k&&il letters ks
end
theorem afW {ks:List Ex} (hlen:ks.length≤maxLen) {letters:Int} (ih: ∀k∈ks,CC yE (b9 k [.int .i64 letters])=some [.bool (k.wf letters)]):
  ∀(aJ pre:List Ex),ks=pre++aJ→
  (Loop (fP CC letters (ks.map enc) ((ks.map enc).length:Int)) ((pre.length:Nat):Int)=some (.inl false)∧il letters aJ=false)∨
  (∃i b,Loop (fP CC letters (ks.map enc) ((ks.map enc).length:Int)) ((pre.length:Nat):Int)=some (.inr (i,b))∧il letters aJ=true):=by
 intro aJ
 induction aJ with
 | nil=>
  intro pre br
  subst br
  refine .inr ⟨((pre.length:Nat):Int),false,bj ?_,by simp only[il]⟩
  simp only[fP,yX,dy,bt,az]
  rw[ah (by omega)]
  simp
 | cons k aJ gN=>
  intro pre br
  have cb:pre.length<ks.length:=by rw[br];simp
  have:=po
  have cC:idx (ks.map enc) (pre.length:Int)=some k.enc:=by rw[br];exact jJ _ _ _
  have e1:=ih k (by rw[br];simp)
  cases hw:k.wf letters with
  | true=>
   have e7:fP CC letters (ks.map enc) ((ks.map enc).length:Int) ((pre.length:Nat):Int)=some (.inl (((pre++[k]).length:Nat):Int)):=by
    simp only[fP,yX,bt,az]
    rw[ag (by omega),cC]
    simp only[Option.bind_some,bz,bA,bB]
    rw[e1,hw]
    simp only[Option.bind_some,V.aC,V.cQ,qX,cond_false]
    rw[wrap64 (by omega) (by omega)]
    simp
   rw[bW e7]
   simp only[il,hw,km]
   exact gN (pre++[k]) (by rw[br];simp)
  | false=>
   refine .inl ⟨bj ?_,by simp only[il,hw,Bool.false_and]⟩
   simp only[fP,yX,bt,az]
   rw[ag (by omega),cC]
   simp only[Option.bind_some,bz,bA,bB]
   rw[e1,hw]
   simp only[Option.bind_some,V.aC,V.cQ,uw,cond_true]
theorem Cj (o:Int):o=1∨o=2∨o=3∨o=4∨o=5∨o=6∨o=7∨o=8∨(o<1∨8<o):=by omega
theorem afX {letters:Int}: ∀e:Ex,e.Ok→CC yE (b9 e [.int .i64 letters])=some [.bool (e.wf letters)]:=
 ind fun o lt ks ih ay=>by
  refine aex ?_
  have hlen:((ks.map enc).length:Int)=(ks.length:Int):=by simp
  have hl:=afW ay.len (fun k hk=>ih k hk (ay.og k hk)) ks [] rfl
  simp only[List.length_nil,Int.natCast_zero,Int.ofNat_zero] at hl
  have jl:(Loop (fP CC letters (ks.map enc) ((ks.map enc).length:Int)) 0).bind (cu (fun (t:Bool)=>some [V.bool t]) (un fun (_:Int) (_:Bool)=>some [V.bool true]))=some [.bool (il letters ks)]:=by
   rcases hl with ⟨h1,U⟩|⟨i,b,h1,U⟩
   ·erw [h1];rw[U];rfl
   ·erw [h1];rw[U];rfl
  simp only[Ex.op,Ex.letter,Ex.kids]
  unfold Uj
  rw[jl,hlen]
  simp only[Ex.wf,dz]
  have mo:ks.length=0→il letters ks=true:=fun h=>by rw[lO h];simp only[il]
  rcases Cj o with rfl|rfl|rfl|rfl|rfl|rfl|rfl|rfl|ho
  case inr.inr.inr.inr.inr.inr.inr.inr=>
   have n1:o≠1:=by omega
   have n2:o≠2:=by omega
   have n3:o≠3:=by omega
   have n4:o≠4:=by omega
   have n5:o≠5:=by omega
   have n6:o≠6:=by omega
   have n7:o≠7:=by omega
   have n8:o≠8:=by omega
   have n9: ¬(4≤o∧o≤6∧2≤(ks.length:Int)):=by omega
   by_cases aQ:lt=0<;>simp[n1,n2,n3,n4,n5,n6,n7,n8,n9,aQ]
  all_goals by_cases aQ:lt=0<;>by_cases h0:ks.length=0<;>by_cases h1:ks.length=1<;>simp[aQ,h0,h1,mo]
  all_goals (try omega)
  all_goals (try (split<;>simp_all<;>omega))
theorem afY {C:ae} {letters k o lt:Int} {ok t:Bool} {es:List V} {β:Type} (kr:Bool→Option β):dm C letters k ok t o lt es kr=kr (ok&&(bif t then decide (0≤lt∧lt<letters) else decide (lt=0))):=by
 unfold dm
 have hb:(lt==0)=decide (lt=0):=by rw[nB];simp
 rw[hb]
 cases t<;>cases ok<;>first|rfl|skip
 by_cases h:0≤lt<;>simp[h]
theorem afZ {ks:List Ex} (hlen:ks.length≤maxLen) {letters o lt:Int} (ih: ∀k∈ks,CC yz (b9 k [.int .i64 letters])=some [.bool (k.wf letters)]):
  ∀(aJ pre:List Ex) (ok:Bool),ks=pre++aJ→
  ∃i b,Loop (di CC letters (ks.length:Int) o lt (ks.map enc)) (ok,((pre.length:Nat):Int))=some (ok&&il letters aJ,i,b):=by
 intro aJ
 induction aJ with
 | nil=>
  intro pre ok br
  subst br
  refine ⟨((pre.length:Nat):Int),false,bj ?_⟩
  simp only[di,y8,un,dy,az]
  rw[ah (by omega)]
  simp[il]
 | cons k aJ gN=>
  intro pre ok br
  have cb:pre.length<ks.length:=by rw[br];simp
  have:=po
  have cC:idx (ks.map enc) (pre.length:Int)=some k.enc:=by rw[br];exact jJ _ _ _
  have e1:=ih k (by rw[br];simp)
  cases ok with
  | true=>
   have e7:di CC letters (ks.length:Int) o lt (ks.map enc) (true,((pre.length:Nat):Int))=some (.inl (k.wf letters,(((pre++[k]).length:Nat):Int))):=by
    simp only[di,y8,un,az,cond_true]
    rw[ag (by omega),cC]
    simp only[Option.bind_some,bz,bA,bB]
    rw[e1]
    simp only[Option.bind_some,V.aC,V.cQ]
    rw[wrap64 (by omega) (by omega)]
    simp
   rw[bW e7]
   simp only[il,km]
   exact gN (pre++[k]) _ (by rw[br];simp)
  | false=>
   refine ⟨((pre.length:Nat):Int),false,bj ?_⟩
   simp only[di,y8,un,az,cond_false]
   rw[ag (by omega)]
   simp
theorem af0 {letters:Int}: ∀e:Ex,e.Ok→CC yz (b9 e [.int .i64 letters])=some [.bool (e.wf letters)]:=
 ind fun o lt ks ih ay=>by
  refine afR ?_
  have hlen:((ks.map enc).length:Int)=(ks.length:Int):=by simp
  have jl: ∀ok:Bool,(Loop (di CC letters (ks.length:Int) o lt (ks.map enc)) (ok,0)).bind (un fun (ok:Bool)=>un fun (_:Int) (_:Bool)=>some [V.bool ok])=some [.bool (ok&&il letters ks)]:=by
   intro ok
   obtain ⟨i,b,h⟩:=afZ ay.len (o:=o) (lt:=lt) (fun k hk=>ih k hk (ay.og k hk)) ks [] ok rfl
   simp only[List.length_nil,Int.natCast_zero,Int.ofNat_zero] at h
   erw [h];rfl
  simp only[Ex.op,Ex.letter,Ex.kids]
  unfold UG
  simp only[afY,hlen,jl]
  simp only[Ex.wf,dz]
  have mo:ks.length=0→il letters ks=true:=fun h=>by rw[lO h];simp only[il]
  rcases Cj o with rfl|rfl|rfl|rfl|rfl|rfl|rfl|rfl|ho
  case inr.inr.inr.inr.inr.inr.inr.inr=>
   have n1:o≠1:=by omega
   have n2:o≠2:=by omega
   have n3:o≠3:=by omega
   have n4:o≠4:=by omega
   have n5:o≠5:=by omega
   have n6:o≠6:=by omega
   have n7:o≠7:=by omega
   have n8:o≠8:=by omega
   have n9: ¬(4≤o∧o≤6∧2≤(ks.length:Int)):=by omega
   by_cases h1:1≤o
   ·have U: ¬o≤8:=by omega
    simp[n1,n2,n3,n4,n5,n6,n7,n8,n9,h1,U]
   ·simp[n1,n2,n3,n4,n5,n6,n7,n8,n9,h1]
  all_goals by_cases aQ:lt=0<;>by_cases h0:ks.length=0<;>by_cases h1:ks.length=1<;>simp[aQ,h0,h1,mo]
  all_goals (try omega)
  all_goals (try (split<;>simp_all<;>omega))
  all_goals (try (by_cases h5:2≤ks.length<;>simp[h5]))
  all_goals (rw[show ((ks.length:Int)==1)=decide ((ks.length:Int)=1) from by rw[nB];simp])
theorem af1 (letters:Int):CC yx [.int .i64 letters]=some [.bool (decide (1≤letters∧letters≤6))]:=by
 refine UH ?_
 unfold NU
 by_cases h1:1≤letters<;>by_cases U:letters≤6<;>simp[h1,U]
theorem af2 (e:Ex) (h:e.Ok):CC GZ (b9 e [])=some [.bool (decide (e.depth≤40∧e.size≤400))]:=by
 obtain ⟨d,e1,e2⟩:=UI e h 400 (by omega) (by omega)
 refine aez ?_
 unfold UA
 rw[e1]
 simp only[Option.bind_some,V.aC,V.toInt_int,az,ek,dK]
 by_cases hs:e.size≤400
 ·rw[ag (by omega),e2 (by omega)]
  congr 3
  rw[decide_eq_decide]
  omega
 ·rw[ah (by omega)]
  congr 3
  simp[hs]
def Ex.val (e:Ex) (letters:Int):Int:=
 if 1≤letters∧letters≤6 then (if e.depth≤40∧e.size≤400 then (if e.wf letters=true then 0 else 4) else 3) else 1
theorem NV (e:Ex) (h:e.Ok) (letters:Int):CC yA (b9 e [.int .i64 letters])=some [.int .i64 (e.val letters)]:=by
 refine aeg ?_
 unfold Ud Ex.val
 rw[afU e h,afX e h]
 by_cases h1:1≤letters
 ·by_cases U:letters≤6
  ·by_cases h3:e.depth≤40∧e.size≤400
   ·cases h4:e.wf letters<;>simp[h1,U,h3,show¬letters<1 by omega,show¬6<letters by omega]
   ·simp[h1,U,h3,show¬letters<1 by omega,show¬6<letters by omega]
  ·simp[h1,U,show¬letters<1 by omega,show 6<letters by omega]
 ·simp[h1,show letters<1 by omega]
theorem af3 (e:Ex) (h:e.Ok) (letters:Int):CC GS (b9 e [.int .i64 letters])=some [.int .i64 (e.val letters)]:=by
 refine aey ?_
 unfold Uz Ex.val
 rw[af2 e h,af0 e h,af1]
 by_cases h1:1≤letters∧letters≤6
 ·by_cases h3:e.depth≤40∧e.size≤400
  ·cases h4:e.wf letters<;>simp[h1,h3]
  ·simp[h1,h3]
 ·simp[h1]
end Go.AM
set_option maxRecDepth 100000
namespace Go.AM
open Go.Proofs
abbrev Lg:=List UInt8→Prop
def L2 (A B:Lg):Lg:=fun w=> ∃u v,w=u++v∧A u∧B v
inductive dH (A:Lg):Lg
 | nil:dH A []
 | cons {u v:List UInt8}:A u→dH A v→dH A (u++v)
def pq:List Lg→Lg
 | []=>fun _=>False
 | L::_=>L
def tF:List Lg→Lg
 | []=>fun w=>w=[]
 | L::Ls=>Ls.foldl L2 L
def dv (o l:Int) (Ls:List Lg):Lg:=fun w=>
 if o=2 then w=[] else if o=3 then∃c:UInt8,w=[c]∧(c.toNat:Int)-97=l
 else if o=4 then∃L∈Ls,L w else if o=5 then tF Ls w else if o=6 then∀L∈Ls,L w
 else if o=7 then dH (pq Ls) w else if o=8 then¬pq Ls w else False
mutual
def Ex.aL:Ex→Lg
 | .node o l ks=>dv o l (Ex.Ck ks)
def Ex.Ck:List Ex→List Lg
 | []=>[]
 | k::ks=>Ex.aL k::Ex.Ck ks
end
theorem UJ: ∀ks:List Ex,Ex.Ck ks=ks.map Ex.aL
 | []=>by simp only[Ex.Ck,fp]
 | k::ks=>by simp only[Ex.Ck,cr,UJ ks]
theorem kU {o l:Int} {ks:List Ex}:(Ex.node o l ks).aL=dv o l (ks.map Ex.aL):=by rw[Ex.aL,UJ]
theorem dH.append {A:Lg} {u v:List UInt8} (h:dH A u) (U:dH A v):dH A (u++v):=by
 induction h with
 | nil=>exact U
 | cons a _ ih=>rw[cw];exact .cons a ih
theorem dH.one {A:Lg} {u:List UInt8} (h:A u):dH A u:=by
 have:=dH.cons h (dH.nil (A:=A));rwa [dy] at this
theorem dH.first {A:Lg} {w:List UInt8} (h:dH A w):w=[]∨∃u v,u≠[]∧w=u++v∧A u∧dH A v:=by
 induction h with
 | nil=>exact .inl rfl
 | @cons u v a hv ih=>
  by_cases hu:u=[]
  ·subst hu;simpa using ih
  ·exact .inr ⟨u,v,hu,rfl,a,hv⟩
def sl (w:List UInt8) (i j:Nat):List UInt8:=(w.drop i).take (j-i)
def Pt (w:List UInt8) (L:Lg) (i j:Nat):Prop:=i≤j∧j≤w.length∧L (sl w i j)
theorem za {w:List UInt8} {i j:Nat} (h:i≤j) (hj:j≤w.length):(sl w i j).length=j-i:=by simp[sl];omega
theorem UK {w:List UInt8} {i:Nat}:sl w i i=[]:=by simp[sl]
theorem af4 {w:List UInt8}:sl w 0 w.length=w:=by simp[sl]
theorem NW {w:List UInt8} {i k j:Nat} (h:i≤k) (U:k≤j):sl w i k++sl w k j=sl w i j:=by
 unfold sl
 have e:j-i=(k-i)+(j-k):=by omega
 have e2:w.drop k=(w.drop i).drop (k-i):=by rw[pL];congr 1;omega
 rw[e,e2,List.take_add]
theorem UL {w u v:List UInt8} {i j:Nat} (h:i≤j) (hj:j≤w.length) (e:sl w i j=u++v):i≤i+u.length∧i+u.length≤j∧sl w i (i+u.length)=u∧sl w (i+u.length) j=v:=by
 have hl:=za h hj
 rw[e,cB] at hl
 have U:i+u.length≤j:=by omega
 refine ⟨by omega,U,?_⟩
 have:=NW (w:=w) (i:=i) (k:=i+u.length) (j:=j) (by omega) U
 rw[e] at this
 have l1:(sl w i (i+u.length)).length=u.length:=by rw[za (by omega) (by omega)];omega
 exact List.append_inj this l1
theorem af5 {w:List UInt8} {A B:Lg} {i j:Nat}:Pt w (L2 A B) i j↔∃k,Pt w A i k∧Pt w B k j:=by
 constructor
 ·rintro ⟨h1,U,u,v,e,ha,hb⟩
  obtain ⟨c1,c2,c3,c4⟩:=UL h1 U e
  exact ⟨i+u.length,⟨c1,by omega,by rw[c3];exact ha⟩,⟨c2,U,by rw[c4];exact hb⟩⟩
 ·rintro ⟨k,⟨h1,U,ha⟩,⟨h3,h4,hb⟩⟩
  exact ⟨by omega,h4,_,_,(NW h1 h3).symm,ha,hb⟩
theorem af6 {w:List UInt8} {A:Lg} {i:Nat} (h:i≤w.length):Pt w (dH A) i i:=⟨bV _,h,by rw[UK];exact .nil⟩
theorem NX {w:List UInt8} {A:Lg} {i k j:Nat} (h1:Pt w (dH A) i k) (U:Pt w (dH A) k j):Pt w (dH A) i j:=
 ⟨lg h1.1 U.1,U.2.1,by rw[←NW h1.1 U.1];exact h1.2.2.append U.2.2⟩
theorem af7 {w:List UInt8} {A:Lg} {i j:Nat} (h:Pt w A i j):Pt w (dH A) i j:=⟨h.1,h.2.1,.one h.2.2⟩
theorem af8 {w:List UInt8} {A:Lg} {i j:Nat}:Pt w (dH A) i j↔(i=j∧j≤w.length)∨∃k,i<k∧Pt w A i k∧Pt w (dH A) k j:=by
 constructor
 ·rintro ⟨h1,U,h⟩
  rcases h.first with h|⟨u,v,hu,e,ha,hv⟩
  ·left
   have:=za h1 U
   rw[h,List.length_nil] at this
   exact ⟨by omega,U⟩
  ·right
   obtain ⟨c1,c2,c3,c4⟩:=UL h1 U e
   have:0<u.length:=Au.2 hu
   exact ⟨i+u.length,by omega,⟨c1,by omega,by rw[c3];exact ha⟩,⟨c2,U,by rw[c4];exact hv⟩⟩
 ·rintro (⟨rfl,h⟩|⟨k,_,h1,U⟩)
  ·exact af6 h
  ·exact NX (af7 h1) U
def Ends (w:List UInt8) (F:Nat) (R:Nat→Option Nat) (L:Lg):Prop:= ∀i,F.testBit i=true→∃S:Nat,R i=some S∧∀j,S.testBit j=true↔Pt w L i j
def In (w:List UInt8) (F:Nat):Prop:= ∀i,F.testBit i=true→i≤w.length
theorem UM {w:List UInt8} {S i:Nat} {L:Lg} (h: ∀j,S.testBit j=true↔Pt w L i j):In w S:=fun j hj=>((h j).1 hj).2.1
theorem UN {S:Nat} {p:Nat→Prop} (h: ∀j,S.testBit j=true↔p j) {j:Nat} (hn: ¬p j):S.testBit j=false:=by
 cases hc:S.testBit j
 ·rfl
 ·exact absurd ((h j).1 hc) hn
theorem zb {S T j:Nat}:(S|||T).testBit j=true↔S.testBit j=true∨T.testBit j=true:=by rw[sO];simp
theorem zc {i j:Nat}:(2^i).testBit j=true↔j=i:=by rw[Ar];simp[eq_comm]
theorem af9 (n:Int):CC yx [.int .i64 n]=some [.bool (decide (1≤n∧n≤6))]:=by
 refine UH ?_
 unfold NU
 rw[az]
 split
 ·refine congrArg (fun b=>some [V.bool b]) ?_;rw[decide_eq_decide];omega
 ·have: ¬(1≤n∧n≤6):=by omega
  simp[this]
noncomputable abbrev UO:Code:=cg Tryz.prog (au.aP 27)
noncomputable def Cl (C:ae) (w:List UInt8) (letters t18 t19:Int) {β:Type} (kn:Int→Option β) (kr:((Bool) ⊕ (Int × Bool))→Option β):Option β:=
 bif decide ((t19:Int)<t18) then
  (bif decide (0≤t19) then (w[(t19:Int).toNat]?).map fun b=>V.int .u8 b.toNat else none).bind fun x1=>
  bif decide ((x1.toInt:Int)<97) then
  kr (.inl false)
  else
  (bif decide (0≤t19) then (w[(t19:Int).toNat]?).map fun b=>V.int .u8 b.toNat else none).bind fun x2=>
  bif decide (((IntKind.wrap .i64 (IntKind.wrap .u8 (x2.toInt-97))):Int)≥letters) then
   kr (.inl false)
  else
   kn (IntKind.wrap .i64 (t19+1))
 else
  kr (.inr (t19,decide ((t19:Int)<t18)))
noncomputable def HP (C:ae) (w:List UInt8) (letters t18:Int):(Int)→Option ((Int) ⊕ ((Bool) ⊕ (Int × Bool))):=fun t19=>Cl C w letters t18 t19 (fun y=>some (.inl y)) (fun r=>some (.inr r))
noncomputable def UP (C:ae):bZ:=fun β n ds k=>
 bif Nat.beq n 65 then bK Ms [false,false,false,true] [[0],[1,2,3,0,0]] (@Cl C) ds k else
 none
abbrev aga (C:ae) (b:bX):Prop:=bY Tryz.prog au C (UP C) 27 (cj Tryz.prog (au.aP 27)) (au.sin 27).ba.length b
theorem agb (C:ae):aga C (.loop (aw [1,1,0,1,0,0] UO)):=
 bN Ms [false,false,false,true] [[0],[1,2,3,0,0]] (@Cl C) (by kernel_rfl) (a8 (bs:=[]) (by kernel_rfl) ax) (fun ds=>by kernel_rfl) (fun i x=>by kernel_rfl) (fun i x β k=>by kernel_rfl) (fun β ds k=>by kernel_rfl)
noncomputable def UQ (C:ae) (w:List UInt8) (letters:Int):Option (List V):=
 bif decide ((letters:Int)<1) then
  some [.bool false]
 else
  bif decide ((letters:Int)>6) then
  some [.bool false]
  else
  bif decide (((w.length:Int):Int)>2048) then
   some [.bool false]
  else
   (Loop (HP C w letters (w.length:Int)) 0).bind (cu (fun (jI:Bool)=>
    some [.bool jI]) (un fun (mn:Int) (ik:Bool)=>
    some [.bool true]))
theorem agc {w:List UInt8} {letters:Int} {r:Option (List V)} (h:UQ CC w letters=r):CC G5 [.str w,.int .i64 letters]=r:=
 aY (key:=27) (L:=UP CC) (bs:=[.loop (aw [1,1,0,1,0,0] UO)]) (by kernel_rfl) (bq (agb CC) ax) (aX (by kernel_rfl) h)
noncomputable abbrev UR:Code:=cg Tryz.prog (au.aP 7)
noncomputable def Cm (C:ae) (w:List UInt8) (letters i:Int) {β:Type} (kn:Int→Option β) (kr:((Bool) ⊕ (Int × Bool))→Option β):Option β:=
 bif decide ((i:Int)<(w.length:Int)) then
  (bif decide (0≤i) then (w[(i:Int).toNat]?).map fun b=>V.int .u8 b.toNat else none).bind fun x2=>
  bif decide ((x2.toInt:Int)<97) then
  kr (.inl false)
  else
  (bif decide (0≤i) then (w[(i:Int).toNat]?).map fun b=>V.int .u8 b.toNat else none).bind fun x3=>
  bif decide (((IntKind.wrap .i64 (IntKind.wrap .u8 (x3.toInt-97))):Int)≥letters) then
   kr (.inl false)
  else
   kn (IntKind.wrap .i64 (i+1))
 else
  kr (.inr (i,decide ((i:Int)<(w.length:Int))))
noncomputable def HQ (C:ae) (w:List UInt8) (letters:Int):(Int)→Option ((Int) ⊕ ((Bool) ⊕ (Int × Bool))):=fun i=>Cm C w letters i (fun y=>some (.inl y)) (fun r=>some (.inr r))
noncomputable def US (C:ae):bZ:=fun β n ds k=>
 bif Nat.beq n 65 then bK Mi [false,false,true] [[0],[1,2,0,0]] (@Cm C) ds k else
 none
abbrev agd (C:ae) (b:bX):Prop:=bY Tryz.prog au C (US C) 7 (cj Tryz.prog (au.aP 7)) (au.sin 7).ba.length b
theorem age (C:ae):agd C (.loop (aw [1,1,0,1,0,0] UR)):=
 bN Mi [false,false,true] [[0],[1,2,0,0]] (@Cm C) (by kernel_rfl) (a8 (bs:=[]) (by kernel_rfl) ax) (fun ds=>by kernel_rfl) (fun i x=>by kernel_rfl) (fun i x β k=>by kernel_rfl) (fun β ds k=>by kernel_rfl)
noncomputable def UT (C:ae) (w:List UInt8) (letters:Int):Option (List V):=
 (C yx [.int .i64 letters]).bind fun r1=>
 bif !((V.nth r1 0).toBool) then
  some [.bool false]
 else
  bif decide (((w.length:Int):Int)>2048) then
  some [.bool false]
  else
  (Loop (HQ C w letters) 0).bind (cu (fun (mn:Bool)=>
   some [.bool mn]) (un fun (cW:Int) (ml:Bool)=>
   some [.bool true]))
theorem agf {w:List UInt8} {letters:Int} {r:Option (List V)} (h:UT CC w letters=r):CC GV [.str w,.int .i64 letters]=r:=
 aY (key:=7) (L:=US CC) (bs:=[.loop (aw [1,1,0,1,0,0] UR)]) (by kernel_rfl) (bq (age CC) ax) (aX (by kernel_rfl) h)
def dU (w:List UInt8) (i:Nat):Int:=((w.getD i 0).toNat:Int)-97
def mq (w:List UInt8) (L:Int):Prop:=1≤L∧L≤6∧w.length≤2048∧∀i,i<w.length→0≤dU w i∧dU w i<L
instance (w:List UInt8) (L:Int):Decidable (mq w L):=by unfold mq;infer_instance
theorem HR {w:List UInt8} {i:Nat} (h:i<w.length):(bif decide (0≤(i:Int)) then (w[((i:Nat):Int).toNat]?).map (fun b=>V.int .u8 b.toNat) else none)=some (.int .u8 ((w.getD i 0).toNat:Int)):=by
 rw[az,ag (by omega),Int.toNat_natCast]
 simp[h]
theorem UU (b:UInt8):b.toNat<256:=b.toNat_lt
theorem NY {w:List UInt8} {i:Nat} (h:0≤dU w i):IntKind.wrap .u8 (((w.getD i 0).toNat:Int)-97)=dU w i:=by
 have:=UU (w.getD i 0)
 unfold dU at*
 exact yl h (by omega)
theorem NZ {w:List UInt8} {i:Nat}:dU w i<256:=by
 have:=UU (w.getD i 0)
 unfold dU
 omega
theorem agh {w:List UInt8} {L:Int} (hl:w.length≤2048):Loop (HP CC w L (w.length:Int)) 0=some (if∀i,i<w.length→0≤dU w i∧dU w i<L then .inr ((w.length:Int),false) else .inl false):=by
 refine Ub (good:=fun i=>0≤dU w i∧dU w i<L) w.length (fun i=>(i:Int)) (Sum.inl false:Bool ⊕ (Int × Bool)) (Sum.inr ((w.length:Int),false)) (fun i hi=> ?_) ?_
 ·simp only[HP,Cl,un]
  rw[az,ag (by omega),HR hi]
  simp only[Option.bind_some,V.toInt_int,az]
  by_cases h1:0≤dU w i
  ·have fK:=h1
   unfold dU at fK
   rw[ah (by omega),NY h1,wrap64 (by omega) (by have:= @NZ w i;omega)]
   by_cases U:dU w i<L
   ·rw[ah (by omega),ag ⟨h1,U⟩,wrap64 (by omega) (by omega)]
    simp
   ·rw[ag (by omega),ah (fun h=>U h.2)]
  ·have fK:=h1
   unfold dU at fK
   rw[ag (by omega),ah (fun h=>h1 h.1)]
 ·simp only[HP,Cl,un]
  rw[az,ah (by omega)]
  simp
theorem agi {w:List UInt8} {L:Int} (hl:w.length≤2048):Loop (HQ CC w L) 0=some (if∀i,i<w.length→0≤dU w i∧dU w i<L then .inr ((w.length:Int),false) else .inl false):=by
 refine Ub (good:=fun i=>0≤dU w i∧dU w i<L) w.length (fun i=>(i:Int)) (Sum.inl false:Bool ⊕ (Int × Bool)) (Sum.inr ((w.length:Int),false)) (fun i hi=> ?_) ?_
 ·simp only[HQ,Cm,un]
  rw[az,ag (by omega),HR hi]
  simp only[Option.bind_some,V.toInt_int,az]
  by_cases h1:0≤dU w i
  ·have fK:=h1
   unfold dU at fK
   rw[ah (by omega),NY h1,wrap64 (by omega) (by have:= @NZ w i;omega)]
   by_cases U:dU w i<L
   ·rw[ah (by omega),ag ⟨h1,U⟩,wrap64 (by omega) (by omega)]
    simp
   ·rw[ag (by omega),ah (fun h=>U h.2)]
  ·have fK:=h1
   unfold dU at fK
   rw[ag (by omega),ah (fun h=>h1 h.1)]
 ·simp only[HQ,Cm,un]
  rw[az,ah (by omega)]
  simp
theorem agj (w:List UInt8) (L:Int):CC G5 [.str w,.int .i64 L]=some [.bool (decide (mq w L))]:=by
 refine agc ?_
 unfold UQ
 simp only[az]
 by_cases h1:L<1
 ·rw[ag h1,cl (fun h=>by have:=h.1;omega)]
 rw[ah h1]
 by_cases U:L>6
 ·rw[ag U,cl (fun h=>by have:=h.2.1;omega)]
 rw[ah U]
 by_cases h3:(w.length:Int)>2048
 ·rw[ag h3,cl (fun h=>by have:=h.2.2.1;omega)]
 rw[ah h3,agh (by omega)]
 by_cases h4: ∀i,i<w.length→0≤dU w i∧dU w i<L
 ·rw[ag h4,eK (show mq w L from ⟨by omega,by omega,by omega,h4⟩)]
  simp[cu,un]
 ·rw[ah h4,cl (fun h=>h4 h.2.2.2)]
  simp[cu,un]
theorem agk (w:List UInt8) (L:Int):CC GV [.str w,.int .i64 L]=some [.bool (decide (mq w L))]:=by
 refine agf ?_
 unfold UT
 rw[af9]
 simp only[Option.bind_some,V.aC,V.cQ,gd,az]
 by_cases h1: ¬(1≤L∧L≤6)
 ·rw[ah h1,cl (fun h=>h1 ⟨h.1,h.2.1⟩)]
 have h1:=ER.1 h1
 rw[ag h1]
 by_cases h3:(w.length:Int)>2048
 ·rw[ag h3,cl (fun h=>by have:=h.2.2.1;omega)]
 rw[ah h3,agi (by omega)]
 by_cases h4: ∀i,i<w.length→0≤dU w i∧dU w i<L
 ·rw[ag h4,eK (show mq w L from ⟨h1.1,h1.2,by omega,h4⟩)]
  simp[cu,un]
 ·rw[ah h4,cl (fun h=>h4 h.2.2.2)]
  simp[cu,un]
end Go.AM
namespace Go.AM
theorem agl: ∀(x:Nat),x≠0→∃k m,x=2^k*(2*m+1):=by
 intro x
 induction x using Nat.strongRecOn with
 | ind x ih=>
  intro hx
  by_cases h:x %2=1
  ·exact ⟨0,x/2,by simp;omega⟩
  ·obtain ⟨k,m,hm⟩:=ih (x/2) (by omega) (by omega)
   refine ⟨k+1,m,?_⟩
   rw[Nat.pow_succ,Nat.mul_assoc,lj 2 (2*m+1),←Nat.mul_assoc,←hm]
   omega
theorem zd {k m j:Nat}:(2^k*(2*m+1)).testBit j=(decide (j=k)||(decide (k<j)&&m.testBit (j-k-1))):=by
 rw[Nat.testBit_two_pow_mul]
 by_cases h:j<k
 ·have h1: ¬k≤j:=by omega
  have U: ¬j=k:=by omega
  have h3: ¬k<j:=by omega
  simp[h1,U,h3]
 ·by_cases U:j=k
  ·subst U;simp
  ·have h3:k<j:=by omega
   obtain ⟨d,hd⟩: ∃d,j-k=d+1:=⟨j-k-1,by omega⟩
   have h4:k≤j:=by omega
   rw[hd,Nat.testBit_succ]
   have h5:(2*m+1)/2=m:=by omega
   have h6:j-k-1=d:=by omega
   rw[h5]
   simp[U,h3,h4]
theorem UW {k m j:Nat}:(2^k*(2*m)).testBit j=(decide (k<j)&&m.testBit (j-k-1)):=by
 rw[Nat.testBit_two_pow_mul]
 by_cases h:j<k
 ·have h1: ¬k≤j:=by omega
  have h3: ¬k<j:=by omega
  simp[h1,h3]
 ·by_cases U:j=k
  ·subst U;simp
  ·have h3:k<j:=by omega
   obtain ⟨d,hd⟩: ∃d,j-k=d+1:=⟨j-k-1,by omega⟩
   have h4:k≤j:=by omega
   rw[hd,Nat.testBit_succ]
   have h5:2*m/2=m:=by omega
   have h6:j-k-1=d:=by omega
   rw[h5]
   simp[h3,h4]
theorem HS {k m:Nat} (h:2^k*(2*m+1)<2^64):k<64∧m<2^(63-k):=by
 have h1:2^k≤2^k*(2*m+1):=Nat.le_mul_of_pos_right _ (by omega)
 have hk:k<64:=(Nat.pow_lt_pow_iff_right (by omega:1<2)).1 (oJ h1 h)
 refine ⟨hk,?_⟩
 have U:2^64=2^k*(2*2^(63-k)):=by
  have h4:2*2^(63-k)=2^(63-k+1):=by rw[Nat.pow_succ,lj]
  rw[h4,←Nat.pow_add];congr 1;omega
 rw[U] at h
 have:=Nat.lt_of_mul_lt_mul_left h
 omega
theorem agm {k m:Nat} (h:2^k*(2*m+1)<2^64):2^64-2^k*(2*m+1)=2^k*(2*(2^(63-k)-(m+1))+1):=by
 obtain ⟨hk,hm⟩:=HS h
 have U:2^64=2^k*(2*2^(63-k)):=by
  have h4:2*2^(63-k)=2^(63-k+1):=by rw[Nat.pow_succ,lj]
  rw[h4,←Nat.pow_add];congr 1;omega
 rw[U,←Nat.mul_sub]
 congr 1
 omega
theorem agn {k m:Nat} (h:2^k*(2*m+1)<2^64):(2^k*(2*m+1))&&&(2^64-2^k*(2*m+1))=2^k:=by
 obtain ⟨hk,hm⟩:=HS h
 rw[agm h]
 apply Nat.eq_of_testBit_eq
 intro j
 rw[xf,zd,zd,Ar,Nat.testBit_two_pow_sub_succ hm]
 by_cases h1:j=k
 ·simp[h1]
 ·have U: ¬k=j:=fun h=>h1 h.symm
  cases m.testBit (j-k-1)<;>simp[h1,U]
theorem ago {k m:Nat}:(2^k*(2*m+1))&&&(2^k*(2*m+1)-1)=2^k*(2*m):=by
 have e:2^k*(2*m+1)-1=2^k*(2*m)+(2^k-1):=by
  have:0<2^k:=ux (by simp)
  rw[Nat.mul_add];omega
 rw[e]
 apply Nat.eq_of_testBit_eq
 intro j
 have aQ:2^k-1<2^k:=by have:0<2^k:=ux (by simp);omega
 rw[xf,zd,UW,Nat.testBit_two_pow_mul_add _ aQ,Nat.testBit_two_pow_sub_one]
 by_cases h1:j<k
 ·have U: ¬j=k:=by omega
  have h3: ¬k<j:=by omega
  simp[h1,U,h3]
 ·by_cases U:j=k
  ·subst U
   simp
  ·have h3:k<j:=by omega
   obtain ⟨d,hd⟩: ∃d,j-k=d+1:=⟨j-k-1,by omega⟩
   have h5:2*m/2=m:=by omega
   have h6:j-k-1=d:=by omega
   rw[hd,Nat.testBit_succ,h5]
   simp[h1,U,h3]
def mem (s:Nat):List Nat:=(List.range 64).filter s.testBit
theorem mem_iff {s j:Nat} (hs:s<2^64):j∈mem s↔s.testBit j=true:=by
 unfold mem
 rw[kq,Am]
 refine ⟨fun h=>h.2,fun h=>⟨?_,h⟩⟩
 by_cases hj:j<64
 ·exact hj
 ·have:s.testBit j=false:=Nat.testBit_lt_two_pow (oK hs (Nat.pow_le_pow_right (by omega) (by omega)))
  rw[this] at h;cases h
end Go.AM
set_option maxRecDepth 100000
namespace Go.AM
open Go.Proofs
noncomputable def UX (C:ae) (x:Int):Option (List V):=
 bif (x:Int)==0 then
  some [.int .i64 64]
 else
  bif (decide (0≤(Int.fdiv (IntKind.wrap .u64 (285870213051353865*(IntKind.wrap .u64 ((BitVec.ofInt (IntKind.bits .u64) x&&&BitVec.ofInt (IntKind.bits .u64) (IntKind.wrap .u64 (0-x))).toNat)))) (2^(min (58:Int).toNat (IntKind.bits .u64))))))&&(decide ((Int.fdiv (IntKind.wrap .u64 (285870213051353865*(IntKind.wrap .u64 ((BitVec.ofInt (IntKind.bits .u64) x&&&BitVec.ofInt (IntKind.bits .u64) (IntKind.wrap .u64 (0-x))).toNat)))) (2^(min (58:Int).toNat (IntKind.bits .u64))))<64)) then
  (((vH).drop ((Int.fdiv (IntKind.wrap .u64 (285870213051353865*(IntKind.wrap .u64 ((BitVec.ofInt (IntKind.bits .u64) x&&&BitVec.ofInt (IntKind.bits .u64) (IntKind.wrap .u64 (0-x))).toNat)))) (2^(min (58:Int).toNat (IntKind.bits .u64))):Int).toNat*1))[0]?).bind fun x1=>
  bif eG Tryz.prog 5 x1 then
   some [.int .i64 (IntKind.wrap .i64 x1.toInt)]
  else none
  else none
theorem agp {x:Int} {r:Option (List V)} (h:UX CC x=r):CC pj [.int .u64 x]=r:=
 aY (key:=62) (L:=b6) (bs:=[]) (by kernel_rfl) ax (aX (by kernel_rfl) h)
def Cn (k:Nat):Nat:=285870213051353865*2^k %18446744073709551616/288230376151711744
theorem agq:(List.range 64).map (fun k=>(vH.drop (Cn k*1))[0]?)=(List.range 64).map (fun k:Nat=>some (V.int .u8 (k:Int))):=by kernel_rfl
theorem agr:(List.range 64).all (fun k=>Nat.blt (Cn k) 64)=true:=by kernel_rfl
theorem ags {k:Nat} (hk:k<64):(vH.drop (Cn k*1))[0]? =some (V.int .u8 (k:Int)):=by
 have h:=congrArg (·[k]?) agq
 simpa[hk] using h
theorem agt {k:Nat} (hk:k<64):Cn k<64:=by
 have h:=fm.1 agr k (Am.2 hk)
 simpa[jP] using h
theorem agu (z:Int):eG Tryz.prog 5 (.int .u8 z)=true:=by kernel_rfl
theorem tG {k m:Nat} (h:2^k*(2*m+1)<2^64):CC pj [.int .u64 ((2^k*(2*m+1):Nat):Int)]=some [.int .i64 (k:Int)]:=by
 obtain ⟨hk,hm⟩:=HS h
 have jY:0<2^k*(2*m+1):=xb (ux (by simp)) (by omega)
 refine agp ?_
 unfold UX
 generalize hx:2^k*(2*m+1)=x at*
 have e1:IntKind.wrap .u64 (0-(x:Int))=((2^64-x:Nat):Int):=by rw[wrap_u64];omega
 have e2:x&&&(2^64-x)=2^k:=by rw[←hx];exact agn (by rw[hx];exact h)
 have fy:2^k<2^64:=As (by omega) hk
 have e3:IntKind.wrap .u64 (285870213051353865*((2^k:Nat):Int))=((285870213051353865*2^k %18446744073709551616:Nat):Int):=by rw[wrap_u64];omega
 have e4:Int.fdiv ((285870213051353865*2^k %18446744073709551616:Nat):Int) (2^(min (58:Int).toNat (IntKind.bits .u64)))=((Cn k:Nat):Int):=by
  have:=yV (A:=285870213051353865*2^k %18446744073709551616) (m:=58) (by omega)
  exact this
 rw[dD,ah (by omega),e1,u64_and h (by omega),e2,e3,e4,Int.toNat_natCast,ags hk]
 have hb:=agt hk
 rw[ct,az,ag (by omega),az,ag (by omega)]
 simp only[Option.bind_some,agu,cond_true,V.toInt_int]
 rw[wrap64 (by omega) (by omega)]
noncomputable def UY (C:ae) (i:Int) (ss:List V):Option (List V):=
 bif (decide (0≤(Int.fdiv i (2^(min (6:Int).toNat (IntKind.bits .i64))))))&&(decide ((Int.fdiv i (2^(min (6:Int).toNat (IntKind.bits .i64))))<(ss.length:Int))) then
  (ss[(Int.fdiv i (2^(min (6:Int).toNat (IntKind.bits .i64))):Int).toNat]?).bind fun x1=>
  bif decide (0≤(IntKind.wrap .i64 ((BitVec.ofInt (IntKind.bits .i64) i&&&BitVec.ofInt (IntKind.bits .i64) 63).toNat))) then
  bif (decide (0≤(Int.fdiv i (2^(min (6:Int).toNat (IntKind.bits .i64))))))&&(decide ((Int.fdiv i (2^(min (6:Int).toNat (IntKind.bits .i64))))<(ss.length:Int))) then
   (ss[(Int.fdiv i (2^(min (6:Int).toNat (IntKind.bits .i64))):Int).toNat]?).bind fun x2=>
   some [.list aI (ss.set ((Int.fdiv i (2^(min (6:Int).toNat (IntKind.bits .i64))):Int).toNat) (.int .u64 (IntKind.wrap .u64 ((BitVec.ofInt (IntKind.bits .u64) x1.toInt|||BitVec.ofInt (IntKind.bits .u64) (IntKind.wrap .u64 (1*2^(min (IntKind.wrap .i64 ((BitVec.ofInt (IntKind.bits .i64) i&&&BitVec.ofInt (IntKind.bits .i64) 63).toNat)).toNat (IntKind.bits .u64))))).toNat))))]
  else none
  else none
 else none
theorem agv {i:Int} {ss:List V} {r:Option (List V)} (h:UY CC i ss=r):CC vB [.int .i64 i,.list aI ss]=r:=
 aY (key:=29) (L:=b6) (bs:=[]) (by kernel_rfl) ax (aX (by kernel_rfl) h)
noncomputable def UZ (C:ae) (s:Nat) (i:Int) (ss:List V):Option (List V):=
 (da Tryz.prog aD ss [(s,0)]).bind fun x1=>
 bif (decide (0≤(Int.fdiv i (2^(min (6:Int).toNat (IntKind.bits .i64))))))&&(decide ((Int.fdiv i (2^(min (6:Int).toNat (IntKind.bits .i64))))<(x1.toList.length:Int))) then
  (da Tryz.prog aD ss [(s,0)]).bind fun x2=>
  (x2.toList[(Int.fdiv i (2^(min (6:Int).toNat (IntKind.bits .i64))):Int).toNat]?).bind fun x3=>
  bif decide (0≤(IntKind.wrap .i64 ((BitVec.ofInt (IntKind.bits .i64) i&&&BitVec.ofInt (IntKind.bits .i64) 63).toNat))) then
  (da Tryz.prog aD ss [(s,0)]).bind fun x4=>
  bif (decide (0≤(Int.fdiv i (2^(min (6:Int).toNat (IntKind.bits .i64))))))&&(decide ((Int.fdiv i (2^(min (6:Int).toNat (IntKind.bits .i64))))<(x4.toList.length:Int))) then
   (da Tryz.prog aD ss [(s,0)]).bind fun x5=>
   (x5.toList[(Int.fdiv i (2^(min (6:Int).toNat (IntKind.bits .i64))):Int).toNat]?).bind fun x6=>
   some [.list aD (setRow Tryz.prog (x5.toList.set ((Int.fdiv i (2^(min (6:Int).toNat (IntKind.bits .i64))):Int).toNat) (.int .u64 (IntKind.wrap .u64 ((BitVec.ofInt (IntKind.bits .u64) x3.toInt|||BitVec.ofInt (IntKind.bits .u64) (IntKind.wrap .u64 (1*2^(min (IntKind.wrap .i64 ((BitVec.ofInt (IntKind.bits .i64) i&&&BitVec.ofInt (IntKind.bits .i64) 63).toNat)).toNat (IntKind.bits .u64))))).toNat)))) aD ss [(s,0)])]
  else none
  else none
 else none
theorem agw {s:Nat} {i:Int} {ss:List V} {r:Option (List V)} (h:UZ CC s i ss=r):CC Hs [dF s,.int .i64 i,.list aD ss]=r:=
 aY (key:=137) (L:=b6) (bs:=[]) (by kernel_rfl) ax (aX (by kernel_rfl) h)
noncomputable def U0 (C:ae) (s:List V) (i:Int):Option (List V):=
 (idx s (Int.fdiv i (2^(min (6:Int).toNat (IntKind.bits .i64))))).bind fun x1=>
 bif decide (0≤(IntKind.wrap .i64 ((BitVec.ofInt (IntKind.bits .i64) i&&&BitVec.ofInt (IntKind.bits .i64) 63).toNat))) then
  some [.bool (((IntKind.wrap .u64 ((BitVec.ofInt (IntKind.bits .u64) (Int.fdiv x1.toInt (2^(min (IntKind.wrap .i64 ((BitVec.ofInt (IntKind.bits .i64) i&&&BitVec.ofInt (IntKind.bits .i64) 63).toNat)).toNat (IntKind.bits .u64))))&&&BitVec.ofInt (IntKind.bits .u64) 1).toNat)):Int)==1)]
 else none
theorem agx {s:List V} {i:Int} {r:Option (List V)} (h:U0 CC s i=r):CC yD [.list aI s,.int .i64 i]=r:=
 aY (key:=31) (L:=b6) (bs:=[]) (by kernel_rfl) ax (aX (by kernel_rfl) h)
noncomputable abbrev U1:Code:=cg Tryz.prog (au.aP 54)
noncomputable def Co (C:ae) (t:List V) (k':Int) (ss:List V) {β:Type} (kn:(Int × (List V))→Option β) (kr:(Int × Bool × (List V))→Option β):Option β:=
 bif decide ((k':Int)<(ss.length:Int)) then
  bif (decide (0≤k'))&&(decide (k'<(ss.length:Int))) then
  (ss[(k':Int).toNat]?).bind fun x1=>
  (idx t k').bind fun x2=>
  bif (decide (0≤k'))&&(decide (k'<(ss.length:Int))) then
   (ss[(k':Int).toNat]?).bind fun x3=>
   kn (IntKind.wrap .i64 (k'+1),ss.set ((k':Int).toNat) (.int .u64 (IntKind.wrap .u64 ((BitVec.ofInt (IntKind.bits .u64) x1.toInt|||BitVec.ofInt (IntKind.bits .u64) x2.toInt).toNat))))
  else none
  else none
 else
  kr (k',decide ((k':Int)<(ss.length:Int)),ss)
noncomputable def Cp (C:ae) (t:List V):(Int × (List V))→Option ((Int × (List V)) ⊕ (Int × Bool × (List V))):=un fun k' ss=>Co C t k' ss (fun y=>some (.inl y)) (fun r=>some (.inr r))
noncomputable def U2 (C:ae):bZ:=fun β n ds k=>
 bif Nat.beq n 17 then bK MK [false,true,true] [[1,0,0,0]] (@Co C) ds k else
 none
abbrev agy (C:ae) (b:bX):Prop:=bY Tryz.prog au C (U2 C) 54 (cj Tryz.prog (au.aP 54)) (au.sin 54).ba.length b
theorem agz (C:ae):agy C (.loop (aw [1,0,0] U1)):=
 bN MK [false,true,true] [[1,0,0,0]] (@Co C) (by kernel_rfl) (a8 (bs:=[]) (by kernel_rfl) ax) (fun ds=>by kernel_rfl) (fun i x=>by kernel_rfl) (fun i x β k=>by kernel_rfl) (fun β ds k=>by kernel_rfl)
noncomputable def U3 (C:ae) (t:List V) (least:Int) (ss:List V):Option (List V):=
 (Loop (Cp C t) (Int.fdiv least (2^(min (6:Int).toNat (IntKind.bits .i64))),ss)).bind (un fun (k_4:Int)=>un fun (ik:Bool) (agA:List V)=>
  some [.list aI agA])
theorem agB {t:List V} {least:Int} {ss:List V} {r:Option (List V)} (h:U3 CC t least ss=r):CC vD [.list aI t,.int .i64 least,.list aI ss]=r:=
 aY (key:=54) (L:=U2 CC) (bs:=[.loop (aw [1,0,0] U1)]) (by kernel_rfl) (bq (agz CC) ax) (aX (by kernel_rfl) h)
noncomputable def U4 (C:ae) (m:List UInt8):Option (List V):=
 bif (decide (0≤(IntKind.wrap .i64 ((Int.fdiv (m.length:Int) (2^(min (6:Int).toNat (IntKind.bits .i64))))+1))))&&((decide ((IntKind.wrap .i64 ((Int.fdiv (m.length:Int) (2^(min (6:Int).toNat (IntKind.bits .i64))))+1))≤(IntKind.wrap .i64 ((Int.fdiv (m.length:Int) (2^(min (6:Int).toNat (IntKind.bits .i64))))+1))))&&(Nat.ble (((IntKind.wrap .i64 ((Int.fdiv (m.length:Int) (2^(min (6:Int).toNat (IntKind.bits .i64))))+1):Int).toNat)*8) cI)) then
  some [.list aI (List.replicate ((IntKind.wrap .i64 ((Int.fdiv (m.length:Int) (2^(min (6:Int).toNat (IntKind.bits .i64))))+1):Int).toNat) (V.int .u64 0))]
 else none
theorem agC {m:List UInt8} {r:Option (List V)} (h:U4 CC m=r):CC pg [.str m]=r:=
 aY (key:=28) (L:=b6) (bs:=[]) (by kernel_rfl) ax (aX (by kernel_rfl) h)
def wd (S k:Nat):Nat:=(S >>> (64*k)) %2^64
def wV (g:Nat→Nat) (k:Nat):V:= .int .u64 ((g k:Nat):Int)
def dw (m:Nat) (g:Nat→Nat):List V:=(List.range m).map (wV g)
def bh (m S:Nat):List V:=dw m (wd S)
theorem om {S k j:Nat}:(wd S k).testBit j=(decide (j<64)&&S.testBit (64*k+j)):=by
 unfold wd;rw[Nat.testBit_mod_two_pow,Nat.testBit_shiftRight]
theorem gO {S k:Nat}:wd S k<2^64:=xe _ (by decide)
theorem vQ {m:Nat} {g:Nat→Nat}:(dw m g).length=m:=by simp[dw]
theorem mr {m S:Nat}:(bh m S).length=m:=vQ
theorem vR {m k:Nat} {g:Nat→Nat} (h:k<m):(dw m g)[k]? =some (.int .u64 ((g k:Nat):Int)):=by simp[dw,wV,h]
theorem lH {m k S:Nat} (h:k<m):(bh m S)[k]? =some (.int .u64 ((wd S k:Nat):Int)):=vR h
theorem U5 {α:Type} {m k:Nat} {f:Nat→α} {x:α}:((List.range m).map f).set k x=(List.range m).map fun j=>if j=k then x else f j:=by
 apply EN
 intro i
 rw[Al]
 by_cases h:k=i
 ·subst h
  by_cases hk:k<m
  ·simp[hk]
  ·simp[hk]
 ·have h': ¬i=k:=fun e=>h e.symm
  by_cases hi:i<m
  ·simp[h,h',hi]
  ·simp[h,hi]
theorem vS {m k x:Nat} {g:Nat→Nat}:(dw m g).set k (.int .u64 ((x:Nat):Int))=dw m (fun j=>if j=k then x else g j):=by
 unfold dw
 rw[U5]
 refine nA fun j _=> ?_
 unfold wV
 by_cases h:j=k
 ·simp[h]
 ·simp[h]
theorem U6 {m k x S:Nat}:(bh m S).set k (.int .u64 ((x:Nat):Int))=dw m (fun j=>if j=k then x else wd S j):=vS
theorem tH {m:Nat} {g h:Nat→Nat} (e: ∀k,k<m→g k=h k):dw m g=dw m h:=by
 refine nA fun j hj=> ?_
 unfold wV;rw[e j (Am.1 hj)]
theorem U7 {a b:Nat} (ha:a<2^64) (hb:b<2^64) (h: ∀j,j<64→a.testBit j=b.testBit j):a=b:=by
 refine Nat.eq_of_testBit_eq fun j=> ?_
 by_cases hj:j<64
 ·exact h j hj
 ·have hp:2^64≤2^j:=Nat.pow_le_pow_right (by omega) (by omega)
  rw[Nat.testBit_lt_two_pow (oK ha hp),Nat.testBit_lt_two_pow (oK hb hp)]
theorem HT {m S:Nat} {g:Nat→Nat} (hl: ∀k,k<m→g k<2^64) (hb: ∀k,k<m→∀j,j<64→(g k).testBit j=S.testBit (64*k+j)):dw m g=bh m S:=
 tH fun k hk=>U7 (hl k hk) gO fun j hj=>by rw[hb k hk j hj,om];simp[hj]
theorem vT {i:Nat}:Int.fdiv (i:Int) (2^(min (6:Int).toNat (IntKind.bits .i64)))=((i/64:Nat):Int):=by
 have e:(2^(min (6:Int).toNat (IntKind.bits .i64)):Int)=64:=by rfl
 rw[e,Int.fdiv_eq_ediv_of_nonneg _ (by omega)]
 omega
theorem Cq {i:Nat} (h:i<2^63):IntKind.wrap .i64 ((BitVec.ofInt (IntKind.bits .i64) (i:Int)&&&BitVec.ofInt (IntKind.bits .i64) 63).toNat)=((i %64:Nat):Int):=by
 have:=bv_and (n:=IntKind.bits .i64) (A:=i) (B:=63) (by show i<2^64;omega) (by show 63<2^64;omega)
 rw[show ((63:Nat):Int)=63 from rfl] at this
 rw[this,show (63:Nat)=2^6-1 from rfl,Nat.and_two_pow_sub_one_eq_mod]
 exact wrap64 (by omega) (by omega)
theorem U8 {m S i:Nat}:dw m (fun j=>if j=i/64 then wd S (i/64)|||2^(i %64) else wd S j)=bh m (S|||2^i):=by
 refine HT (fun k _=> ?_) fun k _ j hj=> ?_
 ·split
  ·exact EP gO (As (by omega) (by omega))
  ·exact gO
 ·rw[sO,Ar]
  by_cases h:k=i/64
  ·rw[ag h,sO,Ar,←h,om]
   have:(i %64=j)↔(i=64*k+j):=by omega
   simp[hj,this]
  ·rw[ah h,om]
   have: ¬i=64*k+j:=by omega
   simp[hj,this]
theorem N0 {m S i:Nat} (h:i/64<m) (hi:i<2^60):CC vB [.int .i64 (i:Int),.list aI (bh m S)]=some [.list aI (bh m (S|||2^i))]:=by
 refine agv ?_
 unfold UY
 rw[vT,Cq (by omega)]
 simp only[ct,az,Int.toNat_natCast,mr,lH h,Option.bind_some,V.toInt_int]
 rw[ag (by omega),ag (by omega),ag (by omega),NQ (by omega),u64_or gO (As (by omega) (by omega)),U6,U8,ag (by omega),ag (by omega)]
theorem N3 {m S i:Nat} (h:i/64<m) (hi:i<2^60):CC yD [.list aI (bh m S),.int .i64 (i:Int)]=some [.bool (S.testBit i)]:=by
 refine agx ?_
 unfold U0
 rw[vT,Cq (by omega)]
 simp only[n0,lH h,Option.bind_some,V.toInt_int,az,Int.toNat_natCast]
 rw[ag (by omega),aed gO (by omega),om]
 have:64*(i/64)+i %64=i:=by omega
 rw[this]
 have U:i %64<64:=by omega
 simp[U]
theorem agD {w:List UInt8} (h:w.length≤2048):CC pg [.str w]=some [.list aI (bh (w.length/64+1) 0)]:=by
 refine agC ?_
 unfold U4
 rw[vT,wrap64 (by omega) (by omega)]
 have e:(((w.length/64:Nat):Int)+1).toNat=w.length/64+1:=by omega
 simp only[ct,az,ym,e]
 rw[ag (by omega),ag (by omega),ag (by rw[oe];omega)]
 have:List.replicate (w.length/64+1) (V.int .u64 0)=bh (w.length/64+1) 0:=by
  apply EN
  intro i
  by_cases hi:i<w.length/64+1
  ·rw[lH hi]
   have:wd 0 i=0:=by unfold wd;simp
   rw[this]
   rw[EJ,ag hi];rfl
  ·rw[qU (by simp;omega),qU (by rw[mr];omega)]
 rw[this]
theorem agE {m S T a:Nat} (hT: ∀j,j<64*a→T.testBit j=false):dw m (fun j=>if a≤j then wd S j|||wd T j else wd S j)=bh m (S|||T):=by
 refine HT (fun k _=> ?_) fun k _ j hj=> ?_
 ·split
  ·exact EP gO gO
  ·exact gO
 ·rw[sO]
  by_cases h:a≤k
  ·rw[ag h,sO,om,om];simp[hj]
  ·rw[ah h,om,hT (64*k+j) (by omega)];simp[hj]
theorem N4 {m S T i:Nat} (hm:m≤100) (h:i/64<m) (hT: ∀j,j<i→T.testBit j=false):
  CC vD [.list aI (bh m T),.int .i64 (i:Int),.list aI (bh m S)]=some [.list aI (bh m (S|||T))]:=by
 refine agB ?_
 unfold U3
 rw[vT]
 let g:Nat→Nat→Nat:=fun b j=>if i/64≤j∧j<b then wd S j|||wd T j else wd S j
 have go: ∀d b,i/64≤b→b+d=m→Loop (Cp CC (bh m T)) ((b:Int),dw m (g b))=some ((m:Int),false,dw m (g m)):=by
  intro d
  induction d with
  | zero=>
   intro b _ hb
   have hb:b=m:=by omega
   subst hb
   refine bj ?_
   simp only[Cp,Co,un,vQ]
   rw[az,ah (by omega)]
   simp
  | succ d ih=>
   intro b lB hb
   have bM:Cp CC (bh m T) ((b:Int),dw m (g b))=some (.inl (((b+1:Nat):Int),dw m (g (b+1)))):=by
    simp only[Cp,Co,un,vQ,ct,az,Int.toNat_natCast,vR (show b<m by omega),lH (show b<m by omega),n0,Option.bind_some,V.toInt_int]
    have e1:g b b=wd S b:=by simp[g]
    rw[ag (by omega),ag (by omega),ag (by omega),e1,u64_or gO gO,vS,wrap64 (by omega) (by omega),ag (by omega),ag (by omega)]
    have:dw m (fun j=>if j=b then wd S b|||wd T b else g b j)=dw m (g (b+1)):=by
     refine tH fun k _=> ?_
     show (if k=b then wd S b|||wd T b else if i/64≤k∧k<b then wd S k|||wd T k else wd S k)=if i/64≤k∧k<b+1 then wd S k|||wd T k else wd S k
     by_cases h1:k=b
     ·subst h1;rw[ag rfl,ag (by omega)]
     ·rw[ah h1]
      by_cases U:i/64≤k∧k<b
      ·rw[ag U,ag (by omega)]
      ·rw[ah U,ah (by omega)]
    rw[this]
    rfl
   rw[bW bM]
   exact ih (b+1) (by omega) (by omega)
 have e0:bh m S=dw m (g (i/64)):=tH fun k _=>by
  show wd S k=if i/64≤k∧k<i/64 then _ else wd S k
  rw[ah (by omega)]
 have e1:dw m (g m)=bh m (S|||T):=by
  rw[←agE (m:=m) (a:=i/64) (S:=S) (T:=T) fun j hj=>hT j (by omega)]
  refine tH fun k hk=> ?_
  show (if i/64≤k∧k<m then _ else _)=_
  by_cases U:i/64≤k
  ·rw[ag ⟨U,hk⟩,ag U]
  ·rw[ah (fun h=>U h.1),ah U]
 rw[e0,go (m-i/64) (i/64) (by omega) (by omega),←e1]
 simp[un]
def Cr (m:Nat):Option Nat→V
 | none=> .list aI []
 | some S=> .list aI (bh m S)
def Rows (m N:Nat) (R:Nat→Option Nat):List V:=(List.range N).map fun i=>Cr m (R i)
def upd (R:Nat→Option Nat) (i S:Nat):Nat→Option Nat:=fun j=>if j=i then some S else R j
theorem HU {R:Nat→Option Nat} {i S:Nat}:upd R i S i=some S:=by simp[upd]
theorem N5 {R:Nat→Option Nat} {i j S:Nat} (h:j≠i):upd R i S j=R j:=by simp[upd,h]
theorem U9 {R:Nat→Option Nat} {i S T:Nat}:upd (upd R i S) i T=upd R i T:=by
 funext j;unfold upd;split<;>rfl
theorem kV {m N:Nat} {R:Nat→Option Nat}:(Rows m N R).length=N:=by simp[Rows]
theorem j9 {m N i:Nat} {R:Nat→Option Nat} (h:i<N):(Rows m N R)[i]? =some (Cr m (R i)):=by simp[Rows,h]
theorem vU {m N i S:Nat} {R:Nat→Option Nat}:(Rows m N R).set i (.list aI (bh m S))=Rows m N (upd R i S):=by
 unfold Rows;rw[U5]
 refine nA fun j _=> ?_
 unfold upd
 by_cases h:j=i
 ·simp[h,Cr]
 ·simp[h]
theorem Va {m N:Nat}:List.replicate N (V.list aI ([]:List V))=Rows m N (fun _=>none):=by
 apply EN
 intro i
 by_cases hi:i<N
 ·rw[j9 hi,EJ,ag hi];rfl
 ·rw[qU (by simp;omega),qU (by rw[kV];omega)]
theorem agF:Tryz.prog.underlying aD=some (.slice aI):=by kernel_rfl
theorem N6:bO Tryz.prog aD=false:=by kernel_rfl
theorem HV {l:List V}:parts Tryz.prog aD (.list aI l)=[.list aI l]:=by
 unfold parts;rw[N6];simp only[cond_false,eZ,agF,V.bS]
theorem qv {m N i S:Nat} {R:Nat→Option Nat} (h:i<N) (hR:R i=some S):da Tryz.prog aD (Rows m N R) [(i,0)]=some (.list aI (bh m S)):=by
 simp only[da,j9 h,hR,Cr,Option.bind_some,HV]
 rfl
theorem agG {m N i S:Nat} {l:List V} {R:Nat→Option Nat} (h:i<N) (hR:R i=some S):setRow Tryz.prog l aD (Rows m N R) [(i,0)]=(Rows m N R).set i (.list aI l):=by
 simp only[setRow,j9 h,hR,Cr,HV]
 simp only[List.getElem?_cons_zero,List.set_cons_zero,cA,N6,cond_false,V.aC]
theorem Vb {m N i j S:Nat} {R:Nat→Option Nat} (h:j/64<m) (hj:j<2^60) (hi:i<N) (hR:R i=some S):
  CC Hs [dF i,.int .i64 (j:Int),.list aD (Rows m N R)]=some [.list aD (Rows m N (upd R i (S|||2^j)))]:=by
 refine agw ?_
 unfold UZ
 rw[vT,Cq (by omega)]
 simp only[qv hi hR,Option.bind_some,ct,az,Int.toNat_natCast,V.bS,mr,lH h,V.toInt_int]
 rw[ag (by omega),ag (by omega),ag (by omega),NQ (by omega),u64_or gO (As (by omega) (by omega)),U6,U8,agG hi hR,vU,ag (by omega),ag (by omega)]
theorem tI {j q:Nat} (h:2^j*(2*q+1)<2^64):
  IntKind.wrap .u64 ((BitVec.ofInt (IntKind.bits .u64) ((2^j*(2*q+1):Nat):Int)&&&BitVec.ofInt (IntKind.bits .u64) (IntKind.wrap .u64 (((2^j*(2*q+1):Nat):Int)-1))).toNat)=((2^j*(2*q):Nat):Int):=by
 have jY:0<2^j*(2*q+1):=xb (ux (by simp)) (by omega)
 have hp:((2^j*(2*q+1):Nat):Int)-1=((2^j*(2*q+1)-1:Nat):Int):=by omega
 rw[hp,tD (A:=2^j*(2*q+1)-1) (by omega),u64_and h (by omega),ago]
theorem tJ {k j:Nat} (hk:k≤100) (hj:j<64):IntKind.wrap .i64 ((IntKind.wrap .i64 ((k:Int)*2^(min (6:Int).toNat (IntKind.bits .i64))))+(j:Int))=((64*k+j:Nat):Int):=by
 have e:(2^(min (6:Int).toNat (IntKind.bits .i64)):Int)=64:=by rfl
 rw[e,wrap64 (x:=(k:Int)*64) (by omega) (by omega),wrap64 (by omega) (by omega)]
 omega
theorem tK {j q:Nat}: ¬((2^j*(2*q+1):Nat):Int)=0:=by
 have jY:0<2^j*(2*q+1):=xb (ux (by simp)) (by omega)
 omega
theorem agH {A:Type} {S k:Nat} {step:(Int × A)→Option ((Int × A) ⊕ (Int × Bool × A))} {P:Nat→A→Prop}
  (h1: ∀(j q:Nat) a,j<64→2^j*(2*q+1)<2^64→S.testBit (64*k+j)=true→P (64*k+j) a→∃a',step (((2^j*(2*q+1):Nat):Int),a)=some (.inl (((2^j*(2*q):Nat):Int),a'))∧P (64*k+j+1) a')
  (U: ∀i a,S.testBit i=false→P i a→P (i+1) a)
  (h0: ∀a,step (0,a)=some (.inr (0,false,a))):
  ∀d j,j+d=64→∀(p:Nat) a,p<2^64→(∀t,t<64→p.testBit t=(decide (j≤t)&&S.testBit (64*k+t)))→P (64*k+j) a→∃a',Loop step ((p:Int),a)=some (0,false,a')∧P (64*k+64) a':=by
 intro d
 induction d with
 | zero=>
  intro j hj p a hp hb hP
  have hj:j=64:=by omega
  subst hj
  have:p=0:=U7 hp (by omega) fun t ht=>by
   rw[hb t ht];have: ¬64≤t:=by omega
   simp[this]
  subst this
  exact ⟨a,bj (h0 a),hP⟩
 | succ d ih=>
  intro j hj p a hp hb hP
  have Cs:=hb j (by omega)
  rw[eK (bV j),km] at Cs
  cases hc:S.testBit (64*k+j) with
  | false=>
   refine ih (j+1) (by omega) p a hp (fun t ht=> ?_) (U _ _ hc hP)
   rw[hb t ht]
   by_cases e:t=j
   ·subst e;have e4: ¬t+1≤t:=by omega
    simp[hc,e4]
   ·have:(j≤t)↔(j+1≤t):=by omega
    simp[this]
  | true=>
   rw[hc] at Cs
   have bD:p≠0:=by rintro rfl;simp at Cs
   obtain ⟨j',q,HW⟩:=agl p bD
   have e:j'=j:=by
    have h3:j'<64:=by rw[HW] at hp;exact (HS hp).1
    have h4:p.testBit j'=true:=by rw[HW,zd];simp
    rw[hb j' h3] at h4
    have h5:j≤j':=by simp at h4;exact h4.1
    rw[HW,zd] at Cs
    simp at Cs
    omega
   subst e
   subst HW
   obtain ⟨a',bM,jt⟩:=h1 j' q a (by omega) hp hc hP
   rw[bW bM]
   have aQ:2^j'*(2*q)<2^j'*(2*q+1):=Nat.mul_lt_mul_of_pos_left (by omega) (ux (by simp))
   refine ih (j'+1) (by omega) _ a' (by omega) (fun t ht=> ?_) jt
   have:=hb t ht
   rw[zd] at this
   rw[UW]
   by_cases e1:t=j'
   ·subst e1;have e4: ¬t+1≤t:=by omega
    simp[e4]
   ·by_cases e2:j'<t
    ·have e3:j'+1≤t:=by omega
     have e4:j'≤t:=by omega
     simpa[e1,e2,e3,e4] using this
    ·have e3: ¬j'+1≤t:=by omega
     simp[e2,e3]
theorem tL {A:Type} {S m:Nat} (hm:m≤100) {outer:(Int × A)→Option ((Int × A) ⊕ (Int × Bool × A))} {inner:Nat→(Int × A)→Option ((Int × A) ⊕ (Int × Bool × A))} {P:Nat→A→Prop}
  (ho: ∀(k:Nat) a a',k<m→Loop (inner k) (((wd S k:Nat):Int),a)=some (0,false,a')→outer ((k:Int),a)=some (.inl (((k+1:Nat):Int),a')))
  (he: ∀a,outer ((m:Int),a)=some (.inr ((m:Int),false,a)))
  (h1: ∀(k j q:Nat) a,k<m→j<64→2^j*(2*q+1)<2^64→S.testBit (64*k+j)=true→P (64*k+j) a→∃a',inner k (((2^j*(2*q+1):Nat):Int),a)=some (.inl (((2^j*(2*q):Nat):Int),a'))∧P (64*k+j+1) a')
  (U: ∀i a,S.testBit i=false→P i a→P (i+1) a)
  (h0: ∀k a,inner k (0,a)=some (.inr (0,false,a))) (a0:A) (hP:P 0 a0):
  ∃a',Loop outer (0,a0)=some ((m:Int),false,a')∧P (64*m) a':=by
 have go: ∀d k,k+d=m→∀a,P (64*k) a→∃a',Loop outer ((k:Int),a)=some ((m:Int),false,a')∧P (64*m) a':=by
  intro d
  induction d with
  | zero=>
   intro k hk a hP
   have hk:k=m:=by omega
   subst hk
   exact ⟨a,bj (he a),hP⟩
  | succ d ih=>
   intro k hk a hP
   obtain ⟨a',hl,jt⟩:=agH (S:=S) (k:=k) (P:=P) (fun j q a hj hq hb hp=>h1 k j q a (by omega) hj hq hb hp) U (h0 k) 64 0 (by omega) (wd S k) a gO (fun t ht=>by rw[om];simp[ht]) hP
   rw[bW (ho k a a' (by omega) hl)]
   exact ih (k+1) (by omega) a' (by rw[show 64*(k+1)=64*k+64 by omega];exact jt)
 exact go m 0 (by omega) a0 hP
noncomputable abbrev HX:Code:=cg Tryz.prog (au.aP 44)
noncomputable def Ct (C:ae) (k':Int) (t6:List V) (t7 t8 part:Int) (bL:List UInt8) (eP eQ:Int) (eR av:List V) {β:Type} (kn:(Int × (List UInt8) × Int × Int × (List V) × (List V))→Option β) (kr:(Int × Bool × (List UInt8) × Int × Int × (List V) × (List V))→Option β):Option β:=
 bif (part:Int) != 0 then
  (C pj [.int .u64 part]).bind fun r2=>
  (C qg [.int .i64 (IntKind.wrap .i64 ((IntKind.wrap .i64 (k'*2^(min (6:Int).toNat (IntKind.bits .i64))))+((V.nth r2 0).toInt))),.str bL,.int .i64 eP,.int .i64 eQ,.list aa eR,.list aD av]).bind fun r3=>
  kn (IntKind.wrap .u64 ((BitVec.ofInt (IntKind.bits .u64) part&&&BitVec.ofInt (IntKind.bits .u64) (IntKind.wrap .u64 (part-1))).toNat),(V.nth r3 0).toStr,(V.nth (r3.drop 1) 0).toInt,(V.nth ((r3.drop 1).drop 1) 0).toInt,(V.nth (((r3.drop 1).drop 1).drop 1) 0).toList,(V.nth ((r3.drop 1).drop 3) 0).toList)
 else
  kr (part,(part:Int) != 0,bL,eP,eQ,eR,av)
noncomputable def vV (C:ae) (k':Int) (t6:List V) (t7 t8:Int):(Int × (List UInt8) × Int × Int × (List V) × (List V))→Option ((Int × (List UInt8) × Int × Int × (List V) × (List V)) ⊕ (Int × Bool × (List UInt8) × Int × Int × (List V) × (List V))):=un fun part=>un fun bL=>un fun eP=>un fun eQ=>un fun eR av=>Ct C k' t6 t7 t8 part bL eP eQ eR av (fun y=>some (.inl y)) (fun r=>some (.inr r))
noncomputable def Cu (C:ae) (t6:List V) (t7 t8:Int) (bL:List UInt8) (eP eQ:Int) (eR av:List V) {β:Type} (kn:(Int × (List UInt8) × Int × Int × (List V) × (List V))→Option β) (kr:(Int × Bool × (List UInt8) × Int × Int × (List V) × (List V))→Option β):Option β:=
 bif decide ((t8:Int)<t7) then
  (idx t6 t8).bind fun x1=>
  (Loop (vV C t8 t6 t7 t8) (x1.toInt,bL,eP,eQ,eR,av)).bind (un fun (pr:Int)=>un fun (ik:Bool)=>un fun (pt:List UInt8)=>un fun (vW:Int)=>un fun (N7:Int)=>un fun (N8:List V) (nf:List V)=>
   kn (IntKind.wrap .i64 (t8+1),pt,vW,N7,N8,nf))
 else
  kr (t8,decide ((t8:Int)<t7),bL,eP,eQ,eR,av)
noncomputable def Cv (C:ae) (t6:List V) (t7:Int):(Int × (List UInt8) × Int × Int × (List V) × (List V))→Option ((Int × (List UInt8) × Int × Int × (List V) × (List V)) ⊕ (Int × Bool × (List UInt8) × Int × Int × (List V) × (List V))):=un fun t8=>un fun bL=>un fun eP=>un fun eQ=>un fun eR av=>Cu C t6 t7 t8 bL eP eQ eR av (fun y=>some (.inl y)) (fun r=>some (.inr r))
noncomputable def Vc (C:ae):bZ:=fun β n ds k=>
 bif Nat.beq n 49 then bK MA [false,true,false,false,false,true,true,true,true,true] [[1,0,3,4,5,0,0,0,0,0,0]] (@Ct C) ds k else
 bif Nat.beq n 17 then bK MB [false,false,true,true,true,true,true,true] [[1,2,0,0,0,0,0,0,0]] (@Cu C) ds k else
 none
abbrev Vd (C:ae) (b:bX):Prop:=bY Tryz.prog au C (Vc C) 44 (cj Tryz.prog (au.aP 44)) (au.sin 44).ba.length b
theorem agI (C:ae):Vd C (.loop (aw [1,0,0,1,1,0,0,1,0,0] HX)):=
 bN MA [false,true,false,false,false,true,true,true,true,true] [[1,0,3,4,5,0,0,0,0,0,0]] (@Ct C) (by kernel_rfl) (a8 (bs:=[]) (by kernel_rfl) ax) (fun ds=>by kernel_rfl) (fun i x=>by kernel_rfl) (fun i x β k=>by kernel_rfl) (fun β ds k=>by kernel_rfl)
theorem agJ (C:ae):Vd C (.loop (aw [1,0,0] HX)):=
 bN MB [false,false,true,true,true,true,true,true] [[1,2,0,0,0,0,0,0,0]] (@Cu C) (by kernel_rfl) (a8 (bs:=[.loop (aw [1,0,0,1,1,0,0,1,0,0] HX)]) (by kernel_rfl) (bq (agI C) ax)) (fun ds=>by kernel_rfl) (fun i x=>by kernel_rfl) (fun i x β k=>by kernel_rfl) (fun β ds k=>by kernel_rfl)
noncomputable def Ve (C:ae) (s:List V) (bL:List UInt8) (eP eQ:Int) (eR av:List V):Option (List V):=
 (Loop (Cv C s (s.length:Int)) (0,bL,eP,eQ,eR,av)).bind (un fun (tE:Int)=>un fun (Ch:Bool)=>un fun (Cw:List UInt8)=>un fun (N9:Int)=>un fun (Oa:Int)=>un fun (agK:List V) (vX:List V)=>
  some [.str Cw,.int .i64 N9,.int .i64 Oa,.list aa agK,.list aD vX])
theorem agL {s:List V} {bL:List UInt8} {eP eQ:Int} {eR av:List V} {r:Option (List V)} (h:Ve CC s bL eP eQ eR av=r):CC mZ [.list aI s,.str bL,.int .i64 eP,.int .i64 eQ,.list aa eR,.list aD av]=r:=
 aY (key:=44) (L:=Vc CC) (bs:=[.loop (aw [1,0,0] HX)]) (by kernel_rfl) (bq (agJ CC) ax) (aX (by kernel_rfl) h)
noncomputable abbrev HY:Code:=cg Tryz.prog (au.aP 136)
noncomputable def Cx (C:ae) (k':Int) (t6:List V) (t7 t8 part bL:Int) {β:Type} (kn:(Int × Int)→Option β) (kr:(Int × Bool × Int)→Option β):Option β:=
 bif (part:Int) != 0 then
  (C pj [.int .u64 part]).bind fun r2=>
  (C qk [.int .i64 (IntKind.wrap .i64 ((IntKind.wrap .i64 (k'*2^(min (6:Int).toNat (IntKind.bits .i64))))+((V.nth r2 0).toInt))),.int .i64 bL]).bind fun r3=>
  kn (IntKind.wrap .u64 ((BitVec.ofInt (IntKind.bits .u64) part&&&BitVec.ofInt (IntKind.bits .u64) (IntKind.wrap .u64 (part-1))).toNat),(V.nth r3 0).toInt)
 else
  kr (part,(part:Int) != 0,bL)
noncomputable def vY (C:ae) (k':Int) (t6:List V) (t7 t8:Int):(Int × Int)→Option ((Int × Int) ⊕ (Int × Bool × Int)):=un fun part bL=>Cx C k' t6 t7 t8 part bL (fun y=>some (.inl y)) (fun r=>some (.inr r))
noncomputable def Cy (C:ae) (t6:List V) (t7 t8 bL:Int) {β:Type} (kn:(Int × Int)→Option β) (kr:(Int × Bool × Int)→Option β):Option β:=
 bif decide ((t8:Int)<t7) then
  (idx t6 t8).bind fun x1=>
  (Loop (vY C t8 t6 t7 t8) (x1.toInt,bL)).bind (un fun (pr:Int)=>un fun (ik:Bool) (pt:Int)=>
   kn (IntKind.wrap .i64 (t8+1),pt))
 else
  kr (t8,decide ((t8:Int)<t7),bL)
noncomputable def Cz (C:ae) (t6:List V) (t7:Int):(Int × Int)→Option ((Int × Int) ⊕ (Int × Bool × Int)):=un fun t8 bL=>Cy C t6 t7 t8 bL (fun y=>some (.inl y)) (fun r=>some (.inr r))
noncomputable def Vf (C:ae):bZ:=fun β n ds k=>
 bif Nat.beq n 49 then bK NA [false,true,false,false,false,true] [[1,0,3,4,5,0,0]] (@Cx C) ds k else
 bif Nat.beq n 17 then bK NB [false,false,true,true] [[1,2,0,0,0]] (@Cy C) ds k else
 none
abbrev Vg (C:ae) (b:bX):Prop:=bY Tryz.prog au C (Vf C) 136 (cj Tryz.prog (au.aP 136)) (au.sin 136).ba.length b
theorem agM (C:ae):Vg C (.loop (aw [1,0,0,1,1,0,0,1,0,0] HY)):=
 bN NA [false,true,false,false,false,true] [[1,0,3,4,5,0,0]] (@Cx C) (by kernel_rfl) (a8 (bs:=[]) (by kernel_rfl) ax) (fun ds=>by kernel_rfl) (fun i x=>by kernel_rfl) (fun i x β k=>by kernel_rfl) (fun β ds k=>by kernel_rfl)
theorem agN (C:ae):Vg C (.loop (aw [1,0,0] HY)):=
 bN NB [false,false,true,true] [[1,2,0,0,0]] (@Cy C) (by kernel_rfl) (a8 (bs:=[.loop (aw [1,0,0,1,1,0,0,1,0,0] HY)]) (by kernel_rfl) (bq (agM C) ax)) (fun ds=>by kernel_rfl) (fun i x=>by kernel_rfl) (fun i x β k=>by kernel_rfl) (fun β ds k=>by kernel_rfl)
noncomputable def Vh (C:ae) (s:List V) (bL:Int):Option (List V):=
 (Loop (Cz C s (s.length:Int)) (0,bL)).bind (un fun (nc:Int)=>un fun (yY:Bool) (N8:Int)=>
  some [.int .i64 N8])
theorem agO {s:List V} {bL:Int} {r:Option (List V)} (h:Vh CC s bL=r):CC L5 [.list aI s,.int .i64 bL]=r:=
 aY (key:=136) (L:=Vf CC) (bs:=[.loop (aw [1,0,0] HY)]) (by kernel_rfl) (bq (agN CC) ax) (aX (by kernel_rfl) h)
noncomputable abbrev HZ:Code:=cg Tryz.prog (au.aP 138)
noncomputable def CA (C:ae) (k':Int) (t6:List V) (t7 t8 part:Int) (bL:List UInt8) (eS:Int) (av:List V) {β:Type} (kn:(Int × (List UInt8) × Int × (List V))→Option β) (kr:(Int × Bool × (List UInt8) × Int × (List V))→Option β):Option β:=
 bif (part:Int) != 0 then
  (C pj [.int .u64 part]).bind fun r2=>
  (C qn [.int .i64 (IntKind.wrap .i64 ((IntKind.wrap .i64 (k'*2^(min (6:Int).toNat (IntKind.bits .i64))))+((V.nth r2 0).toInt))),.str bL,.int .i64 eS,.list aD av]).bind fun r3=>
  kn (IntKind.wrap .u64 ((BitVec.ofInt (IntKind.bits .u64) part&&&BitVec.ofInt (IntKind.bits .u64) (IntKind.wrap .u64 (part-1))).toNat),(V.nth r3 0).toStr,(V.nth (r3.drop 1) 0).toInt,(V.nth ((r3.drop 1).drop 1) 0).toList)
 else
  kr (part,(part:Int) != 0,bL,eS,av)
noncomputable def vZ (C:ae) (k':Int) (t6:List V) (t7 t8:Int):(Int × (List UInt8) × Int × (List V))→Option ((Int × (List UInt8) × Int × (List V)) ⊕ (Int × Bool × (List UInt8) × Int × (List V))):=un fun part=>un fun bL=>un fun eS av=>CA C k' t6 t7 t8 part bL eS av (fun y=>some (.inl y)) (fun r=>some (.inr r))
noncomputable def CB (C:ae) (t6:List V) (t7 t8:Int) (bL:List UInt8) (eS:Int) (av:List V) {β:Type} (kn:(Int × (List UInt8) × Int × (List V))→Option β) (kr:(Int × Bool × (List UInt8) × Int × (List V))→Option β):Option β:=
 bif decide ((t8:Int)<t7) then
  (idx t6 t8).bind fun x1=>
  (Loop (vZ C t8 t6 t7 t8) (x1.toInt,bL,eS,av)).bind (un fun (pr:Int)=>un fun (ik:Bool)=>un fun (pt:List UInt8)=>un fun (vW:Int) (pw:List V)=>
   kn (IntKind.wrap .i64 (t8+1),pt,vW,pw))
 else
  kr (t8,decide ((t8:Int)<t7),bL,eS,av)
noncomputable def CD (C:ae) (t6:List V) (t7:Int):(Int × (List UInt8) × Int × (List V))→Option ((Int × (List UInt8) × Int × (List V)) ⊕ (Int × Bool × (List UInt8) × Int × (List V))):=un fun t8=>un fun bL=>un fun eS av=>CB C t6 t7 t8 bL eS av (fun y=>some (.inl y)) (fun r=>some (.inr r))
noncomputable def Vi (C:ae):bZ:=fun β n ds k=>
 bif Nat.beq n 49 then bK NC [false,true,false,false,false,true,true,true] [[1,0,3,4,5,0,0,0,0]] (@CA C) ds k else
 bif Nat.beq n 17 then bK ND [false,false,true,true,true,true] [[1,2,0,0,0,0,0]] (@CB C) ds k else
 none
abbrev Vj (C:ae) (b:bX):Prop:=bY Tryz.prog au C (Vi C) 138 (cj Tryz.prog (au.aP 138)) (au.sin 138).ba.length b
theorem agP (C:ae):Vj C (.loop (aw [1,0,0,1,1,0,0,1,0,0] HZ)):=
 bN NC [false,true,false,false,false,true,true,true] [[1,0,3,4,5,0,0,0,0]] (@CA C) (by kernel_rfl) (a8 (bs:=[]) (by kernel_rfl) ax) (fun ds=>by kernel_rfl) (fun i x=>by kernel_rfl) (fun i x β k=>by kernel_rfl) (fun β ds k=>by kernel_rfl)
theorem agQ (C:ae):Vj C (.loop (aw [1,0,0] HZ)):=
 bN ND [false,false,true,true,true,true] [[1,2,0,0,0,0,0]] (@CB C) (by kernel_rfl) (a8 (bs:=[.loop (aw [1,0,0,1,1,0,0,1,0,0] HZ)]) (by kernel_rfl) (bq (agP C) ax)) (fun ds=>by kernel_rfl) (fun i x=>by kernel_rfl) (fun i x β k=>by kernel_rfl) (fun β ds k=>by kernel_rfl)
noncomputable def Vk (C:ae) (s:List V) (bL:List UInt8) (eS:Int) (av:List V):Option (List V):=
 (Loop (CD C s (s.length:Int)) (0,bL,eS,av)).bind (un fun (oj:Int)=>un fun (vP:Bool)=>un fun (Ob:List UInt8)=>un fun (Oc:Int) (v5:List V)=>
  some [.str Ob,.int .i64 Oc,.list aD v5])
theorem agR {s:List V} {bL:List UInt8} {eS:Int} {av:List V} {r:Option (List V)} (h:Vk CC s bL eS av=r):CC L6 [.list aI s,.str bL,.int .i64 eS,.list aD av]=r:=
 aY (key:=138) (L:=Vi CC) (bs:=[.loop (aw [1,0,0] HZ)]) (by kernel_rfl) (bq (agQ CC) ax) (aX (by kernel_rfl) h)
noncomputable abbrev H0:Code:=cg Tryz.prog (au.aP 139)
noncomputable def CE (C:ae) (k':Int) (t6:List V) (t7 t8 part eP eQ:Int) (eR av aT:List V) {β:Type} (kn:(Int × Int × Int × (List V) × (List V) × (List V))→Option β) (kr:(Int × Bool × Int × Int × (List V) × (List V) × (List V))→Option β):Option β:=
 bif (part:Int) != 0 then
  (C pj [.int .u64 part]).bind fun r2=>
  (C qm [.int .i64 (IntKind.wrap .i64 ((IntKind.wrap .i64 (k'*2^(min (6:Int).toNat (IntKind.bits .i64))))+((V.nth r2 0).toInt))),.int .i64 eP,.int .i64 eQ,.list aa eR,.list aD av,.list aD aT]).bind fun r3=>
  kn (IntKind.wrap .u64 ((BitVec.ofInt (IntKind.bits .u64) part&&&BitVec.ofInt (IntKind.bits .u64) (IntKind.wrap .u64 (part-1))).toNat),(V.nth r3 0).toInt,(V.nth (r3.drop 1) 0).toInt,(V.nth ((r3.drop 1).drop 1) 0).toList,(V.nth (r3.drop 3) 0).toList,(V.nth ((r3.drop 3).drop 1) 0).toList)
 else
  kr (part,(part:Int) != 0,eP,eQ,eR,av,aT)
noncomputable def v7 (C:ae) (k':Int) (t6:List V) (t7 t8:Int):(Int × Int × Int × (List V) × (List V) × (List V))→Option ((Int × Int × Int × (List V) × (List V) × (List V)) ⊕ (Int × Bool × Int × Int × (List V) × (List V) × (List V))):=un fun part=>un fun eP=>un fun eQ=>un fun eR=>un fun av aT=>CE C k' t6 t7 t8 part eP eQ eR av aT (fun y=>some (.inl y)) (fun r=>some (.inr r))
noncomputable def CF (C:ae) (t6:List V) (t7 t8 eP eQ:Int) (eR av aT:List V) {β:Type} (kn:(Int × Int × Int × (List V) × (List V) × (List V))→Option β) (kr:(Int × Bool × Int × Int × (List V) × (List V) × (List V))→Option β):Option β:=
 bif decide ((t8:Int)<t7) then
  (idx t6 t8).bind fun x1=>
  (Loop (v7 C t8 t6 t7 t8) (x1.toInt,eP,eQ,eR,av,aT)).bind (un fun (pr:Int)=>un fun (ik:Bool)=>un fun (pt:Int)=>un fun (vW:Int)=>un fun (N7:List V)=>un fun (sf:List V) (nf:List V)=>
   kn (IntKind.wrap .i64 (t8+1),pt,vW,N7,sf,nf))
 else
  kr (t8,decide ((t8:Int)<t7),eP,eQ,eR,av,aT)
noncomputable def CG (C:ae) (t6:List V) (t7:Int):(Int × Int × Int × (List V) × (List V) × (List V))→Option ((Int × Int × Int × (List V) × (List V) × (List V)) ⊕ (Int × Bool × Int × Int × (List V) × (List V) × (List V))):=un fun t8=>un fun eP=>un fun eQ=>un fun eR=>un fun av aT=>CF C t6 t7 t8 eP eQ eR av aT (fun y=>some (.inl y)) (fun r=>some (.inr r))
noncomputable def Vl (C:ae):bZ:=fun β n ds k=>
 bif Nat.beq n 49 then bK NF [false,true,false,false,false,true,true,true,true,true] [[1,0,3,4,5,0,0,0,0,0,0]] (@CE C) ds k else
 bif Nat.beq n 17 then bK NG [false,false,true,true,true,true,true,true] [[1,2,0,0,0,0,0,0,0]] (@CF C) ds k else
 none
abbrev Vm (C:ae) (b:bX):Prop:=bY Tryz.prog au C (Vl C) 139 (cj Tryz.prog (au.aP 139)) (au.sin 139).ba.length b
theorem agS (C:ae):Vm C (.loop (aw [1,0,0,1,1,0,0,1,0,0] H0)):=
 bN NF [false,true,false,false,false,true,true,true,true,true] [[1,0,3,4,5,0,0,0,0,0,0]] (@CE C) (by kernel_rfl) (a8 (bs:=[]) (by kernel_rfl) ax) (fun ds=>by kernel_rfl) (fun i x=>by kernel_rfl) (fun i x β k=>by kernel_rfl) (fun β ds k=>by kernel_rfl)
theorem agT (C:ae):Vm C (.loop (aw [1,0,0] H0)):=
 bN NG [false,false,true,true,true,true,true,true] [[1,2,0,0,0,0,0,0,0]] (@CF C) (by kernel_rfl) (a8 (bs:=[.loop (aw [1,0,0,1,1,0,0,1,0,0] H0)]) (by kernel_rfl) (bq (agS C) ax)) (fun ds=>by kernel_rfl) (fun i x=>by kernel_rfl) (fun i x β k=>by kernel_rfl) (fun β ds k=>by kernel_rfl)
noncomputable def Vn (C:ae) (s:List V) (eP eQ:Int) (eR av aT:List V):Option (List V):=
 (Loop (CG C s (s.length:Int)) (0,eP,eQ,eR,av,aT)).bind (un fun (tE:Int)=>un fun (Ch:Bool)=>un fun (Cw:Int)=>un fun (N9:Int)=>un fun (Oa:List V)=>un fun (CH:List V) (vX:List V)=>
  some [.int .i64 Cw,.int .i64 N9,.list aa Oa,.list aD CH,.list aD vX])
theorem agU {s:List V} {eP eQ:Int} {eR av aT:List V} {r:Option (List V)} (h:Vn CC s eP eQ eR av aT=r):CC L7 [.list aI s,.int .i64 eP,.int .i64 eQ,.list aa eR,.list aD av,.list aD aT]=r:=
 aY (key:=139) (L:=Vl CC) (bs:=[.loop (aw [1,0,0] H0)]) (by kernel_rfl) (bq (agT CC) ax) (aX (by kernel_rfl) h)
noncomputable abbrev H2:Code:=cg Tryz.prog (au.aP 140)
noncomputable def CI (C:ae) (k':Int) (t6:List V) (t7 t8 part:Int) (av aT:List V) {β:Type} (kn:(Int × (List V) × (List V))→Option β) (kr:(Int × Bool × (List V) × (List V))→Option β):Option β:=
 bif (part:Int) != 0 then
  (C pj [.int .u64 part]).bind fun r2=>
  (C ql [.int .i64 (IntKind.wrap .i64 ((IntKind.wrap .i64 (k'*2^(min (6:Int).toNat (IntKind.bits .i64))))+((V.nth r2 0).toInt))),.list aI aT,.list aD av]).bind fun r3=>
  kn (IntKind.wrap .u64 ((BitVec.ofInt (IntKind.bits .u64) part&&&BitVec.ofInt (IntKind.bits .u64) (IntKind.wrap .u64 (part-1))).toNat),(V.nth r3 0).toList,(V.nth (r3.drop 1) 0).toList)
 else
  kr (part,(part:Int) != 0,av,aT)
noncomputable def v8 (C:ae) (k':Int) (t6:List V) (t7 t8:Int):(Int × (List V) × (List V))→Option ((Int × (List V) × (List V)) ⊕ (Int × Bool × (List V) × (List V))):=un fun part=>un fun av aT=>CI C k' t6 t7 t8 part av aT (fun y=>some (.inl y)) (fun r=>some (.inr r))
noncomputable def CJ (C:ae) (t6:List V) (t7 t8:Int) (av aT:List V) {β:Type} (kn:(Int × (List V) × (List V))→Option β) (kr:(Int × Bool × (List V) × (List V))→Option β):Option β:=
 bif decide ((t8:Int)<t7) then
  (idx t6 t8).bind fun x1=>
  (Loop (v8 C t8 t6 t7 t8) (x1.toInt,av,aT)).bind (un fun (pr:Int)=>un fun (ik:Bool)=>un fun (Od:List V) (CK:List V)=>
   kn (IntKind.wrap .i64 (t8+1),Od,CK))
 else
  kr (t8,decide ((t8:Int)<t7),av,aT)
noncomputable def CL (C:ae) (t6:List V) (t7:Int):(Int × (List V) × (List V))→Option ((Int × (List V) × (List V)) ⊕ (Int × Bool × (List V) × (List V))):=un fun t8=>un fun av aT=>CJ C t6 t7 t8 av aT (fun y=>some (.inl y)) (fun r=>some (.inr r))
noncomputable def Vo (C:ae):bZ:=fun β n ds k=>
 bif Nat.beq n 49 then bK NH [false,true,false,false,false,true,true] [[1,0,3,4,5,0,0,0]] (@CI C) ds k else
 bif Nat.beq n 17 then bK NI [false,false,true,true,true] [[1,2,0,0,0,0]] (@CJ C) ds k else
 none
abbrev Vp (C:ae) (b:bX):Prop:=bY Tryz.prog au C (Vo C) 140 (cj Tryz.prog (au.aP 140)) (au.sin 140).ba.length b
theorem agV (C:ae):Vp C (.loop (aw [1,0,0,1,1,0,0,1,0,0] H2)):=
 bN NH [false,true,false,false,false,true,true] [[1,0,3,4,5,0,0,0]] (@CI C) (by kernel_rfl) (a8 (bs:=[]) (by kernel_rfl) ax) (fun ds=>by kernel_rfl) (fun i x=>by kernel_rfl) (fun i x β k=>by kernel_rfl) (fun β ds k=>by kernel_rfl)
theorem agW (C:ae):Vp C (.loop (aw [1,0,0] H2)):=
 bN NI [false,false,true,true,true] [[1,2,0,0,0,0]] (@CJ C) (by kernel_rfl) (a8 (bs:=[.loop (aw [1,0,0,1,1,0,0,1,0,0] H2)]) (by kernel_rfl) (bq (agV C) ax)) (fun ds=>by kernel_rfl) (fun i x=>by kernel_rfl) (fun i x β k=>by kernel_rfl) (fun β ds k=>by kernel_rfl)
noncomputable def Vq (C:ae) (s cv av:List V):Option (List V):=
 (Loop (CL C s (s.length:Int)) (0,av,cv)).bind (un fun (yY:Int)=>un fun (oj:Bool)=>un fun (nf:List V) (ng:List V)=>
  some [.list aD nf,.list aI ng])
theorem agX {s cv av:List V} {r:Option (List V)} (h:Vq CC s cv av=r):CC L8 [.list aI s,.list aI cv,.list aD av]=r:=
 aY (key:=140) (L:=Vo CC) (bs:=[.loop (aw [1,0,0] H2)]) (by kernel_rfl) (bq (agW CC) ax) (aX (by kernel_rfl) h)
noncomputable abbrev H3:Code:=cg Tryz.prog (au.aP 141)
noncomputable def CM (C:ae) (k':Int) (t6:List V) (t7 t8 part:Int) (av aT:List V) {β:Type} (kn:(Int × (List V) × (List V))→Option β) (kr:(Int × Bool × (List V) × (List V))→Option β):Option β:=
 bif (part:Int) != 0 then
  (C pj [.int .u64 part]).bind fun r2=>
  (C qh [.int .i64 (IntKind.wrap .i64 ((IntKind.wrap .i64 (k'*2^(min (6:Int).toNat (IntKind.bits .i64))))+((V.nth r2 0).toInt))),.list aI aT,.list aD av]).bind fun r3=>
  kn (IntKind.wrap .u64 ((BitVec.ofInt (IntKind.bits .u64) part&&&BitVec.ofInt (IntKind.bits .u64) (IntKind.wrap .u64 (part-1))).toNat),(V.nth r3 0).toList,(V.nth (r3.drop 1) 0).toList)
 else
  kr (part,(part:Int) != 0,av,aT)
noncomputable def v9 (C:ae) (k':Int) (t6:List V) (t7 t8:Int):(Int × (List V) × (List V))→Option ((Int × (List V) × (List V)) ⊕ (Int × Bool × (List V) × (List V))):=un fun part=>un fun av aT=>CM C k' t6 t7 t8 part av aT (fun y=>some (.inl y)) (fun r=>some (.inr r))
noncomputable def CN (C:ae) (t6:List V) (t7 t8:Int) (av aT:List V) {β:Type} (kn:(Int × (List V) × (List V))→Option β) (kr:(Int × Bool × (List V) × (List V))→Option β):Option β:=
 bif decide ((t8:Int)<t7) then
  (idx t6 t8).bind fun x1=>
  (Loop (v9 C t8 t6 t7 t8) (x1.toInt,av,aT)).bind (un fun (pr:Int)=>un fun (ik:Bool)=>un fun (Od:List V) (CK:List V)=>
   kn (IntKind.wrap .i64 (t8+1),Od,CK))
 else
  kr (t8,decide ((t8:Int)<t7),av,aT)
noncomputable def CO (C:ae) (t6:List V) (t7:Int):(Int × (List V) × (List V))→Option ((Int × (List V) × (List V)) ⊕ (Int × Bool × (List V) × (List V))):=un fun t8=>un fun av aT=>CN C t6 t7 t8 av aT (fun y=>some (.inl y)) (fun r=>some (.inr r))
noncomputable def Vr (C:ae):bZ:=fun β n ds k=>
 bif Nat.beq n 49 then bK NJ [false,true,false,false,false,true,true] [[1,0,3,4,5,0,0,0]] (@CM C) ds k else
 bif Nat.beq n 17 then bK NK [false,false,true,true,true] [[1,2,0,0,0,0]] (@CN C) ds k else
 none
abbrev Vs (C:ae) (b:bX):Prop:=bY Tryz.prog au C (Vr C) 141 (cj Tryz.prog (au.aP 141)) (au.sin 141).ba.length b
theorem agY (C:ae):Vs C (.loop (aw [1,0,0,1,1,0,0,1,0,0] H3)):=
 bN NJ [false,true,false,false,false,true,true] [[1,0,3,4,5,0,0,0]] (@CM C) (by kernel_rfl) (a8 (bs:=[]) (by kernel_rfl) ax) (fun ds=>by kernel_rfl) (fun i x=>by kernel_rfl) (fun i x β k=>by kernel_rfl) (fun β ds k=>by kernel_rfl)
theorem agZ (C:ae):Vs C (.loop (aw [1,0,0] H3)):=
 bN NK [false,false,true,true,true] [[1,2,0,0,0,0]] (@CN C) (by kernel_rfl) (a8 (bs:=[.loop (aw [1,0,0,1,1,0,0,1,0,0] H3)]) (by kernel_rfl) (bq (agY C) ax)) (fun ds=>by kernel_rfl) (fun i x=>by kernel_rfl) (fun i x β k=>by kernel_rfl) (fun β ds k=>by kernel_rfl)
noncomputable def Vt (C:ae) (s cv av:List V):Option (List V):=
 (Loop (CO C s (s.length:Int)) (0,av,cv)).bind (un fun (yY:Int)=>un fun (oj:Bool)=>un fun (nf:List V) (ng:List V)=>
  some [.list aD nf,.list aI ng])
theorem ag0 {s cv av:List V} {r:Option (List V)} (h:Vt CC s cv av=r):CC L9 [.list aI s,.list aI cv,.list aD av]=r:=
 aY (key:=141) (L:=Vr CC) (bs:=[.loop (aw [1,0,0] H3)]) (by kernel_rfl) (bq (agZ CC) ax) (aX (by kernel_rfl) h)
noncomputable abbrev H4:Code:=cg Tryz.prog (au.aP 142)
noncomputable def CP (C:ae) (k':Int) (t6:List V) (t7 t8 part:Int) (bL:List UInt8) (eS:Bool) (aT cz:List V) {β:Type} (kn:(Int × (List UInt8) × Bool × (List V) × (List V))→Option β) (kr:(Int × Bool × (List UInt8) × Bool × (List V) × (List V))→Option β):Option β:=
 bif (part:Int) != 0 then
  (C pj [.int .u64 part]).bind fun r2=>
  (C qi [.int .i64 (IntKind.wrap .i64 ((IntKind.wrap .i64 (k'*2^(min (6:Int).toNat (IntKind.bits .i64))))+((V.nth r2 0).toInt))),.str bL,.bool eS,.list aD aT,.list aD cz]).bind fun r3=>
  kn (IntKind.wrap .u64 ((BitVec.ofInt (IntKind.bits .u64) part&&&BitVec.ofInt (IntKind.bits .u64) (IntKind.wrap .u64 (part-1))).toNat),(V.nth r3 0).toStr,(V.nth (r3.drop 1) 0).toBool,(V.nth ((r3.drop 1).drop 1) 0).toList,(V.nth (((r3.drop 1).drop 1).drop 1) 0).toList)
 else
  kr (part,(part:Int) != 0,bL,eS,aT,cz)
noncomputable def wa (C:ae) (k':Int) (t6:List V) (t7 t8:Int):(Int × (List UInt8) × Bool × (List V) × (List V))→Option ((Int × (List UInt8) × Bool × (List V) × (List V)) ⊕ (Int × Bool × (List UInt8) × Bool × (List V) × (List V))):=un fun part=>un fun bL=>un fun eS=>un fun aT cz=>CP C k' t6 t7 t8 part bL eS aT cz (fun y=>some (.inl y)) (fun r=>some (.inr r))
noncomputable def CQ (C:ae) (t6:List V) (t7 t8:Int) (bL:List UInt8) (eS:Bool) (aT cz:List V) {β:Type} (kn:(Int × (List UInt8) × Bool × (List V) × (List V))→Option β) (kr:(Int × Bool × (List UInt8) × Bool × (List V) × (List V))→Option β):Option β:=
 bif decide ((t8:Int)<t7) then
  (idx t6 t8).bind fun x1=>
  (Loop (wa C t8 t6 t7 t8) (x1.toInt,bL,eS,aT,cz)).bind (un fun (pr:Int)=>un fun (ik:Bool)=>un fun (pt:List UInt8)=>un fun (vW:Bool)=>un fun (pw:List V) (sf:List V)=>
   kn (IntKind.wrap .i64 (t8+1),pt,vW,pw,sf))
 else
  kr (t8,decide ((t8:Int)<t7),bL,eS,aT,cz)
noncomputable def CR (C:ae) (t6:List V) (t7:Int):(Int × (List UInt8) × Bool × (List V) × (List V))→Option ((Int × (List UInt8) × Bool × (List V) × (List V)) ⊕ (Int × Bool × (List UInt8) × Bool × (List V) × (List V))):=un fun t8=>un fun bL=>un fun eS=>un fun aT cz=>CQ C t6 t7 t8 bL eS aT cz (fun y=>some (.inl y)) (fun r=>some (.inr r))
noncomputable def Vu (C:ae):bZ:=fun β n ds k=>
 bif Nat.beq n 49 then bK NL [false,true,false,false,false,true,true,true,true] [[1,0,3,4,5,0,0,0,0,0]] (@CP C) ds k else
 bif Nat.beq n 17 then bK NM [false,false,true,true,true,true,true] [[1,2,0,0,0,0,0,0]] (@CQ C) ds k else
 none
abbrev Vv (C:ae) (b:bX):Prop:=bY Tryz.prog au C (Vu C) 142 (cj Tryz.prog (au.aP 142)) (au.sin 142).ba.length b
theorem ag1 (C:ae):Vv C (.loop (aw [1,0,0,1,1,0,0,1,0,0] H4)):=
 bN NL [false,true,false,false,false,true,true,true,true] [[1,0,3,4,5,0,0,0,0,0]] (@CP C) (by kernel_rfl) (a8 (bs:=[]) (by kernel_rfl) ax) (fun ds=>by kernel_rfl) (fun i x=>by kernel_rfl) (fun i x β k=>by kernel_rfl) (fun β ds k=>by kernel_rfl)
theorem ag2 (C:ae):Vv C (.loop (aw [1,0,0] H4)):=
 bN NM [false,false,true,true,true,true,true] [[1,2,0,0,0,0,0,0]] (@CQ C) (by kernel_rfl) (a8 (bs:=[.loop (aw [1,0,0,1,1,0,0,1,0,0] H4)]) (by kernel_rfl) (bq (ag1 C) ax)) (fun ds=>by kernel_rfl) (fun i x=>by kernel_rfl) (fun i x β k=>by kernel_rfl) (fun β ds k=>by kernel_rfl)
noncomputable def Vw (C:ae) (s:List V) (bL:List UInt8) (eS:Bool) (aT cz:List V):Option (List V):=
 (Loop (CR C s (s.length:Int)) (0,bL,eS,aT,cz)).bind (un fun (vP:Int)=>un fun (tE:Bool)=>un fun (Oc:List UInt8)=>un fun (Cw:Bool)=>un fun (CS:List V) (CT:List V)=>
  some [.str Oc,.bool Cw,.list aD CS,.list aD CT])
theorem ag3 {s:List V} {bL:List UInt8} {eS:Bool} {aT cz:List V} {r:Option (List V)} (h:Vw CC s bL eS aT cz=r):CC Ht [.list aI s,.str bL,.bool eS,.list aD aT,.list aD cz]=r:=
 aY (key:=142) (L:=Vu CC) (bs:=[.loop (aw [1,0,0] H4)]) (by kernel_rfl) (bq (ag2 CC) ax) (aX (by kernel_rfl) h)
noncomputable abbrev H5:Code:=cg Tryz.prog (au.aP 143)
noncomputable def CU (C:ae) (k':Int) (t6:List V) (t7 t8 part:Int) (bL:Bool) (aT cz:List V) {β:Type} (kn:(Int × Bool × (List V) × (List V))→Option β) (kr:(Int × Bool × Bool × (List V) × (List V))→Option β):Option β:=
 bif (part:Int) != 0 then
  (C pj [.int .u64 part]).bind fun r2=>
  (C qj [.int .i64 (IntKind.wrap .i64 ((IntKind.wrap .i64 (k'*2^(min (6:Int).toNat (IntKind.bits .i64))))+((V.nth r2 0).toInt))),.bool bL,.list aI cz,.list aD aT]).bind fun r3=>
  kn (IntKind.wrap .u64 ((BitVec.ofInt (IntKind.bits .u64) part&&&BitVec.ofInt (IntKind.bits .u64) (IntKind.wrap .u64 (part-1))).toNat),(V.nth r3 0).toBool,(V.nth (r3.drop 1) 0).toList,(V.nth ((r3.drop 1).drop 1) 0).toList)
 else
  kr (part,(part:Int) != 0,bL,aT,cz)
noncomputable def wc (C:ae) (k':Int) (t6:List V) (t7 t8:Int):(Int × Bool × (List V) × (List V))→Option ((Int × Bool × (List V) × (List V)) ⊕ (Int × Bool × Bool × (List V) × (List V))):=un fun part=>un fun bL=>un fun aT cz=>CU C k' t6 t7 t8 part bL aT cz (fun y=>some (.inl y)) (fun r=>some (.inr r))
noncomputable def CV (C:ae) (t6:List V) (t7 t8:Int) (bL:Bool) (aT cz:List V) {β:Type} (kn:(Int × Bool × (List V) × (List V))→Option β) (kr:(Int × Bool × Bool × (List V) × (List V))→Option β):Option β:=
 bif decide ((t8:Int)<t7) then
  (idx t6 t8).bind fun x1=>
  (Loop (wc C t8 t6 t7 t8) (x1.toInt,bL,aT,cz)).bind (un fun (pr:Int)=>un fun (ik:Bool)=>un fun (pt:Bool)=>un fun (CK:List V) (pw:List V)=>
   kn (IntKind.wrap .i64 (t8+1),pt,CK,pw))
 else
  kr (t8,decide ((t8:Int)<t7),bL,aT,cz)
noncomputable def CW (C:ae) (t6:List V) (t7:Int):(Int × Bool × (List V) × (List V))→Option ((Int × Bool × (List V) × (List V)) ⊕ (Int × Bool × Bool × (List V) × (List V))):=un fun t8=>un fun bL=>un fun aT cz=>CV C t6 t7 t8 bL aT cz (fun y=>some (.inl y)) (fun r=>some (.inr r))
noncomputable def Vx (C:ae):bZ:=fun β n ds k=>
 bif Nat.beq n 49 then bK NN [false,true,false,false,false,true,true,true] [[1,0,3,4,5,0,0,0,0]] (@CU C) ds k else
 bif Nat.beq n 17 then bK NO [false,false,true,true,true,true] [[1,2,0,0,0,0,0]] (@CV C) ds k else
 none
abbrev Vy (C:ae) (b:bX):Prop:=bY Tryz.prog au C (Vx C) 143 (cj Tryz.prog (au.aP 143)) (au.sin 143).ba.length b
theorem ag4 (C:ae):Vy C (.loop (aw [1,0,0,1,1,0,0,1,0,0] H5)):=
 bN NN [false,true,false,false,false,true,true,true] [[1,0,3,4,5,0,0,0,0]] (@CU C) (by kernel_rfl) (a8 (bs:=[]) (by kernel_rfl) ax) (fun ds=>by kernel_rfl) (fun i x=>by kernel_rfl) (fun i x β k=>by kernel_rfl) (fun β ds k=>by kernel_rfl)
theorem ag5 (C:ae):Vy C (.loop (aw [1,0,0] H5)):=
 bN NO [false,false,true,true,true,true] [[1,2,0,0,0,0,0]] (@CV C) (by kernel_rfl) (a8 (bs:=[.loop (aw [1,0,0,1,1,0,0,1,0,0] H5)]) (by kernel_rfl) (bq (ag4 C) ax)) (fun ds=>by kernel_rfl) (fun i x=>by kernel_rfl) (fun i x β k=>by kernel_rfl) (fun β ds k=>by kernel_rfl)
noncomputable def Vz (C:ae) (s:List V) (bL:Bool) (av aT:List V):Option (List V):=
 (Loop (CW C s (s.length:Int)) (0,bL,aT,av)).bind (un fun (oj:Int)=>un fun (vP:Bool)=>un fun (Ob:Bool)=>un fun (we:List V) (v5:List V)=>
  some [.bool Ob,.list aD we,.list aI v5])
theorem ag6 {s:List V} {bL:Bool} {av aT:List V} {r:Option (List V)} (h:Vz CC s bL av aT=r):CC Ma [.list aI s,.bool bL,.list aI av,.list aD aT]=r:=
 aY (key:=143) (L:=Vx CC) (bs:=[.loop (aw [1,0,0] H5)]) (by kernel_rfl) (bq (ag5 CC) ax) (aX (by kernel_rfl) h)
abbrev ag7:Nat:=mZ
theorem ag8 {m F:Nat} (hm:m≤100) {P:Nat→((List UInt8) × Int × Int × (List V) × (List V))→Prop}
  (hv: ∀(i:Nat) (a:(List UInt8) × Int × Int × (List V) × (List V)),i<64*m→F.testBit i=true→P i a→∃a':(List UInt8) × Int × Int × (List V) × (List V),CC qg [.int .i64 (i:Int),.str a.1,.int .i64 a.2.1,.int .i64 a.2.2.1,.list aa a.2.2.2.1,.list aD a.2.2.2.2]=some [.str a'.1,.int .i64 a'.2.1,.int .i64 a'.2.2.1,.list aa a'.2.2.2.1,.list aD a'.2.2.2.2]∧P (i+1) a')
  (U: ∀i a,F.testBit i=false→P i a→P (i+1) a) (a:(List UInt8) × Int × Int × (List V) × (List V)) (hP:P 0 a):
  ∃a':(List UInt8) × Int × Int × (List V) × (List V),CC ag7 [.list aI (bh m F),.str a.1,.int .i64 a.2.1,.int .i64 a.2.2.1,.list aa a.2.2.2.1,.list aD a.2.2.2.2]=some [.str a'.1,.int .i64 a'.2.1,.int .i64 a'.2.2.1,.list aa a'.2.2.2.1,.list aD a'.2.2.2.2]∧P (64*m) a':=by
 suffices h: ∃a',Loop (Cv CC (bh m F) (m:Int)) (0,a)=some ((m:Int),false,a')∧P (64*m) a' by
  obtain ⟨a',hl,jt⟩:=h
  refine ⟨a',agL ?_,jt⟩
  unfold Ve
  rw[mr]
  exact (congrArg (fun o=>Option.bind o _) hl).trans rfl
 refine tL (S:=F) (m:=m) hm (outer:=Cv CC (bh m F) (m:Int)) (inner:=fun k=>vV CC (k:Int) (bh m F) (m:Int) (k:Int)) (P:=P) ?_ ?_ ?_ U ?_ a hP
 ·intro k a a' hk hl
  rcases a with ⟨x0,x1,x2,x3,x4⟩
  rcases a' with ⟨y0,y1,y2,y3,y4⟩
  replace hl:Loop (vV CC (k:Int) (bh m F) (m:Int) (k:Int)) _=_:=hl
  simp only[Cv,Cu,un]
  rw[az,ag (by omega),n0,lH hk]
  simp only[Option.bind_some,V.toInt_int]
  rw[hl]
  simp only[Option.bind_some]
  rw[wrap64 (by omega) (by omega)]
  rfl
 ·intro a
  rcases a with ⟨x0,x1,x2,x3,x4⟩
  simp only[Cv,Cu,un]
  rw[az,ah (by omega),cl (by omega)]
 ·intro k j q a hk hj hq hb hp
  obtain ⟨a',hc,hp'⟩:=hv (64*k+j) a (by omega) hb hp
  refine ⟨a',?_,hp'⟩
  show vV CC (k:Int) (bh m F) (m:Int) (k:Int) _=_
  rcases a with ⟨x0,x1,x2,x3,x4⟩
  rcases a' with ⟨y0,y1,y2,y3,y4⟩
  simp only[vV,Ct,un]
  rw[jo,ah tK,tG hq]
  simp only[Option.bind_some,V.aC,V.toInt_int]
  rw[tJ (by omega) hj]
  refine (congrArg (fun o=>Option.bind o _) hc).trans ?_
  simp only[Option.bind_some,ek,dK,V.aC,V.toInt_int,V.mh,V.cQ,V.bS]
  rw[tI hq]
 ·intro k a
  rcases a with ⟨x0,x1,x2,x3,x4⟩
  show vV CC (k:Int) (bh m F) (m:Int) (k:Int) _=_
  simp only[vV,Ct,un]
  rw[jo,ag rfl]
  rfl
abbrev VA:Nat:=L5
theorem ag9 {m F:Nat} (hm:m≤100) {P:Nat→(Int)→Prop}
  (hv: ∀(i:Nat) (a:Int),i<64*m→F.testBit i=true→P i a→∃a':Int,CC qk [.int .i64 (i:Int),.int .i64 a]=some [.int .i64 a']∧P (i+1) a')
  (U: ∀i a,F.testBit i=false→P i a→P (i+1) a) (a:Int) (hP:P 0 a):
  ∃a':Int,CC VA [.list aI (bh m F),.int .i64 a]=some [.int .i64 a']∧P (64*m) a':=by
 suffices h: ∃a',Loop (Cz CC (bh m F) (m:Int)) (0,a)=some ((m:Int),false,a')∧P (64*m) a' by
  obtain ⟨a',hl,jt⟩:=h
  refine ⟨a',agO ?_,jt⟩
  unfold Vh
  rw[mr]
  exact (congrArg (fun o=>Option.bind o _) hl).trans rfl
 refine tL (S:=F) (m:=m) hm (outer:=Cz CC (bh m F) (m:Int)) (inner:=fun k=>vY CC (k:Int) (bh m F) (m:Int) (k:Int)) (P:=P) ?_ ?_ ?_ U ?_ a hP
 ·intro k a a' hk hl
  replace hl:Loop (vY CC (k:Int) (bh m F) (m:Int) (k:Int)) _=_:=hl
  simp only[Cz,Cy,un]
  rw[az,ag (by omega),n0,lH hk]
  simp only[Option.bind_some,V.toInt_int]
  rw[hl]
  simp only[Option.bind_some]
  rw[wrap64 (by omega) (by omega)]
  rfl
 ·intro a
  simp only[Cz,Cy,un]
  rw[az,ah (by omega),cl (by omega)]
 ·intro k j q a hk hj hq hb hp
  obtain ⟨a',hc,hp'⟩:=hv (64*k+j) a (by omega) hb hp
  refine ⟨a',?_,hp'⟩
  show vY CC (k:Int) (bh m F) (m:Int) (k:Int) _=_
  simp only[vY,Cx,un]
  rw[jo,ah tK,tG hq]
  simp only[Option.bind_some,V.aC,V.toInt_int]
  rw[tJ (by omega) hj]
  refine (congrArg (fun o=>Option.bind o _) hc).trans ?_
  simp only[Option.bind_some,ek,dK,V.aC,V.toInt_int,V.mh,V.cQ,V.bS]
  rw[tI hq]
 ·intro k a
  show vY CC (k:Int) (bh m F) (m:Int) (k:Int) _=_
  simp only[vY,Cx,un]
  rw[jo,ag rfl]
  rfl
abbrev aha:Nat:=L6
theorem ahb {m F:Nat} (hm:m≤100) {P:Nat→((List UInt8) × Int × (List V))→Prop}
  (hv: ∀(i:Nat) (a:(List UInt8) × Int × (List V)),i<64*m→F.testBit i=true→P i a→∃a':(List UInt8) × Int × (List V),CC qn [.int .i64 (i:Int),.str a.1,.int .i64 a.2.1,.list aD a.2.2]=some [.str a'.1,.int .i64 a'.2.1,.list aD a'.2.2]∧P (i+1) a')
  (U: ∀i a,F.testBit i=false→P i a→P (i+1) a) (a:(List UInt8) × Int × (List V)) (hP:P 0 a):
  ∃a':(List UInt8) × Int × (List V),CC aha [.list aI (bh m F),.str a.1,.int .i64 a.2.1,.list aD a.2.2]=some [.str a'.1,.int .i64 a'.2.1,.list aD a'.2.2]∧P (64*m) a':=by
 suffices h: ∃a',Loop (CD CC (bh m F) (m:Int)) (0,a)=some ((m:Int),false,a')∧P (64*m) a' by
  obtain ⟨a',hl,jt⟩:=h
  refine ⟨a',agR ?_,jt⟩
  unfold Vk
  rw[mr]
  exact (congrArg (fun o=>Option.bind o _) hl).trans rfl
 refine tL (S:=F) (m:=m) hm (outer:=CD CC (bh m F) (m:Int)) (inner:=fun k=>vZ CC (k:Int) (bh m F) (m:Int) (k:Int)) (P:=P) ?_ ?_ ?_ U ?_ a hP
 ·intro k a a' hk hl
  rcases a with ⟨x0,x1,x2⟩
  rcases a' with ⟨y0,y1,y2⟩
  replace hl:Loop (vZ CC (k:Int) (bh m F) (m:Int) (k:Int)) _=_:=hl
  simp only[CD,CB,un]
  rw[az,ag (by omega),n0,lH hk]
  simp only[Option.bind_some,V.toInt_int]
  rw[hl]
  simp only[Option.bind_some]
  rw[wrap64 (by omega) (by omega)]
  rfl
 ·intro a
  rcases a with ⟨x0,x1,x2⟩
  simp only[CD,CB,un]
  rw[az,ah (by omega),cl (by omega)]
 ·intro k j q a hk hj hq hb hp
  obtain ⟨a',hc,hp'⟩:=hv (64*k+j) a (by omega) hb hp
  refine ⟨a',?_,hp'⟩
  show vZ CC (k:Int) (bh m F) (m:Int) (k:Int) _=_
  rcases a with ⟨x0,x1,x2⟩
  rcases a' with ⟨y0,y1,y2⟩
  simp only[vZ,CA,un]
  rw[jo,ah tK,tG hq]
  simp only[Option.bind_some,V.aC,V.toInt_int]
  rw[tJ (by omega) hj]
  refine (congrArg (fun o=>Option.bind o _) hc).trans ?_
  simp only[Option.bind_some,ek,dK,V.aC,V.toInt_int,V.mh,V.cQ,V.bS]
  rw[tI hq]
 ·intro k a
  rcases a with ⟨x0,x1,x2⟩
  show vZ CC (k:Int) (bh m F) (m:Int) (k:Int) _=_
  simp only[vZ,CA,un]
  rw[jo,ag rfl]
  rfl
abbrev VB:Nat:=L7
theorem ahc {m F:Nat} (hm:m≤100) {P:Nat→(Int × Int × (List V) × (List V) × (List V))→Prop}
  (hv: ∀(i:Nat) (a:Int × Int × (List V) × (List V) × (List V)),i<64*m→F.testBit i=true→P i a→∃a':Int × Int × (List V) × (List V) × (List V),CC qm [.int .i64 (i:Int),.int .i64 a.1,.int .i64 a.2.1,.list aa a.2.2.1,.list aD a.2.2.2.1,.list aD a.2.2.2.2]=some [.int .i64 a'.1,.int .i64 a'.2.1,.list aa a'.2.2.1,.list aD a'.2.2.2.1,.list aD a'.2.2.2.2]∧P (i+1) a')
  (U: ∀i a,F.testBit i=false→P i a→P (i+1) a) (a:Int × Int × (List V) × (List V) × (List V)) (hP:P 0 a):
  ∃a':Int × Int × (List V) × (List V) × (List V),CC VB [.list aI (bh m F),.int .i64 a.1,.int .i64 a.2.1,.list aa a.2.2.1,.list aD a.2.2.2.1,.list aD a.2.2.2.2]=some [.int .i64 a'.1,.int .i64 a'.2.1,.list aa a'.2.2.1,.list aD a'.2.2.2.1,.list aD a'.2.2.2.2]∧P (64*m) a':=by
 suffices h: ∃a',Loop (CG CC (bh m F) (m:Int)) (0,a)=some ((m:Int),false,a')∧P (64*m) a' by
  obtain ⟨a',hl,jt⟩:=h
  refine ⟨a',agU ?_,jt⟩
  unfold Vn
  rw[mr]
  exact (congrArg (fun o=>Option.bind o _) hl).trans rfl
 refine tL (S:=F) (m:=m) hm (outer:=CG CC (bh m F) (m:Int)) (inner:=fun k=>v7 CC (k:Int) (bh m F) (m:Int) (k:Int)) (P:=P) ?_ ?_ ?_ U ?_ a hP
 ·intro k a a' hk hl
  rcases a with ⟨x0,x1,x2,x3,x4⟩
  rcases a' with ⟨y0,y1,y2,y3,y4⟩
  replace hl:Loop (v7 CC (k:Int) (bh m F) (m:Int) (k:Int)) _=_:=hl
  simp only[CG,CF,un]
  rw[az,ag (by omega),n0,lH hk]
  simp only[Option.bind_some,V.toInt_int]
  rw[hl]
  simp only[Option.bind_some]
  rw[wrap64 (by omega) (by omega)]
  rfl
 ·intro a
  rcases a with ⟨x0,x1,x2,x3,x4⟩
  simp only[CG,CF,un]
  rw[az,ah (by omega),cl (by omega)]
 ·intro k j q a hk hj hq hb hp
  obtain ⟨a',hc,hp'⟩:=hv (64*k+j) a (by omega) hb hp
  refine ⟨a',?_,hp'⟩
  show v7 CC (k:Int) (bh m F) (m:Int) (k:Int) _=_
  rcases a with ⟨x0,x1,x2,x3,x4⟩
  rcases a' with ⟨y0,y1,y2,y3,y4⟩
  simp only[v7,CE,un]
  rw[jo,ah tK,tG hq]
  simp only[Option.bind_some,V.aC,V.toInt_int]
  rw[tJ (by omega) hj]
  refine (congrArg (fun o=>Option.bind o _) hc).trans ?_
  simp only[Option.bind_some,ek,dK,V.aC,V.toInt_int,V.mh,V.cQ,V.bS]
  rw[tI hq]
 ·intro k a
  rcases a with ⟨x0,x1,x2,x3,x4⟩
  show v7 CC (k:Int) (bh m F) (m:Int) (k:Int) _=_
  simp only[v7,CE,un]
  rw[jo,ag rfl]
  rfl
abbrev VC:Nat:=L8
theorem ahd {m F:Nat} (hm:m≤100) {P:Nat→((List V) × (List V))→Prop}
  (hv: ∀(i:Nat) (a:(List V) × (List V)),i<64*m→F.testBit i=true→P i a→∃a':(List V) × (List V),CC ql [.int .i64 (i:Int),.list aI a.2,.list aD a.1]=some [.list aD a'.1,.list aI a'.2]∧P (i+1) a')
  (U: ∀i a,F.testBit i=false→P i a→P (i+1) a) (a:(List V) × (List V)) (hP:P 0 a):
  ∃a':(List V) × (List V),CC VC [.list aI (bh m F),.list aI a.2,.list aD a.1]=some [.list aD a'.1,.list aI a'.2]∧P (64*m) a':=by
 suffices h: ∃a',Loop (CL CC (bh m F) (m:Int)) (0,a)=some ((m:Int),false,a')∧P (64*m) a' by
  obtain ⟨a',hl,jt⟩:=h
  refine ⟨a',agX ?_,jt⟩
  unfold Vq
  rw[mr]
  exact (congrArg (fun o=>Option.bind o _) hl).trans rfl
 refine tL (S:=F) (m:=m) hm (outer:=CL CC (bh m F) (m:Int)) (inner:=fun k=>v8 CC (k:Int) (bh m F) (m:Int) (k:Int)) (P:=P) ?_ ?_ ?_ U ?_ a hP
 ·intro k a a' hk hl
  rcases a with ⟨x0,x1⟩
  rcases a' with ⟨y0,y1⟩
  replace hl:Loop (v8 CC (k:Int) (bh m F) (m:Int) (k:Int)) _=_:=hl
  simp only[CL,CJ,un]
  rw[az,ag (by omega),n0,lH hk]
  simp only[Option.bind_some,V.toInt_int]
  rw[hl]
  simp only[Option.bind_some]
  rw[wrap64 (by omega) (by omega)]
  rfl
 ·intro a
  rcases a with ⟨x0,x1⟩
  simp only[CL,CJ,un]
  rw[az,ah (by omega),cl (by omega)]
 ·intro k j q a hk hj hq hb hp
  obtain ⟨a',hc,hp'⟩:=hv (64*k+j) a (by omega) hb hp
  refine ⟨a',?_,hp'⟩
  show v8 CC (k:Int) (bh m F) (m:Int) (k:Int) _=_
  rcases a with ⟨x0,x1⟩
  rcases a' with ⟨y0,y1⟩
  simp only[v8,CI,un]
  rw[jo,ah tK,tG hq]
  simp only[Option.bind_some,V.aC,V.toInt_int]
  rw[tJ (by omega) hj]
  refine (congrArg (fun o=>Option.bind o _) hc).trans ?_
  simp only[Option.bind_some,ek,dK,V.aC,V.toInt_int,V.mh,V.cQ,V.bS]
  rw[tI hq]
 ·intro k a
  rcases a with ⟨x0,x1⟩
  show v8 CC (k:Int) (bh m F) (m:Int) (k:Int) _=_
  simp only[v8,CI,un]
  rw[jo,ag rfl]
  rfl
abbrev VD:Nat:=L9
theorem ahe {m F:Nat} (hm:m≤100) {P:Nat→((List V) × (List V))→Prop}
  (hv: ∀(i:Nat) (a:(List V) × (List V)),i<64*m→F.testBit i=true→P i a→∃a':(List V) × (List V),CC qh [.int .i64 (i:Int),.list aI a.2,.list aD a.1]=some [.list aD a'.1,.list aI a'.2]∧P (i+1) a')
  (U: ∀i a,F.testBit i=false→P i a→P (i+1) a) (a:(List V) × (List V)) (hP:P 0 a):
  ∃a':(List V) × (List V),CC VD [.list aI (bh m F),.list aI a.2,.list aD a.1]=some [.list aD a'.1,.list aI a'.2]∧P (64*m) a':=by
 suffices h: ∃a',Loop (CO CC (bh m F) (m:Int)) (0,a)=some ((m:Int),false,a')∧P (64*m) a' by
  obtain ⟨a',hl,jt⟩:=h
  refine ⟨a',ag0 ?_,jt⟩
  unfold Vt
  rw[mr]
  exact (congrArg (fun o=>Option.bind o _) hl).trans rfl
 refine tL (S:=F) (m:=m) hm (outer:=CO CC (bh m F) (m:Int)) (inner:=fun k=>v9 CC (k:Int) (bh m F) (m:Int) (k:Int)) (P:=P) ?_ ?_ ?_ U ?_ a hP
 ·intro k a a' hk hl
  rcases a with ⟨x0,x1⟩
  rcases a' with ⟨y0,y1⟩
  replace hl:Loop (v9 CC (k:Int) (bh m F) (m:Int) (k:Int)) _=_:=hl
  simp only[CO,CN,un]
  rw[az,ag (by omega),n0,lH hk]
  simp only[Option.bind_some,V.toInt_int]
  rw[hl]
  simp only[Option.bind_some]
  rw[wrap64 (by omega) (by omega)]
  rfl
 ·intro a
  rcases a with ⟨x0,x1⟩
  simp only[CO,CN,un]
  rw[az,ah (by omega),cl (by omega)]
 ·intro k j q a hk hj hq hb hp
  obtain ⟨a',hc,hp'⟩:=hv (64*k+j) a (by omega) hb hp
  refine ⟨a',?_,hp'⟩
  show v9 CC (k:Int) (bh m F) (m:Int) (k:Int) _=_
  rcases a with ⟨x0,x1⟩
  rcases a' with ⟨y0,y1⟩
  simp only[v9,CM,un]
  rw[jo,ah tK,tG hq]
  simp only[Option.bind_some,V.aC,V.toInt_int]
  rw[tJ (by omega) hj]
  refine (congrArg (fun o=>Option.bind o _) hc).trans ?_
  simp only[Option.bind_some,ek,dK,V.aC,V.toInt_int,V.mh,V.cQ,V.bS]
  rw[tI hq]
 ·intro k a
  rcases a with ⟨x0,x1⟩
  show v9 CC (k:Int) (bh m F) (m:Int) (k:Int) _=_
  simp only[v9,CM,un]
  rw[jo,ag rfl]
  rfl
abbrev VE:Nat:=Ht
theorem ahf {m F:Nat} (hm:m≤100) {P:Nat→((List UInt8) × Bool × (List V) × (List V))→Prop}
  (hv: ∀(i:Nat) (a:(List UInt8) × Bool × (List V) × (List V)),i<64*m→F.testBit i=true→P i a→∃a':(List UInt8) × Bool × (List V) × (List V),CC qi [.int .i64 (i:Int),.str a.1,.bool a.2.1,.list aD a.2.2.1,.list aD a.2.2.2]=some [.str a'.1,.bool a'.2.1,.list aD a'.2.2.1,.list aD a'.2.2.2]∧P (i+1) a')
  (U: ∀i a,F.testBit i=false→P i a→P (i+1) a) (a:(List UInt8) × Bool × (List V) × (List V)) (hP:P 0 a):
  ∃a':(List UInt8) × Bool × (List V) × (List V),CC VE [.list aI (bh m F),.str a.1,.bool a.2.1,.list aD a.2.2.1,.list aD a.2.2.2]=some [.str a'.1,.bool a'.2.1,.list aD a'.2.2.1,.list aD a'.2.2.2]∧P (64*m) a':=by
 suffices h: ∃a',Loop (CR CC (bh m F) (m:Int)) (0,a)=some ((m:Int),false,a')∧P (64*m) a' by
  obtain ⟨a',hl,jt⟩:=h
  refine ⟨a',ag3 ?_,jt⟩
  unfold Vw
  rw[mr]
  exact (congrArg (fun o=>Option.bind o _) hl).trans rfl
 refine tL (S:=F) (m:=m) hm (outer:=CR CC (bh m F) (m:Int)) (inner:=fun k=>wa CC (k:Int) (bh m F) (m:Int) (k:Int)) (P:=P) ?_ ?_ ?_ U ?_ a hP
 ·intro k a a' hk hl
  rcases a with ⟨x0,x1,x2,x3⟩
  rcases a' with ⟨y0,y1,y2,y3⟩
  replace hl:Loop (wa CC (k:Int) (bh m F) (m:Int) (k:Int)) _=_:=hl
  simp only[CR,CQ,un]
  rw[az,ag (by omega),n0,lH hk]
  simp only[Option.bind_some,V.toInt_int]
  rw[hl]
  simp only[Option.bind_some]
  rw[wrap64 (by omega) (by omega)]
  rfl
 ·intro a
  rcases a with ⟨x0,x1,x2,x3⟩
  simp only[CR,CQ,un]
  rw[az,ah (by omega),cl (by omega)]
 ·intro k j q a hk hj hq hb hp
  obtain ⟨a',hc,hp'⟩:=hv (64*k+j) a (by omega) hb hp
  refine ⟨a',?_,hp'⟩
  show wa CC (k:Int) (bh m F) (m:Int) (k:Int) _=_
  rcases a with ⟨x0,x1,x2,x3⟩
  rcases a' with ⟨y0,y1,y2,y3⟩
  simp only[wa,CP,un]
  rw[jo,ah tK,tG hq]
  simp only[Option.bind_some,V.aC,V.toInt_int]
  rw[tJ (by omega) hj]
  refine (congrArg (fun o=>Option.bind o _) hc).trans ?_
  simp only[Option.bind_some,ek,dK,V.aC,V.toInt_int,V.mh,V.cQ,V.bS]
  rw[tI hq]
 ·intro k a
  rcases a with ⟨x0,x1,x2,x3⟩
  show wa CC (k:Int) (bh m F) (m:Int) (k:Int) _=_
  simp only[wa,CP,un]
  rw[jo,ag rfl]
  rfl
abbrev ahg:Nat:=Ma
theorem ahh {m F:Nat} (hm:m≤100) {P:Nat→(Bool × (List V) × (List V))→Prop}
  (hv: ∀(i:Nat) (a:Bool × (List V) × (List V)),i<64*m→F.testBit i=true→P i a→∃a':Bool × (List V) × (List V),CC qj [.int .i64 (i:Int),.bool a.1,.list aI a.2.2,.list aD a.2.1]=some [.bool a'.1,.list aD a'.2.1,.list aI a'.2.2]∧P (i+1) a')
  (U: ∀i a,F.testBit i=false→P i a→P (i+1) a) (a:Bool × (List V) × (List V)) (hP:P 0 a):
  ∃a':Bool × (List V) × (List V),CC ahg [.list aI (bh m F),.bool a.1,.list aI a.2.2,.list aD a.2.1]=some [.bool a'.1,.list aD a'.2.1,.list aI a'.2.2]∧P (64*m) a':=by
 suffices h: ∃a',Loop (CW CC (bh m F) (m:Int)) (0,a)=some ((m:Int),false,a')∧P (64*m) a' by
  obtain ⟨a',hl,jt⟩:=h
  refine ⟨a',ag6 ?_,jt⟩
  unfold Vz
  rw[mr]
  exact (congrArg (fun o=>Option.bind o _) hl).trans rfl
 refine tL (S:=F) (m:=m) hm (outer:=CW CC (bh m F) (m:Int)) (inner:=fun k=>wc CC (k:Int) (bh m F) (m:Int) (k:Int)) (P:=P) ?_ ?_ ?_ U ?_ a hP
 ·intro k a a' hk hl
  rcases a with ⟨x0,x1,x2⟩
  rcases a' with ⟨y0,y1,y2⟩
  replace hl:Loop (wc CC (k:Int) (bh m F) (m:Int) (k:Int)) _=_:=hl
  simp only[CW,CV,un]
  rw[az,ag (by omega),n0,lH hk]
  simp only[Option.bind_some,V.toInt_int]
  rw[hl]
  simp only[Option.bind_some]
  rw[wrap64 (by omega) (by omega)]
  rfl
 ·intro a
  rcases a with ⟨x0,x1,x2⟩
  simp only[CW,CV,un]
  rw[az,ah (by omega),cl (by omega)]
 ·intro k j q a hk hj hq hb hp
  obtain ⟨a',hc,hp'⟩:=hv (64*k+j) a (by omega) hb hp
  refine ⟨a',?_,hp'⟩
  show wc CC (k:Int) (bh m F) (m:Int) (k:Int) _=_
  rcases a with ⟨x0,x1,x2⟩
  rcases a' with ⟨y0,y1,y2⟩
  simp only[wc,CU,un]
  rw[jo,ah tK,tG hq]
  simp only[Option.bind_some,V.aC,V.toInt_int]
  rw[tJ (by omega) hj]
  refine (congrArg (fun o=>Option.bind o _) hc).trans ?_
  simp only[Option.bind_some,ek,dK,V.aC,V.toInt_int,V.mh,V.cQ,V.bS]
  rw[tI hq]
 ·intro k a
  rcases a with ⟨x0,x1,x2⟩
  show wc CC (k:Int) (bh m F) (m:Int) (k:Int) _=_
  simp only[wc,CU,un]
  rw[jo,ag rfl]
  rfl
noncomputable abbrev H6:Code:=cg Tryz.prog (au.aP 45)
noncomputable def H7 (C:ae) (i:Int) (t10:Bool) (dk:List UInt8) (tM wg:Int) (ze av:List V) {β:Type} (kr:(List V)→Option β):Option β:=
 bif t10 then
  bif (decide (0≤i))&&(decide (i<(av.length:Int))) then
  (av[(i:Int).toNat]?).bind fun x3=>
  (C Hs [dF ((i:Int).toNat),.int .i64 i,.list aD av]).bind fun r4=>
  kr ((V.nth r4 0).toList)
  else none
 else
  bif (tM:Int)==3 then
  bif decide ((i:Int)<(dk.length:Int)) then
   (bif decide (0≤i) then (dk[(i:Int).toNat]?).map fun b=>V.int .u8 b.toNat else none).bind fun x5=>
   bif ((IntKind.wrap .i64 (IntKind.wrap .u8 (x5.toInt-97))):Int)==wg then
   bif (decide (0≤i))&&(decide (i<(av.length:Int))) then
    (av[(i:Int).toNat]?).bind fun x6=>
    (C Hs [dF ((i:Int).toNat),.int .i64 (IntKind.wrap .i64 (i+1)),.list aD av]).bind fun r7=>
    kr ((V.nth r7 0).toList)
   else none
   else
   kr av
  else
   kr av
  else
  kr av
noncomputable def VF (C:ae):bZ:=fun β n ds k=>
 bif Nat.beq n 175 then iM MC [[3,4,5,6,0]] (@H7 C) ds k else
 none
abbrev ahi (C:ae) (b:bX):Prop:=bY Tryz.prog au C (VF C) 45 (cj Tryz.prog (au.aP 45)) (au.sin 45).ba.length b
theorem ahj (C:ae):ahi C (.cond 10 (aw [1,0,1,0] H6) (aw [1,0,1,1] H6)):=
 jq MC [[3,4,5,6,0]] (@H7 C) (by kernel_rfl) (a8 (bs:=[]) (by kernel_rfl) ax) (a8 (bs:=[]) (by kernel_rfl) ax) (fun ds=>by kernel_rfl) (fun i β k=>by kernel_rfl) (fun β ds k=>by kernel_rfl)
noncomputable def VG (C:ae) (i:Int) (dk:List UInt8) (tM wg:Int) (ze av:List V):Option (List V):=
 (C pg [.str dk]).bind fun r1=>
 bif (decide (0≤i))&&(decide (i<(av.length:Int))) then
  (av[(i:Int).toNat]?).bind fun x2=>
  H7 C i ((tM:Int)==2) dk tM wg ze (av.set ((i:Int).toNat) (.list aI ((V.nth r1 0).toList))) (fun (pw:List V)=>
   some [.str dk,.int .i64 tM,.int .i64 wg,.list aa ze,.list aD pw])
 else none
theorem ahk {i:Int} {dk:List UInt8} {tM wg:Int} {ze av:List V} {r:Option (List V)} (h:VG CC i dk tM wg ze av=r):CC qg [.int .i64 i,.str dk,.int .i64 tM,.int .i64 wg,.list aa ze,.list aD av]=r:=
 aY (key:=45) (L:=VF CC) (bs:=[.cond 10 (aw [1,0,1,0] H6) (aw [1,0,1,1] H6)]) (by kernel_rfl) (bq (ahj CC) ax) (aX (by kernel_rfl) h)
noncomputable def VH (C:ae) (i dk:Int):Option (List V):=
 some [.int .i64 (if i<dk then i else dk)]
theorem ahl {i dk:Int} {r:Option (List V)} (h:VH CC i dk=r):CC qk [.int .i64 i,.int .i64 dk]=r:=
 aY (key:=58) (L:=b6) (bs:=[]) (by kernel_rfl) ax (aX (by kernel_rfl) h)
noncomputable def VI (C:ae) (j:Int) (cv av:List V):Option (List V):=
 (C yD [.list aI cv,.int .i64 j]).bind fun r1=>
 bif !((V.nth r1 0).toBool) then
  bif (decide (0≤j))&&(decide (j<(av.length:Int))) then
  (av[(j:Int).toNat]?).bind fun x2=>
  (da Tryz.prog aD av [((j:Int).toNat,0)]).bind fun x3=>
  (C vD [.list aI x3.toList,.int .i64 j,.list aI cv]).bind fun r4=>
  some [.list aD av,.list aI ((V.nth r4 0).toList)]
  else none
 else
  some [.list aD av,.list aI cv]
theorem ahm {j:Int} {cv av:List V} {r:Option (List V)} (h:VI CC j cv av=r):CC ql [.int .i64 j,.list aI cv,.list aD av]=r:=
 aY (key:=59) (L:=b6) (bs:=[]) (by kernel_rfl) ax (aX (by kernel_rfl) h)
noncomputable abbrev VJ:Code:=cg Tryz.prog (au.aP 60)
noncomputable def CX (C:ae) (i t10 lI mu:Int) (tN aT:List V) (t11:Int) (av:List V) {β:Type} (kn:(Int × (List V))→Option β) (kr:(Int × Bool × (List V))→Option β):Option β:=
 bif decide ((t11:Int)<t10) then
  bif (lI:Int)==4 then
  bif (decide (0≤i))&&(decide (i<(av.length:Int))) then
   (av[(i:Int).toNat]?).bind fun x3=>
   (da Tryz.prog aD av [((i:Int).toNat,0)]).bind fun x4=>
   bif (decide (0≤t11))&&(decide (t11<(x4.toList.length:Int))) then
   (da Tryz.prog aD av [((i:Int).toNat,0)]).bind fun x5=>
   (x5.toList[(t11:Int).toNat]?).bind fun x6=>
   bif (decide (0≤i))&&(decide (i<(aT.length:Int))) then
    (aT[(i:Int).toNat]?).bind fun x7=>
    (da Tryz.prog aD aT [((i:Int).toNat,0)]).bind fun x8=>
    bif (decide (0≤t11))&&(decide (t11<(x8.toList.length:Int))) then
    (da Tryz.prog aD aT [((i:Int).toNat,0)]).bind fun x9=>
    (x9.toList[(t11:Int).toNat]?).bind fun im=>
    (da Tryz.prog aD av [((i:Int).toNat,0)]).bind fun et=>
    bif (decide (0≤t11))&&(decide (t11<(et.toList.length:Int))) then
     (da Tryz.prog aD av [((i:Int).toNat,0)]).bind fun sg=>
     (sg.toList[(t11:Int).toNat]?).bind fun iN=>
     kn (IntKind.wrap .i64 (t11+1),setRow Tryz.prog (sg.toList.set ((t11:Int).toNat) (.int .u64 (IntKind.wrap .u64 ((BitVec.ofInt (IntKind.bits .u64) x6.toInt|||BitVec.ofInt (IntKind.bits .u64) im.toInt).toNat)))) aD av [((i:Int).toNat,0)])
    else none
    else none
   else none
   else none
  else none
  else
  bif (decide (0≤i))&&(decide (i<(av.length:Int))) then
   (av[(i:Int).toNat]?).bind fun mw=>
   (da Tryz.prog aD av [((i:Int).toNat,0)]).bind fun fB=>
   bif (decide (0≤t11))&&(decide (t11<(fB.toList.length:Int))) then
   (da Tryz.prog aD av [((i:Int).toNat,0)]).bind fun gf=>
   (gf.toList[(t11:Int).toNat]?).bind fun py=>
   bif (decide (0≤i))&&(decide (i<(aT.length:Int))) then
    (aT[(i:Int).toNat]?).bind fun wh=>
    (da Tryz.prog aD aT [((i:Int).toNat,0)]).bind fun oo=>
    bif (decide (0≤t11))&&(decide (t11<(oo.toList.length:Int))) then
    (da Tryz.prog aD aT [((i:Int).toNat,0)]).bind fun sh=>
    (sh.toList[(t11:Int).toNat]?).bind fun zf=>
    (da Tryz.prog aD av [((i:Int).toNat,0)]).bind fun VK=>
    bif (decide (0≤t11))&&(decide (t11<(VK.toList.length:Int))) then
     (da Tryz.prog aD av [((i:Int).toNat,0)]).bind fun iO=>
     (iO.toList[(t11:Int).toNat]?).bind fun tO=>
     kn (IntKind.wrap .i64 (t11+1),setRow Tryz.prog (iO.toList.set ((t11:Int).toNat) (.int .u64 (IntKind.wrap .u64 ((BitVec.ofInt (IntKind.bits .u64) py.toInt&&&BitVec.ofInt (IntKind.bits .u64) zf.toInt).toNat)))) aD av [((i:Int).toNat,0)])
    else none
    else none
   else none
   else none
  else none
 else
  kr (t11,decide ((t11:Int)<t10),av)
noncomputable def CY (C:ae) (i t10 lI mu:Int) (tN aT:List V):(Int × (List V))→Option ((Int × (List V)) ⊕ (Int × Bool × (List V))):=un fun t11 av=>CX C i t10 lI mu tN aT t11 av (fun y=>some (.inl y)) (fun r=>some (.inr r))
noncomputable def VL (C:ae):bZ:=fun β n ds k=>
 bif Nat.beq n 17 then bK ML [false,false,true,false,false,false,true,false] [[1,2,0,0,4,5,6,0,8]] (@CX C) ds k else
 none
abbrev ahn (C:ae) (b:bX):Prop:=bY Tryz.prog au C (VL C) 60 (cj Tryz.prog (au.aP 60)) (au.sin 60).ba.length b
theorem aho (C:ae):ahn C (.loop (aw [1,0,0] VJ)):=
 bN ML [false,false,true,false,false,false,true,false] [[1,2,0,0,4,5,6,0,8]] (@CX C) (by kernel_rfl) (a8 (bs:=[]) (by kernel_rfl) ax) (fun ds=>by kernel_rfl) (fun i x=>by kernel_rfl) (fun i x β k=>by kernel_rfl) (fun β ds k=>by kernel_rfl)
noncomputable def VM (C:ae) (i lI mu:Int) (tN av aT:List V):Option (List V):=
 bif (decide (0≤i))&&(decide (i<(av.length:Int))) then
  (av[(i:Int).toNat]?).bind fun x1=>
  (da Tryz.prog aD av [((i:Int).toNat,0)]).bind fun x2=>
  (Loop (CY C i (x2.toList.length:Int) lI mu tN aT) (0,av)).bind (un fun (Up:Int)=>un fun (NT:Bool) (ahp:List V)=>
   some [.int .i64 lI,.int .i64 mu,.list aa tN,.list aD ahp,.list aD aT])
 else none
theorem ahq {i lI mu:Int} {tN av aT:List V} {r:Option (List V)} (h:VM CC i lI mu tN av aT=r):CC qm [.int .i64 i,.int .i64 lI,.int .i64 mu,.list aa tN,.list aD av,.list aD aT]=r:=
 aY (key:=60) (L:=VL CC) (bs:=[.loop (aw [1,0,0] VJ)]) (by kernel_rfl) (bq (aho CC) ax) (aX (by kernel_rfl) h)
noncomputable def VN (C:ae) (i:Int) (cv av:List V):Option (List V):=
 bif (decide (0≤i))&&(decide (i<(av.length:Int))) then
  (av[(i:Int).toNat]?).bind fun x1=>
  (da Tryz.prog aD av [((i:Int).toNat,0)]).bind fun x2=>
  (C vD [.list aI x2.toList,.int .i64 i,.list aI cv]).bind fun r3=>
  some [.list aD av,.list aI ((V.nth r3 0).toList)]
 else none
theorem ahr {i:Int} {cv av:List V} {r:Option (List V)} (h:VN CC i cv av=r):CC qh [.int .i64 i,.list aI cv,.list aD av]=r:=
 aY (key:=53) (L:=b6) (bs:=[]) (by kernel_rfl) ax (aX (by kernel_rfl) h)
noncomputable def VO (C:ae) (i:Int) (dk:List UInt8) (H8:Bool) (aT cz:List V):Option (List V):=
 (C pg [.str dk]).bind fun r1=>
 bif (decide (0≤i))&&(decide (i<(aT.length:Int))) then
  (aT[(i:Int).toNat]?).bind fun x2=>
  (da Tryz.prog aD aT [((i:Int).toNat,0)]).bind fun x3=>
  (C Ma [.list aI x3.toList,.bool H8,.list aI ((V.nth r1 0).toList),.list aD cz]).bind fun r4=>
  bif (decide (0≤i))&&(decide (i<(aT.length:Int))) then
  (aT[(i:Int).toNat]?).bind fun x5=>
  some [.str dk,.bool ((V.nth r4 0).toBool),.list aD (aT.set ((i:Int).toNat) (.list aI ((V.nth ((r4.drop 1).drop 1) 0).toList))),.list aD ((V.nth (r4.drop 1) 0).toList)]
  else none
 else none
theorem ahs {i:Int} {dk:List UInt8} {H8:Bool} {aT cz:List V} {r:Option (List V)} (h:VO CC i dk H8 aT cz=r):CC qi [.int .i64 i,.str dk,.bool H8,.list aD aT,.list aD cz]=r:=
 aY (key:=56) (L:=b6) (bs:=[]) (by kernel_rfl) ax (aX (by kernel_rfl) h)
end Go.AM
