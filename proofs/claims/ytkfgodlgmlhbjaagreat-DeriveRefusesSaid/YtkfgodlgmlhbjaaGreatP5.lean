/-
  Functions of the program, lifted to plain data.
-/
import Derived.Test.YtkfgodlgmlhbjaaGreatProg
import Derived.Tactics
import Derived.Tactics2
import Derived.StillTactics
import Derived.Laws.Pointers
import Derived.Lib.LazyBuf
import Derived.RegionTactic
import Derived.LoopTactic
import Derived.WalkKit
import Derived.Laws.Externs
import Derived.Lib.Builder
import Derived.Recover
import Derived.Sort.AssemblyPlain
import Derived.Test.YtkfgodlgmlhbjaaGreatP4
set_option linter.unusedVariables false
set_option linter.unusedSimpArgs false
set_option maxRecDepth 100000
namespace Go.AM
open Go.Proofs
abbrev Lw:FuncId:=3
abbrev rX:FuncId:=4
abbrev qx:FuncId:=5
abbrev vF:FuncId:=6
abbrev qy:FuncId:=7
abbrev fc:FuncId:=8
abbrev tt:FuncId:=9
abbrev vG:FuncId:=10
abbrev tu:FuncId:=11
abbrev tv:FuncId:=12
abbrev tw:FuncId:=13
abbrev pq:FuncId:=14
abbrev BX:FuncId:=15
abbrev GD:FuncId:=16
abbrev GF:FuncId:=17
abbrev GG:FuncId:=18
abbrev GH:FuncId:=19
abbrev BY:FuncId:=20
abbrev yo:FuncId:=21
abbrev GI:FuncId:=22
abbrev GJ:FuncId:=23
abbrev vH:FuncId:=24
abbrev tx:FuncId:=25
abbrev tz:FuncId:=26
abbrev BZ:FuncId:=27
abbrev vI:FuncId:=28
abbrev B0:FuncId:=29
abbrev bN:FuncId:=30
abbrev B1:FuncId:=31
abbrev B4:FuncId:=32
abbrev GK:FuncId:=33
abbrev rY:FuncId:=34
abbrev vJ:FuncId:=35
abbrev yp:FuncId:=36
abbrev yq:FuncId:=37
abbrev B5:FuncId:=38
abbrev GL:FuncId:=39
abbrev yr:FuncId:=40
abbrev B6:FuncId:=41
abbrev k9:FuncId:=42
abbrev GM:FuncId:=43
abbrev yu:FuncId:=44
abbrev B7:FuncId:=45
abbrev vK:FuncId:=46
abbrev yv:FuncId:=47
abbrev GN:FuncId:=48
abbrev vL:FuncId:=49
abbrev GO:FuncId:=50
abbrev GP:FuncId:=51
abbrev vM:FuncId:=52
abbrev pr:FuncId:=53
abbrev yw:FuncId:=54
abbrev GQ:FuncId:=55
abbrev pt:FuncId:=56
abbrev tA:FuncId:=57
abbrev GR:FuncId:=58
abbrev tB:FuncId:=59
abbrev yx:FuncId:=60
abbrev la:FuncId:=61
abbrev B8:FuncId:=62
abbrev vN:FuncId:=63
abbrev B9:FuncId:=64
abbrev yz:FuncId:=65
abbrev yA:FuncId:=66
abbrev qz:FuncId:=67
abbrev tC:FuncId:=68
abbrev rZ:FuncId:=69
abbrev GS:FuncId:=70
abbrev GU:FuncId:=71
abbrev GV:FuncId:=72
abbrev vO:FuncId:=73
abbrev nu:FuncId:=74
abbrev Cc:FuncId:=75
abbrev GW:FuncId:=77
abbrev GX:FuncId:=78
abbrev tD:FuncId:=79
abbrev yB:FuncId:=80
abbrev yC:FuncId:=81
abbrev nw:FuncId:=82
abbrev ny:FuncId:=83
abbrev vP:FuncId:=84
abbrev qA:FuncId:=85
abbrev pw:FuncId:=86
abbrev yD:FuncId:=88
abbrev GY:FuncId:=89
abbrev qB:FuncId:=90
abbrev Lx:FuncId:=91
abbrev Ce:FuncId:=92
abbrev Ly:FuncId:=93
abbrev LA:FuncId:=94
abbrev LB:FuncId:=95
abbrev LC:FuncId:=96
abbrev LD:FuncId:=97
abbrev LF:FuncId:=98
abbrev LG:FuncId:=99
abbrev LH:FuncId:=100
abbrev GZ:FuncId:=102
abbrev LI:FuncId:=103
abbrev G0:FuncId:=104
abbrev G1:FuncId:=105
abbrev LJ:FuncId:=106
abbrev LL:FuncId:=107
abbrev LM:FuncId:=108
abbrev eL:TypeId:=3
abbrev jy:TypeId:=4
abbrev dv:TypeId:=5
abbrev I4:TypeId:=22
abbrev YL:TypeId:=23
abbrev aa:TypeId:=27
abbrev aI:TypeId:=36
abbrev cK:TypeId:=55
abbrev LN:Nat:=126
abbrev Cf:Nat:=127
abbrev G2:Nat:=128
abbrev G3:Nat:=129
abbrev G4:Nat:=130
abbrev G5:Nat:=132
abbrev G6:Nat:=133
abbrev af:VS:= .one (.int .i64)
abbrev aS:VS:= .one (.bool)
abbrev cw:VS:= .one (.list aa)
abbrev cb:VS:= .one (.nT 0 0 0)
abbrev bK:VS:= .one (.whole aa 0)
abbrev fu:VS:= .one (.nT 1 0 0)
abbrev r0:VS:= .one (.whole aa 4)
abbrev vQ:VS:= .one (.qX)
abbrev yE:VS:= .one (.whole aa 1)
abbrev qC:VS:= .one (.whole aa 2)
abbrev vR:VS:= .one (.list aI)
abbrev vS:VS:= .one (.whole aa 5)
abbrev yF:VS:= .one (.whole aa 3)
abbrev ow:VS:= .one (.int .u64)
abbrev tE:VS:= .one (.whole aa 6)
abbrev nz:VS:= .one (.nT 2 0 0)
abbrev vT:VS:= .one (.cQ cK 3)
abbrev LO:VS:= .one (.whole aI 2)
abbrev G7:VS:= .one (.whole aI 5)
abbrev ab5:VS:= .one (.whole dv 2)
abbrev yG:VS:= .one (.nT 3 0 0)
abbrev G8:VS:= .one (.whole aI 3)
abbrev vU:VS:= .one (.str)
abbrev Cg:VS:= .one (.whole aI 7)
abbrev ab6:VS:= .one (.whole dv 3)
abbrev G9:VS:= .one (.whole eL 2)
abbrev Ha:VS:= .one (.list eL)
abbrev LP:VS:= .one (.whole aI 6)
abbrev ab7:VS:= .one (.whole dv 1)
abbrev ab8:VS:= .one (.cQ cK 6)
abbrev ab9:VS:= .one (.whole aI 1)
abbrev aca:VS:= .one (.whole aI 4)
abbrev acb:VS:= .one (.whole aa 7)
abbrev py:VS:= .agg [.int .i64,.int .i64,.list aa]
abbrev yH:VS:= .agg [.int .i64,.list aa,.list aI,.int .i64]
abbrev Hb:VS:= .agg [.int .i64,.int .i64,.list aa,.int .i64,.int .i64,.list aa,.bool]
abbrev acd:VS:= .agg [.int .i64,.bool]
abbrev ace:VS:= .agg [.int .i64,.whole aa 0,.whole aI 1,.int .i64]
abbrev Hc:VS:= .agg [.int .i64,.int .i64,.whole aa 0]
abbrev TO:VS:= .agg [.int .i64,.int .i64,.whole jy 0,.whole aI 1]
abbrev hZ:BS:= .var 27 [af,af,cw]
abbrev acf:BS:= .var 3 [af]
abbrev Hd:BS:= .var 25 [af,cw,vR,af]
abbrev acg:BS:= .var 86 [vQ,ab5]
abbrev LQ:BS:= .var 27 [af,af,yF]
abbrev TP:BS:= .var 25 [af,yE,LO,af]
abbrev vV:BS:= .var 27 [af,af,vS]
abbrev vW:BS:= .var 27 [af,af,tE]
abbrev ach:BS:= .var 86 [vQ,ab6]
abbrev aci:BS:= .var 57 [af,yE,LO,af,vT]
abbrev LR:BS:= .var 125 [ow]
abbrev LU:BS:= .var 25 [af,r0,G7,af]
abbrev acj:BS:= .var 57 [af,r0,G7,af,vT]
abbrev Ch:BS:= .var 79 [af,af,r0,af,af,vS,aS]
abbrev ack:BS:= .var 86 [vQ,ab7]
abbrev LW:BS:= .var 25 [af,qC,G8,af]
abbrev LX:BS:= .var 57 [af,r0,G7,af,ab8]
abbrev He:BS:= .var 81 [af,aS]
abbrev acm:BS:= .var 25 [af,tE,Cg,af]
abbrev acn:BS:= .var 25 [af,qC,ab9,af]
abbrev aco:BS:= .var 25 [af,yF,aca,af]
abbrev acp:BS:= .var 25 [af,vS,LP,af]
abbrev LY:BS:= .var 27 [af,af,acb]
abbrev TQ:BS:= .var 57 [af,qC,G8,af,.one (.cQ cK 4)]
abbrev TR:BS:= .var 39 [af,af,.one (.whole jy 8),.one (.whole aI 9)]
abbrev br:BS:= .arr aa false
abbrev fD:BS:= .arr aI false
abbrev LZ:BS:= .arr dv false
abbrev qD:BS:= .arr jy false
abbrev Hf:BS:= .arr eL false
abbrev tF:BS:= .nest aI
abbrev bd:List BS:=[br]
abbrev lO:List BS:=[acf]
abbrev ox:List BS:=[hZ]
abbrev pz:List BS:=[acg,.dead,LZ]
abbrev vX:List BS:=[ach,.dead,hZ,LZ]
abbrev vY:List BS:=[aci,br,fD,.map cK]
abbrev yI:List BS:=[TP,br,tF]
abbrev yJ:List BS:=[Hd,Hd]
abbrev yK:List BS:=[hZ,LQ,br,br]
abbrev yL:List BS:=[.dead,br]
abbrev Ci:List BS:=[acj,.dead,.dead,.map cK,br,fD]
abbrev Cj:List BS:=[ack,LZ]
abbrev Hg:List BS:=[br,LR]
abbrev L0:List BS:=[LU,acm,Hf,hZ,br,fD,br,tF]
abbrev L1:List BS:=[acn,tF,br]
abbrev L2:List BS:=[aco,acp,Hf,br,fD,br,tF]
abbrev TS:List BS:=[LW,LX,br,fD,br,fD,.map cK]
abbrev eE:List (Nat × VS):=[(0,aS)]
abbrev fR:List (Nat × VS):=[(0,py)]
abbrev fS:List (Nat × VS):=[(0,af)]
abbrev lP:List (Nat × VS):=[(0,py),(1,af)]
abbrev tG:List (Nat × VS):=[(0,bK)]
abbrev yM:List (Nat × VS):=[(0,cb)]
abbrev Ck:List (Nat × VS):=[(4,cb),(5,af)]
abbrev Cl:List (Nat × VS):=[(4,aS)]
abbrev Cm:List (Nat × VS):=[(4,af)]
abbrev Cn:List (Nat × VS):=[(0,yH)]
abbrev Co:List (Nat × VS):=[(0,yE)]
abbrev Hh:List (Nat × VS):=[(0,py),(1,py)]
abbrev Hi:List (Nat × VS):=[(0,af),(1,cw)]
abbrev Hj:List (Nat × VS):=[(0,af),(1,af)]
abbrev Hk:List (Nat × VS):=[(0,acd),(1,py)]
abbrev Hl:List (Nat × VS):=[(0,ace),(1,af)]
abbrev L3:List (Nat × VS):=[(0,yH),(1,af)]
abbrev TT:List (Nat × VS):=[(0,af),(5,bK),(8,cw),(9,af),(10,af),(11,aS)]
abbrev TU:List (Nat × VS):=[(1,af),(2,cb),(4,fu),(8,qC),(58,cw),(59,af),(60,af)]
def L4:Shape × List (Out × Shape):=(⟨[(4,af),(5,af),(13,cb),(96,aS)],yI⟩,[(.norm,⟨[(13,cb)],yI⟩)])
def L5:Shape × List (Out × Shape):=(⟨[(4,af),(5,af),(13,cb),(70,af),(92,aS)],yI⟩,[(.norm,⟨[(13,cb)],yI⟩)])
def L6:Shape × List (Out × Shape):=(⟨[(4,af),(5,af),(13,cb),(70,af),(88,aS)],yI⟩,[(.norm,⟨[(13,cb)],yI⟩)])
abbrev TV:List (Nat × VS):=[(1,af),(4,cb),(6,fu)]
def L7:Shape × List (Out × Shape):=(⟨TV,TS⟩,[(.ret,⟨Ck,[TP,br,fD]⟩),(.exit 0,⟨TV++[(26,aS)],TS⟩)])
def L8:Shape × List (Out × Shape):=(⟨[(1,cb),(5,fu)],[Hd,TQ,br,fD,.map cK]⟩,[(.ret,⟨[(2,.one (.dH)),(3,.one (.xj false))],[]⟩),(.exit 0,⟨[(1,cb),(5,fu),(49,aS)],[Hd,TQ,br,fD,.map cK]⟩)])
abbrev TW:List (Nat × VS):=[(1,af),(4,cb),(6,fu),(7,G9),(8,af),(9,yG),(11,af),(61,af),(62,af)]
def L9:Shape × List (Out × Shape):=(⟨TW,L0⟩,[(.exit 4,⟨TW++[(63,aS)],L0⟩)])
def Ma:Shape × List (Out × Shape):=(⟨[(1,af),(4,cb),(6,fu),(7,G9),(8,af),(9,yG),(11,af),(76,aS)],L0⟩,[(.ret,⟨Ck,L1⟩),(.norm,⟨[(1,af),(4,cb),(6,fu),(7,G9),(8,af),(11,af)],L2⟩)])
abbrev TY:List (Nat × VS):=[(1,af),(4,cb),(6,fu),(7,G9),(8,af)]
def Mb:Shape × List (Out × Shape):=(⟨TY,L2⟩,[(.ret,⟨Ck,L1⟩),(.exit 2,⟨TY++[(41,aS)],L2⟩)])
abbrev TZ:List (Nat × VS):=[(1,af),(4,cb),(6,fu)]
def Mc:Shape × List (Out × Shape):=(⟨TZ,[LW,LU,br,fD,br,tF]⟩,[(.ret,⟨Ck,L1⟩),(.exit 0,⟨TZ++[(35,aS)],[LW,LU,br,fD,br,tF]⟩)])
abbrev T2:List (Nat × VS):=[(2,cb),(3,fu),(40,af),(41,af)]
def Md:Shape × List (Out × Shape):=(⟨T2,yJ⟩,[(.ret,⟨Cl,[]⟩),(.exit 0,⟨T2++[(42,aS)],yJ⟩)])
abbrev T4:List (Nat × VS):=[(2,cb),(3,fu),(6,af),(59,af),(60,af),(81,af),(82,af)]
def Me:Shape × List (Out × Shape):=(⟨T4,yJ⟩,[(.ret,⟨Cl,[]⟩),(.exit 4,⟨T4++[(83,aS)],yJ⟩)])
abbrev T6:List (Nat × VS):=[(2,cb),(3,fu),(59,af),(60,af)]
def Mf:Shape × List (Out × Shape):=(⟨T6,yJ⟩,[(.ret,⟨Cl,[]⟩),(.exit 2,⟨T6++[(61,aS)],yJ⟩)])
def Mg:Shape × List (Out × Shape):=(⟨[(1,af),(2,cb),(5,af),(6,aS),(39,aS)],ox⟩,[(.norm,⟨[(1,af),(2,cb),(5,af),(6,aS)],ox⟩)])
abbrev T7:List (Nat × VS):=[(1,af),(2,cb),(5,af),(6,aS),(7,af)]
def Mh:Shape × List (Out × Shape):=(⟨T7,ox⟩,[(.exit 1,⟨T7++[(63,aS)],ox⟩)])
def Mi:Shape × List (Out × Shape):=(⟨[(4,cb),(7,fu)],[.var 39 [af,af,.one (.whole jy 2),G8],LX,qD,fD,br,fD,.map cK]⟩,[(.ret,⟨Ck,[.var 39 [af,af,.one (.whole jy 1),LO],qD,fD]⟩),(.exit 0,⟨[(4,cb),(7,fu),(22,aS)],[.var 39 [af,af,.one (.whole jy 2),G8],LX,qD,fD,br,fD,.map cK]⟩)])
abbrev T8:List (Nat × VS):=[(1,cb),(2,fu),(3,qC),(19,cw),(20,af),(21,af)]
def Mj:Shape × List (Out × Shape):=(⟨T8,yK⟩,[(.exit 0,⟨T8++[(22,aS)],yK⟩)])
abbrev T9:List (Nat × VS):=[(2,cb),(6,fu),(9,nz),(10,yG),(94,r0),(95,af),(96,af)]
def Mk:Shape × List (Out × Shape):=(⟨T9,[vV,hZ,vW,LY,br,br,br,br]⟩,[(.ret,⟨[(2,cb)],ox⟩),(.exit 4,⟨T9++[(97,aS)],[vV,hZ,vW,LY,br,br,br,br]⟩)])
abbrev Ua:List (Nat × VS):=[(2,cb),(8,fu),(9,nz),(10,yG),(119,r0),(120,af),(121,af)]
def Ml:Shape × List (Out × Shape):=(⟨Ua,[vV,vW,hZ,hZ,br,br,br]⟩,[(.ret,⟨[(2,cb)],[.var 27 [af,af,yE],br]⟩),(.exit 6,⟨Ua++[(122,aS)],[vV,vW,hZ,hZ,br,br,br]⟩)])
abbrev Ub:List (Nat × VS):=[(2,cb),(6,fu),(9,nz),(10,yG),(143,r0),(144,af),(145,af)]
def Mm:Shape × List (Out × Shape):=(⟨Ub,[vV,hZ,hZ,vW,br,br,br]⟩,[(.ret,⟨[(2,cb)],ox⟩),(.exit 8,⟨Ub++[(146,aS)],[vV,hZ,hZ,vW,br,br,br]⟩)])
abbrev Uc:List (Nat × VS):=[(0,cb),(3,.one (.whole eL 4)),(16,af),(17,af)]
def Mn:Shape × List (Out × Shape):=(⟨Uc,[.var 57 [af,vS,LP,af,vT],.dead,.dead,.map cK,Hf,br,fD]⟩,[(.ret,⟨[(2,af)],Ci⟩),(.exit 0,⟨Uc++[(18,aS)],[.var 57 [af,vS,LP,af,vT],.dead,.dead,.map cK,Hf,br,fD]⟩)])
abbrev Ud:List (Nat × VS):=[(2,.one (.nT 4 0 0)),(3,.one (.nT 5 0 0)),(21,tE),(22,af),(23,af)]
def Mo:Shape × List (Out × Shape):=(⟨Ud,[.var 57 [af,tE,Cg,af,vT],.dead,.dead,.map cK,TR,.var 39 [af,af,.one (.whole jy 10),Cg],br,fD,qD,fD,qD]⟩,[(.exit 0,⟨Ud++[(24,aS)],[.var 57 [af,tE,Cg,af,vT],.dead,.dead,.map cK,TR,.var 39 [af,af,.one (.whole jy 10),Cg],br,fD,qD,fD,qD]⟩)])
abbrev Ue:List (Nat × VS):=[(2,cb),(3,fu),(5,af)]
def Mp:Shape × List (Out × Shape):=(⟨Ue,[hZ,hZ]⟩,[(.ret,⟨Cm,[]⟩),(.exit 1,⟨Ue++[(42,aS)],[hZ,hZ]⟩)])
abbrev Uf:List (Nat × VS):=[(1,af),(2,cb),(6,af),(7,af),(8,af)]
def Mq:Shape × List (Out × Shape):=(⟨Uf,ox⟩,[(.exit 0,⟨Uf++[(20,aS)],ox⟩)])
def Mr:Shape × List (Out × Shape):=(⟨[(0,af),(5,bK),(8,cw),(9,af),(10,af)],bd⟩,[(.exit 0,⟨TT,bd⟩)])
abbrev Ug:List (Nat × VS):=[(0,cw),(3,cb),(5,af)]
def Ms:Shape × List (Out × Shape):=(⟨Ug,ox⟩,[(.exit 0,⟨Ug++[(19,aS)],ox⟩)])
abbrev Uh:List (Nat × VS):=[(19,cw),(20,af),(21,af)]
def Mt:Shape × List (Out × Shape):=(⟨Uh,[]⟩,[(.ret,⟨[(2,aS)],[]⟩),(.exit 1,⟨Uh++[(22,aS)],[]⟩)])
abbrev Ui:List (Nat × VS):=[(1,af),(53,cw),(54,af),(55,af)]
def Mu:Shape × List (Out × Shape):=(⟨Ui,[]⟩,[(.ret,⟨Cl,[]⟩),(.exit 1,⟨Ui++[(56,aS)],[]⟩)])
abbrev Uj:List (Nat × VS):=[(1,cb),(2,fu),(3,qC),(20,cw),(21,af),(22,af)]
def Mv:Shape × List (Out × Shape):=(⟨Uj,yK⟩,[(.exit 0,⟨Uj++[(23,aS)],yK⟩)])
def Mw:Shape × List (Out × Shape):=(⟨[(0,cw),(1,cw),(2,.fn bN [] []),(11,cw),(12,af),(13,af)],[]⟩,[(.ret,⟨[(6,af)],[]⟩),(.exit 0,⟨[(0,cw),(1,cw),(2,.fn bN [] []),(11,cw),(12,af),(13,af),(14,aS)],[]⟩)])
def Mx:Shape × List (Out × Shape):=(⟨[(1,cw),(2,.fn vL [] []),(15,cw),(16,af),(17,af)],[]⟩,[(.ret,⟨[(6,aS)],[]⟩),(.exit 0,⟨[(1,cw),(2,.fn vL [] []),(15,cw),(16,af),(17,af),(18,aS)],[]⟩)])
def My:Shape × List (Out × Shape):=(⟨[(1,vR),(2,.fn vM [] []),(15,vR),(16,af),(17,af)],[]⟩,[(.ret,⟨[(6,aS)],[]⟩),(.exit 0,⟨[(1,vR),(2,.fn vM [] []),(15,vR),(16,af),(17,af),(18,aS)],[]⟩)])
abbrev Uk:List (Nat × VS):=[(0,Ha),(1,Ha),(12,af),(13,af)]
def Mz:Shape × List (Out × Shape):=(⟨Uk,[]⟩,[(.ret,⟨Cl,[]⟩),(.exit 0,⟨Uk++[(14,aS)],[]⟩)])
abbrev Ul:List (Nat × VS):=[(1,af),(4,cb),(5,fu),(28,cw),(29,af),(30,af)]
def MA:Shape × List (Out × Shape):=(⟨Ul,[.var 27 [af,af,qC],LQ,br,br]⟩,[(.exit 1,⟨Ul++[(31,aS)],[.var 27 [af,af,qC],LQ,br,br]⟩)])
def MB:Shape × List (Out × Shape):=(⟨TU,yK⟩,[(.exit 3,⟨TU,yK⟩)])
def MC:Shape × List (Out × Shape):=(⟨[(3,cb),(4,fu),(5,nz),(6,yG),(24,aS)],[hZ,Ch,vW,LY,br,br,br,br]⟩,[(.norm,⟨[(3,cb),(4,fu),(5,nz)],[hZ,.var 79 [af,af,yF,af,af,r0,aS],vV,br,br,br]⟩)])
def MD:Shape × List (Out × Shape):=(⟨[(0,cb),(3,nz),(5,af),(28,aS)],vX⟩,[(.norm,⟨[],pz⟩)])
def ME:Shape × List (Out × Shape):=(⟨[(0,cb),(3,nz),(5,af),(22,aS)],vX⟩,[(.norm,⟨[],pz⟩)])
def MF:Shape × List (Out × Shape):=(⟨[(0,cb),(3,nz),(5,af),(14,aS)],vX⟩,[(.norm,⟨[],pz⟩)])
def MG:Shape × List (Out × Shape):=(⟨[(0,cb),(3,nz),(5,af),(10,aS)],vX⟩,[(.norm,⟨[],pz⟩)])
def MH:Shape × List (Out × Shape):=(⟨[(0,cb),(3,nz),(5,af),(6,aS)],vX⟩,[(.norm,⟨[],pz⟩)])
abbrev Um:List (Nat × VS):=[(1,af),(2,cb),(23,cw),(24,af),(25,af)]
def MI:Shape × List (Out × Shape):=(⟨Um,lO⟩,[(.ret,⟨[(6,aS)],lO⟩),(.exit 0,⟨Um++[(26,aS)],lO⟩)])
abbrev Un:List (Nat × VS):=[(1,cb),(3,aS),(4,aS),(9,cw),(10,af),(11,af)]
def MJ:Shape × List (Out × Shape):=(⟨Un,ox⟩,[(.exit 0,⟨Un++[(12,aS)],ox⟩)])
abbrev Uo:List (Nat × VS):=[(2,cb),(3,fu),(4,nz),(5,yF),(6,r0),(7,af),(21,cw),(22,af),(23,af)]
def MK:Shape × List (Out × Shape):=(⟨Uo,[He,hZ,.var 79 [af,af,vS,af,af,tE,aS],br,br,br,br]⟩,[(.exit 0,⟨Uo++[(24,aS)],[He,hZ,.var 79 [af,af,vS,af,af,tE,aS],br,br,br,br]⟩)])
abbrev Up:List (Nat × VS):=[(2,cb),(4,fu),(5,qC),(6,yF),(7,aS),(20,cw),(21,af),(22,af)]
def ML:Shape × List (Out × Shape):=(⟨Up,[He,Ch,br,br,br,br]⟩,[(.exit 0,⟨Up++[(23,aS)],[He,Ch,br,br,br,br]⟩)])
abbrev Uq:List (Nat × VS):=[(4,cb),(6,yE),(7,aS),(11,qC),(54,yF),(55,af),(56,af)]
def MM:Shape × List (Out × Shape):=(⟨Uq,[Ch,br,br,br,br,br]⟩,[(.exit 2,⟨Uq++[(57,aS)],[Ch,br,br,br,br,br]⟩)])
def MN:Shape × List (Out × Shape):=(⟨[(0,cb),(2,vU),(3,af),(9,nz),(10,cw),(11,af),(12,af),(18,aS)],vX⟩,[(.norm,⟨[(0,cb),(2,vU),(3,af),(9,nz),(10,cw),(11,af),(12,af)],vX⟩)])
abbrev Ur:List (Nat × VS):=[(0,cb),(2,vU),(3,af),(10,cw),(11,af),(12,af)]
def MO:Shape × List (Out × Shape):=(⟨Ur,pz⟩,[(.exit 0,⟨Ur++[(13,aS)],pz⟩)])
def MP:Shape × List (Out × Shape):=(⟨[(0,cw),(1,.fn nw [] []),(7,af),(8,af)],[]⟩,[(.ret,⟨Cm,[]⟩),(.exit 0,⟨[(0,cw),(1,.fn nw [] []),(7,af),(8,af),(9,aS)],[]⟩)])
def MQ:Shape × List (Out × Shape):=(⟨[(0,bK),(1,.fn nu [] []),(5,af),(6,af)],bd⟩,[(.exit 0,⟨[(0,bK),(1,.fn nu [] []),(5,af),(6,af),(19,aS)],bd⟩)])
def MR:Shape × List (Out × Shape):=(⟨[(0,af),(5,bK),(8,cw),(9,af),(10,af)],bd⟩,[(.exit 0,⟨TT,bd⟩)])
def MS:Shape × List (Out × Shape):=(⟨[(0,bK),(1,.fn qB [] []),(5,af),(6,.one (.sub aa 0)),(7,af)],bd⟩,[(.exit 2,⟨[(0,bK),(1,.fn qB [] []),(5,af),(6,.one (.sub aa 0)),(7,af),(35,aS)],bd⟩)])
def MT:Shape × List (Out × Shape):=(⟨[(0,bK),(1,.fn qB [] []),(5,af)],bd⟩,[(.ret,⟨[(4,yE)],yL⟩),(.exit 0,⟨[(0,bK),(1,.fn qB [] []),(5,af),(15,aS)],bd⟩)])
def MU:Shape × List (Out × Shape):=(⟨[(0,bK),(1,af),(2,af),(3,af),(4,.fn bN [] []),(10,aS),(11,aS),(12,af),(39,aS)],bd⟩,[(.norm,⟨[(0,bK),(1,af),(2,af),(3,af),(4,.fn bN [] []),(10,aS),(11,aS),(12,af)],bd⟩)])
def MV:Shape × List (Out × Shape):=(⟨[(0,bK),(1,af),(2,af),(3,af),(4,.fn bN [] []),(10,aS),(11,aS),(12,af),(13,af),(14,af),(56,aS)],bd⟩,[(.norm,⟨[(0,bK),(1,af),(2,af),(3,af),(4,.fn bN [] []),(10,aS),(11,aS),(12,af),(13,af),(14,af)],bd⟩)])
def MW:Shape × List (Out × Shape):=(⟨[(0,bK),(1,af),(2,af),(3,af),(4,.fn bN [] []),(10,aS),(11,aS),(12,af),(13,af),(75,aS)],bd⟩,[(.ret,⟨[(0,bK),(1,af),(2,af),(3,af),(4,.fn bN [] []),(10,aS),(11,aS),(12,af),(13,af),(80,aS)],bd⟩),(.norm,⟨[(0,bK),(1,af),(2,af),(3,af),(4,.fn bN [] []),(10,aS),(11,aS),(12,af),(13,af)],bd⟩)])
def MX:Shape × List (Out × Shape):=(⟨[(0,bK),(1,af),(2,af),(3,af),(4,.fn bN [] []),(10,aS),(11,aS)],bd⟩,[(.ret,⟨[],bd⟩)])
def MY:Shape × List (Out × Shape):=(⟨[(0,bK),(1,af),(2,af),(3,.fn bN [] []),(8,af),(9,af)],bd⟩,[(.exit 2,⟨[(0,bK),(1,af),(2,af),(3,.fn bN [] []),(8,af),(9,af),(34,aS)],bd⟩)])
def MZ:Shape × List (Out × Shape):=(⟨[(0,bK),(1,af),(2,af),(3,.fn bN [] []),(8,af)],bd⟩,[(.exit 0,⟨[(0,bK),(1,af),(2,af),(3,.fn bN [] []),(8,af),(14,aS)],bd⟩)])
def M0:Shape × List (Out × Shape):=(⟨[(0,bK),(3,.fn bN [] []),(8,af),(9,af),(10,af),(11,af)],bd⟩,[(.exit 0,⟨[(0,bK),(3,.fn bN [] []),(8,af),(9,af),(10,af),(11,af),(21,aS)],bd⟩)])
def M1:Shape × List (Out × Shape):=(⟨[(0,bK),(3,.fn bN [] []),(8,af),(9,af),(12,af)],bd⟩,[(.exit 2,⟨[(0,bK),(3,.fn bN [] []),(8,af),(9,af),(12,af),(33,aS)],bd⟩)])
def M3:Shape × List (Out × Shape):=(⟨[(0,bK),(1,af),(8,af),(9,fu),(10,ow),(11,af),(12,af),(45,aS)],Hg⟩,[(.norm,⟨[(0,bK),(1,af),(8,af),(9,fu),(10,ow),(11,af),(12,af)],Hg⟩)])
abbrev Us:List (Nat × VS):=[(0,bK),(1,af),(8,af),(9,fu),(10,ow),(11,af)]
def M4:Shape × List (Out × Shape):=(⟨Us,Hg⟩,[(.exit 0,⟨Us++[(35,aS)],Hg⟩)])
def M5:Shape × List (Out × Shape):=(⟨[(0,cw),(3,.fn bN [] []),(11,cb),(12,af),(13,af),(14,af),(36,aS)],lO⟩,[(.norm,⟨[(0,cw),(3,.fn bN [] []),(11,cb),(12,af),(13,af),(14,af)],lO⟩)])
def M6:Shape × List (Out × Shape):=(⟨[(0,cw),(3,.fn bN [] []),(10,af),(11,cb),(12,af),(13,af),(14,af),(34,aS)],lO⟩,[(.norm,⟨[(11,cb),(13,af)],lO⟩)])
abbrev Ut:List (Nat × VS):=[(0,bK),(8,af),(9,af)]
def M7:Shape × List (Out × Shape):=(⟨Ut,bd⟩,[(.exit 0,⟨Ut++[(15,aS)],bd⟩)])
def M8:Shape × List (Out × Shape):=(⟨[(0,bK),(1,af),(2,af),(3,.fn bN [] []),(9,af),(10,af)],bd⟩,[(.exit 2,⟨[(0,bK),(1,af),(2,af),(3,.fn bN [] []),(9,af),(10,af),(36,aS)],bd⟩)])
def M9:Shape × List (Out × Shape):=(⟨[(0,bK),(1,af),(2,af),(3,.fn bN [] []),(9,af),(10,af),(11,af)],bd⟩,[(.exit 4,⟨[(0,bK),(1,af),(2,af),(3,.fn bN [] []),(9,af),(10,af),(11,af)],bd⟩)])
def Na:Shape × List (Out × Shape):=(⟨[(0,bK),(1,af),(2,af),(3,.fn bN [] []),(9,af),(10,af),(65,aS)],bd⟩,[(.norm,⟨[(0,bK),(1,af),(2,af),(3,.fn bN [] []),(9,af),(10,af)],bd⟩)])
def Nb:Shape × List (Out × Shape):=(⟨[(0,bK),(1,af),(2,af),(3,.fn bN [] []),(9,af),(10,af),(12,af)],bd⟩,[(.exit 6,⟨[(0,bK),(1,af),(2,af),(3,.fn bN [] []),(9,af),(10,af),(12,af)],bd⟩)])
def Nc:Shape × List (Out × Shape):=(⟨[(0,bK),(1,af),(2,af),(3,.fn bN [] []),(9,af),(10,af)],bd⟩,[(.ret,⟨[(8,aS)],bd⟩),(.exit 0,⟨[(0,bK),(1,af),(2,af),(3,.fn bN [] []),(9,af),(10,af),(16,aS)],bd⟩)])
def Nd:Shape × List (Out × Shape):=(⟨[(0,bK),(1,af),(4,.fn bN [] []),(11,af),(12,af)],bd⟩,[(.exit 2,⟨[(0,bK),(1,af),(4,.fn bN [] []),(11,af),(12,af),(47,aS)],bd⟩)])
def Nf:Shape × List (Out × Shape):=(⟨[(0,bK),(1,af),(4,.fn bN [] []),(11,af),(12,af)],bd⟩,[(.exit 4,⟨[(0,bK),(1,af),(4,.fn bN [] []),(11,af),(12,af),(65,aS)],bd⟩)])
def Ng:Shape × List (Out × Shape):=(⟨[(0,bK),(1,af),(4,.fn bN [] []),(11,af),(12,af)],bd⟩,[(.exit 0,⟨[(0,bK),(1,af),(4,.fn bN [] []),(11,af),(12,af),(70,aS)],bd⟩)])
def Nh:Shape × List (Out × Shape):=(⟨[(0,bK),(1,af),(4,.fn bN [] []),(12,af),(13,af)],bd⟩,[(.exit 0,⟨[(0,bK),(1,af),(4,.fn bN [] []),(12,af),(13,af),(47,aS)],bd⟩)])
def Ni:Shape × List (Out × Shape):=(⟨[(0,bK),(1,af),(4,.fn bN [] []),(12,af),(13,af)],bd⟩,[(.exit 2,⟨[(0,bK),(1,af),(4,.fn bN [] []),(12,af),(13,af),(66,aS)],bd⟩)])
def Nj:Shape × List (Out × Shape):=(⟨[(0,bK),(1,af),(4,.fn bN [] []),(12,af),(13,af)],bd⟩,[(.exit 6,⟨[(0,bK),(1,af),(4,.fn bN [] []),(12,af),(13,af),(120,aS)],bd⟩)])
def Nk:Shape × List (Out × Shape):=(⟨[(0,bK),(1,af),(4,.fn bN [] []),(12,af),(13,af)],bd⟩,[(.exit 8,⟨[(0,bK),(1,af),(4,.fn bN [] []),(12,af),(13,af),(139,aS)],bd⟩)])
def Nl:Shape × List (Out × Shape):=(⟨[(0,bK),(1,af),(4,.fn bN [] []),(12,af),(13,af)],bd⟩,[(.exit 4,⟨[(0,bK),(1,af),(4,.fn bN [] []),(12,af),(13,af),(144,aS)],bd⟩)])
def Nn:Shape × List (Out × Shape):=(⟨[(0,ow),(2,af),(4,aS)],[]⟩,[(.norm,⟨[(0,ow),(2,af)],[]⟩)])
def No:Shape × List (Out × Shape):=(⟨[(0,ow),(2,af),(8,aS)],[]⟩,[(.norm,⟨[(0,ow),(2,af)],[]⟩)])
def Np:Shape × List (Out × Shape):=(⟨[(0,bK),(2,af),(3,af),(4,.fn bN [] []),(10,af),(11,af),(40,aS)],bd⟩,[(.norm,⟨[(0,bK),(2,af),(3,af),(4,.fn bN [] []),(10,af),(11,af)],bd⟩)])
def Nq:Shape × List (Out × Shape):=(⟨[(0,bK),(2,af),(3,af),(4,.fn bN [] []),(10,af)],bd⟩,[(.exit 0,⟨[(0,bK),(2,af),(3,af),(4,.fn bN [] []),(10,af),(11,af),(18,aS)],bd⟩),(.ret,⟨[(0,bK),(2,af),(3,af),(4,.fn bN [] []),(10,af),(11,af),(58,aS)],bd⟩)])
def Nr:Shape × List (Out × Shape):=(⟨[(0,cw),(1,.fn nu [] []),(7,af),(8,af)],[]⟩,[(.ret,⟨Cm,[]⟩),(.exit 0,⟨[(0,cw),(1,.fn nu [] []),(7,af),(8,af),(9,aS)],[]⟩)])
def Ns:Shape × List (Out × Shape):=(⟨[(0,bK),(1,.fn pw [] []),(5,af),(6,af)],bd⟩,[(.exit 0,⟨[(0,bK),(1,.fn pw [] []),(5,af),(6,af),(19,aS)],bd⟩)])
def Nt:Shape × List (Out × Shape):=(⟨[(0,cw),(1,.fn pw [] []),(7,af),(8,af)],[]⟩,[(.ret,⟨Cm,[]⟩),(.exit 0,⟨[(0,cw),(1,.fn pw [] []),(7,af),(8,af),(9,aS)],[]⟩)])
def Nu:Shape × List (Out × Shape):=(⟨[(0,bK),(1,.fn nw [] []),(5,af),(6,af)],bd⟩,[(.exit 0,⟨[(0,bK),(1,.fn nw [] []),(5,af),(6,af),(19,aS)],bd⟩)])
def Nw:Shape × List (Out × Shape):=(⟨[(0,cw),(1,.fn k9 [] []),(7,af),(8,af)],[]⟩,[(.ret,⟨Cm,[]⟩),(.exit 0,⟨[(0,cw),(1,.fn k9 [] []),(7,af),(8,af),(9,aS)],[]⟩)])
def acq:List (Nat × FuncId):=[(3,Lw),
 (4,rX),
 (5,qx),
 (6,vF),
 (7,qy),
 (8,fc),
 (9,tt),
 (10,vG),
 (11,tu),
 (12,tv),
 (13,tw),
 (14,pq),
 (15,BX),
 (16,GD),
 (17,GF),
 (18,GG),
 (19,GH),
 (20,BY),
 (21,yo),
 (22,GI),
 (23,GJ),
 (24,vH),
 (25,tx),
 (26,tz),
 (27,BZ),
 (28,vI),
 (29,B0),
 (30,bN),
 (31,B1),
 (32,B4),
 (33,GK),
 (34,rY),
 (35,vJ),
 (36,yp),
 (37,yq),
 (38,B5),
 (39,GL),
 (40,yr),
 (41,B6),
 (42,k9),
 (43,GM),
 (44,yu),
 (45,B7),
 (46,vK),
 (47,yv),
 (48,GN),
 (49,vL),
 (50,GO),
 (51,GP),
 (52,vM),
 (53,pr),
 (54,yw),
 (55,GQ),
 (56,pt),
 (57,tA),
 (58,GR),
 (59,tB),
 (60,yx),
 (61,la),
 (62,B8),
 (63,vN),
 (64,B9),
 (65,yz),
 (66,yA),
 (67,qz),
 (68,tC),
 (69,rZ),
 (70,GS),
 (71,GU),
 (72,GV),
 (73,vO),
 (74,nu),
 (75,Cc),
 (77,GW),
 (78,GX),
 (79,tD),
 (80,yB),
 (81,yC),
 (82,nw),
 (83,ny),
 (84,vP),
 (85,qA),
 (86,pw),
 (88,yD),
 (89,GY),
 (90,qB),
 (91,Lx),
 (92,Ce),
 (93,Ly),
 (94,LA),
 (95,LB),
 (96,LC),
 (97,LD),
 (98,LF),
 (99,LG),
 (100,LH),
 (102,GZ),
 (103,LI),
 (104,G0),
 (105,G1),
 (106,LJ),
 (107,LL),
 (108,LM),
 (126,tB),
 (127,rZ),
 (128,yB),
 (129,rZ),
 (130,yB),
 (132,tB),
 (133,rZ)]
def acr:List (Nat × Shape):=[(3,⟨[(0,yH),(1,py),(2,.one (.int .u8)),(3,af),(4,af),(5,af)],[]⟩),
 (4,⟨Cn,[]⟩),
 (5,⟨Cn,[]⟩),
 (6,⟨lP,[]⟩),
 (7,⟨lP,[]⟩),
 (8,⟨[],[]⟩),
 (9,⟨lP,[]⟩),
 (10,⟨L3,[]⟩),
 (11,⟨L3,[]⟩),
 (12,⟨Cn,[]⟩),
 (13,⟨Cn,[]⟩),
 (14,⟨Cn,[]⟩),
 (15,⟨L3,[]⟩),
 (16,⟨[(0,yH),(1,yH)],[]⟩),
 (17,⟨fR,[]⟩),
 (18,⟨fR,[]⟩),
 (19,⟨fS,[]⟩),
 (20,⟨fR,[]⟩),
 (21,⟨lP,[]⟩),
 (22,⟨lP,[]⟩),
 (23,⟨[],[]⟩),
 (24,⟨fR,[]⟩),
 (25,⟨yM,vY⟩),
 (26,⟨yM,vY⟩),
 (27,⟨yM,vY⟩),
 (28,⟨lP,[]⟩),
 (29,⟨fR,[]⟩),
 (30,⟨Hh,[]⟩),
 (31,⟨lP,[]⟩),
 (32,⟨[(0,cb),(1,yH)],vY⟩),
 (33,⟨lP,[]⟩),
 (34,⟨Hh,[]⟩),
 (35,⟨lP,[]⟩),
 (36,⟨fR,[]⟩),
 (37,⟨Hi,[]⟩),
 (38,⟨[(0,cw),(1,py)],[]⟩),
 (39,⟨lP,[]⟩),
 (40,⟨fR,[]⟩),
 (41,⟨[(0,cb),(1,py)],vY⟩),
 (42,⟨fR,[]⟩),
 (43,⟨fR,[]⟩),
 (44,⟨lP,[]⟩),
 (45,⟨fR,[]⟩),
 (46,⟨fR,[]⟩),
 (47,⟨Hj,[]⟩),
 (48,⟨[(0,cw),(1,cw),(2,.fn bN [] [])],[]⟩),
 (49,⟨Hh,[]⟩),
 (50,⟨[(0,cw),(1,cw),(2,.fn vL [] [])],[]⟩),
 (51,⟨[(0,vR),(1,vR),(2,.fn vM [] [])],[]⟩),
 (52,⟨[(0,Ha),(1,Ha)],[]⟩),
 (53,⟨lP,[]⟩),
 (54,⟨eE,[]⟩),
 (55,⟨[(0,Hb)],[]⟩),
 (56,⟨Hk,[]⟩),
 (57,⟨[(0,cb),(1,py)],Cj⟩),
 (58,⟨yM,Cj⟩),
 (59,⟨[(0,cw),(1,.fn nw [] [])],[]⟩),
 (60,⟨[(0,py),(1,af),(2,cb)],lO⟩),
 (61,⟨Hi,[]⟩),
 (62,⟨fS,[]⟩),
 (63,⟨Hi,[]⟩),
 (64,⟨fR,[]⟩),
 (65,⟨Hk,[]⟩),
 (66,⟨Hk,[]⟩),
 (67,⟨[(0,cb),(1,.one (.int .u8))],Cj⟩),
 (68,⟨[(0,cb),(1,cw),(2,vU),(3,af)],Cj⟩),
 (69,⟨[(0,cw),(1,.fn nw [] [])],[]⟩),
 (70,⟨[(0,cw)],[]⟩),
 (71,⟨[(0,cw)],[]⟩),
 (72,⟨[(0,cw)],[]⟩),
 (73,⟨[],[]⟩),
 (74,⟨fR,[]⟩),
 (75,⟨Hk,[]⟩),
 (77,⟨[(0,cb),(1,vU)],Cj⟩),
 (78,⟨fS,[]⟩),
 (79,⟨[],[]⟩),
 (80,⟨[(0,bK),(1,.fn nu [] [])],bd⟩),
 (81,⟨Hi,[]⟩),
 (82,⟨fR,[]⟩),
 (83,⟨[(0,af),(1,cw),(2,py)],[]⟩),
 (84,⟨tG,bd⟩),
 (85,⟨[],[]⟩),
 (86,⟨fR,[]⟩),
 (88,⟨[(0,bK),(1,.fn bN [] [])],bd⟩),
 (89,⟨[(0,bK),(1,.fn qB [] [])],bd⟩),
 (90,⟨Hh,[]⟩),
 (91,⟨[(0,bK),(1,af),(2,af),(3,af),(4,.fn bN [] [])],bd⟩),
 (92,⟨[(0,ow)],[]⟩),
 (93,⟨[(0,bK),(1,af),(2,af),(3,.fn bN [] [])],bd⟩),
 (94,⟨[(0,bK),(1,af),(2,af),(3,.fn bN [] [])],bd⟩),
 (95,⟨[(0,bK),(1,af),(2,af),(3,.fn bN [] [])],bd⟩),
 (96,⟨[(0,cw),(1,af),(2,af),(3,.fn bN [] [])],[]⟩),
 (97,⟨[(0,bK),(1,af),(2,af),(3,.fn bN [] [])],bd⟩),
 (98,⟨[(0,bK),(1,af),(2,af),(3,.fn bN [] [])],bd⟩),
 (99,⟨[(0,bK),(1,af),(2,af),(3,af),(4,.fn bN [] [])],bd⟩),
 (100,⟨[(0,bK),(1,af),(2,af),(3,af),(4,.fn bN [] [])],bd⟩),
 (102,⟨[(0,ow)],[]⟩),
 (103,⟨[(0,bK),(1,af),(2,af),(3,af),(4,.fn bN [] [])],bd⟩),
 (104,⟨fS,[]⟩),
 (105,⟨yM,[LR]⟩),
 (106,⟨[(0,cw),(1,af),(2,cb),(3,.fn bN [] [])],lO⟩),
 (107,⟨[(0,cw),(1,af),(2,af),(3,af),(4,cb),(5,.fn bN [] [])],lO⟩),
 (108,⟨[(0,cw),(1,af),(2,af),(3,cb),(4,.fn bN [] [])],lO⟩),
 (126,⟨[(0,cw),(1,.fn nu [] [])],[]⟩),
 (127,⟨[(0,cw),(1,.fn nu [] [])],[]⟩),
 (128,⟨[(0,bK),(1,.fn pw [] [])],bd⟩),
 (129,⟨[(0,cw),(1,.fn pw [] [])],[]⟩),
 (130,⟨[(0,bK),(1,.fn nw [] [])],bd⟩),
 (132,⟨[(0,cw),(1,.fn k9 [] [])],[]⟩),
 (133,⟨[(0,cw),(1,.fn k9 [] [])],[]⟩)]
def acs:List (Nat × Shape):=[(3,⟨eE,[]⟩),
 (4,⟨fS,[]⟩),
 (5,⟨fS,[]⟩),
 (6,⟨eE,[]⟩),
 (7,⟨fS,[]⟩),
 (8,⟨eE,[]⟩),
 (9,⟨Hl,[br,fD]⟩),
 (10,⟨Hl,[br,tF]⟩),
 (11,⟨Hl,[br,fD]⟩),
 (12,⟨[(0,TO),(1,af)],[qD,fD]⟩),
 (13,⟨eE,[]⟩),
 (14,⟨[(0,cb),(1,aS)],vY⟩),
 (15,⟨Hl,[br,tF]⟩),
 (16,⟨eE,[]⟩),
 (17,⟨eE,[]⟩),
 (18,⟨fS,[]⟩),
 (19,⟨eE,[]⟩),
 (20,⟨eE,[]⟩),
 (21,⟨eE,[]⟩),
 (22,⟨[(0,TO),(1,af)],[qD,fD]⟩),
 (23,⟨[(0,Hc)],bd⟩),
 (24,⟨fR,[]⟩),
 (25,⟨eE,Ci⟩),
 (26,⟨fS,Ci⟩),
 (27,⟨[(0,.agg [.int .i64,.int .i64,.whole jy 4,.whole aI 5])],[.var 57 [af,tE,G7,af,vT],.dead,.dead,.map cK,qD,fD,br]⟩),
 (28,⟨fS,[]⟩),
 (29,⟨fR,[]⟩),
 (30,⟨fS,[]⟩),
 (31,⟨yM,vY⟩),
 (32,⟨eE,Ci⟩),
 (33,⟨lP,[]⟩),
 (34,⟨fS,[]⟩),
 (35,⟨Hj,[]⟩),
 (36,⟨eE,[]⟩),
 (37,⟨tG,bd⟩),
 (38,⟨[(0,cw)],[]⟩),
 (39,⟨lP,[]⟩),
 (40,⟨[(0,vU)],[]⟩),
 (41,⟨fS,Ci⟩),
 (42,⟨eE,[]⟩),
 (43,⟨eE,[]⟩),
 (44,⟨eE,[]⟩),
 (45,⟨eE,[]⟩),
 (46,⟨fR,[]⟩),
 (47,⟨fS,[]⟩),
 (48,⟨fS,[]⟩),
 (49,⟨eE,[]⟩),
 (50,⟨eE,[]⟩),
 (51,⟨eE,[]⟩),
 (52,⟨eE,[]⟩),
 (53,⟨fR,[]⟩),
 (54,⟨fS,[]⟩),
 (55,⟨lP,[]⟩),
 (56,⟨[(0,Hb)],[]⟩),
 (57,⟨[],pz⟩),
 (58,⟨[(0,vU)],[.var 86 [vQ,vQ],.dead]⟩),
 (59,⟨eE,[]⟩),
 (60,⟨eE,lO⟩),
 (61,⟨fR,[]⟩),
 (62,⟨eE,[]⟩),
 (63,⟨fR,[]⟩),
 (64,⟨eE,[]⟩),
 (65,⟨[(0,Hb)],[]⟩),
 (66,⟨[(0,Hb)],[]⟩),
 (67,⟨[(0,vQ)],pz⟩),
 (68,⟨[],pz⟩),
 (69,⟨fS,[]⟩),
 (70,⟨fR,[]⟩),
 (71,⟨fR,[]⟩),
 (72,⟨fR,[]⟩),
 (73,⟨[(0,Hc)],bd⟩),
 (74,⟨eE,[]⟩),
 (75,⟨fR,[]⟩),
 (77,⟨[(0,af),(1,vQ)],pz⟩),
 (78,⟨fS,[]⟩),
 (79,⟨[(0,Hc)],bd⟩),
 (80,⟨Co,yL⟩),
 (81,⟨tG,bd⟩),
 (82,⟨eE,[]⟩),
 (83,⟨fR,[]⟩),
 (84,⟨Co,yL⟩),
 (85,⟨[(0,Hc)],bd⟩),
 (86,⟨eE,[]⟩),
 (88,⟨[],bd⟩),
 (89,⟨Co,yL⟩),
 (90,⟨eE,[]⟩),
 (91,⟨[],bd⟩),
 (92,⟨fS,[]⟩),
 (93,⟨[],bd⟩),
 (94,⟨[],bd⟩),
 (95,⟨[],bd⟩),
 (96,⟨Hj,[]⟩),
 (97,⟨[],bd⟩),
 (98,⟨eE,bd⟩),
 (99,⟨fS,bd⟩),
 (100,⟨[(0,af),(1,aS)],bd⟩),
 (102,⟨fS,[]⟩),
 (103,⟨[],bd⟩),
 (104,⟨[(0,ow)],[]⟩),
 (105,⟨[(0,ow)],[LR]⟩),
 (106,⟨fS,lO⟩),
 (107,⟨fS,lO⟩),
 (108,⟨Hj,lO⟩),
 (126,⟨eE,[]⟩),
 (127,⟨fS,[]⟩),
 (128,⟨Co,yL⟩),
 (129,⟨fS,[]⟩),
 (130,⟨Co,yL⟩),
 (132,⟨eE,[]⟩),
 (133,⟨fS,[]⟩)]
def acu:List (Nat × Shape):=[(14,⟨[(0,.one (.dH)),(1,.one (.xj false))],[]⟩),
 (80,⟨tG,bd⟩),
 (84,⟨tG,bd⟩),
 (89,⟨tG,bd⟩),
 (128,⟨tG,bd⟩),
 (130,⟨tG,bd⟩)]
def acv:List (Nat × List (Nat × List Nat)):=[(3,[(0,[2,3,4,5,6,7]),(1,[2,3,4,5,7,35]),(2,[12]),(3,[2,3,4,5,7,43]),(4,[12]),(5,[2,3,4,5,13,14]),(6,[2,3,4,5,13,51]),(7,[12]),(8,[3,4,5,13,14]),(9,[3,4,5,13,67]),(10,[12]),(11,[4,5,13,70]),(12,[4,13,79]),(13,[13]),(14,[4,5,13,70,88]),(15,[13]),(16,[4,5,13,70,92]),(17,[13]),(18,[4,5,13,96]),(19,[4,5,13,106]),(20,[13]),(21,[13,15]),(22,[13,15,17]),(23,[13,15,17,19]),(24,[12])]),
 (4,[(0,[1]),(1,[4]),(2,[11]),(3,[2]),(4,[2])]),
 (5,[(0,[1]),(1,[1,35]),(2,[2]),(3,[1,3,4]),(4,[1,3,47]),(5,[2]),(6,[1,3,4]),(7,[62]),(8,[2]),(9,[2])]),
 (6,[(0,[1,2]),(1,[4])]),
 (7,[(0,[1,2]),(1,[1,2,5]),(2,[4]),(3,[1,2,9]),(4,[4]),(5,[13]),(6,[4]),(7,[4])]),
 (8,[(0,[]),(1,[1,2]),(2,[0])]),
 (9,[(0,[1,2,4]),(1,[1,2,4,6]),(2,[1,2,4,6,11]),(3,[4,5]),(4,[4,5])]),
 (10,[(0,[1,2,4]),(1,[1,2,4,6]),(2,[1,2,4,6,10]),(3,[4,5]),(4,[1,2,4,14]),(5,[4,5]),(6,[4,5])]),
 (11,[(0,[1,2,4]),(1,[1,4,6,7]),(2,[1,4,6,15]),(3,[4,5]),(4,[1,4,6,18]),(5,[4,5]),(6,[1,4,6,26]),(7,[1,4,6]),(8,[1,4,6,8]),(9,[1,4,6,8,32]),(10,[4,5]),(11,[4,5])]),
 (12,[(0,[1,2]),(1,[2,4,5]),(2,[2,4,12]),(3,[2,3]),(4,[2,4,16]),(5,[2,3]),(6,[2,3])]),
 (13,[(0,[1]),(1,[3,4]),(2,[2])]),
 (14,[(0,[1]),(1,[1,25]),(2,[2,3]),(3,[1,4]),(4,[1,4,37]),(5,[2,3]),(6,[1,5]),(7,[1,5,49]),(8,[1,5,56]),(9,[2,3]),(10,[2,3])]),
 (15,[(0,[1,2,4]),(1,[1,4,6]),(2,[1,4,6,35]),(3,[1,4,6]),(4,[1,4,6,7]),(5,[1,4,6,7,8]),(6,[1,4,6,7,8,41]),(7,[1,4,6,7,8]),(8,[1,4,6,7,8,9,10]),(9,[1,4,6,7,8,9,10,56]),(10,[4,5]),(11,[1,4,6,7,8,9,11]),(12,[1,4,6,7,8,9,11,61,62]),(13,[1,4,6,7,8,9,11,61,62,63]),(14,[1,4,6,7,8,9,11,12,61,62]),(15,[1,4,6,7,8,9,11,12,61,62,72]),(16,[1,4,6,7,8,9,11,61,62]),(17,[1,4,6,7,8,9,11,61,62]),(18,[1,4,6,7,8,9,11,76]),(19,[1,4,6,7,8,9,80]),(20,[4,5]),(21,[1,4,6,7,8,9,11]),(22,[1,4,6,7,8,11]),(23,[1,4,6,7,8]),(24,[1,4,6]),(25,[1,4,6]),(26,[4,5])]),
 (16,[(0,[2,3]),(1,[2,3,37]),(2,[4]),(3,[2,3,40,41]),(4,[2,3,40,41,42]),(5,[2,3,5,40,41]),(6,[2,3,40,41,55]),(7,[4]),(8,[2,3,40,41]),(9,[2,3,59,60]),(10,[2,3,59,60,61]),(11,[2,3,6,59,60]),(12,[2,3,6,59,60,75]),(13,[4]),(14,[2,3,6,59,60,81,82]),(15,[2,3,6,59,60,81,82,83]),(16,[2,3,6,7,59,60,81,82]),(17,[2,3,6,59,60,81,82,101]),(18,[4]),(19,[2,3,6,59,60,81,82]),(20,[2,3,59,60]),(21,[4])]),
 (17,[(0,[1]),(1,[2])]),
 (18,[(0,[1]),(1,[3]),(2,[2])]),
 (19,[(0,[0]),(1,[2])]),
 (20,[(0,[1]),(1,[3,4]),(2,[2])]),
 (21,[(0,[1,2]),(1,[1,2,5]),(2,[1,2,5,6]),(3,[1,2,5,6,20]),(4,[1,2,5,6]),(5,[1,2,5,6,20,26]),(6,[1,2,5,6,20,26]),(7,[1,2,5,6,20,26]),(8,[1,2,5,6]),(9,[1,2,5,6,20,32]),(10,[1,2,5,6,32]),(11,[1,2,5,6]),(12,[1,2,5,6,39]),(13,[1,2,5,6]),(14,[1,2,5,6]),(15,[1,2,5,6,7]),(16,[1,2,5,6,7,63]),(17,[1,2,5,6,7]),(18,[1,2,5,6,7]),(19,[4])]),
 (22,[(0,[1,2,4]),(1,[1,2,4,6]),(2,[1,2,4,6,13]),(3,[4,5]),(4,[4,7]),(5,[4,7,22]),(6,[4,7,8]),(7,[4,7,8,26]),(8,[4,5]),(9,[4,5])]),
 (23,[(0,[0]),(1,[0,1,2]),(2,[0])]),
 (24,[(0,[1,2]),(1,[1,2,3]),(2,[1,2,3,19,20,21]),(3,[1,2,3,19,20,21,22]),(4,[1,2,3,5,19,20,21]),(5,[1,2,3,19,20,21]),(6,[1,2,3,19,20,21]),(7,[1,2,3,6,7]),(8,[1,2,3,6,7,8]),(9,[1,2,3,6,7,8,9]),(10,[1,2,3,6,7,8,9,10]),(11,[1,2,3,6,7,8,9,10,43]),(12,[2]),(13,[1,2,3,6,7,8,9,10,43,45]),(14,[2,3,9,51]),(15,[2]),(16,[2,9]),(17,[2]),(18,[1,2,3,6,7,8,9,10,43,61]),(19,[2,3,7,9,11]),(20,[2,3,7,9,11,66]),(21,[2]),(22,[2,3,9,11,76]),(23,[2]),(24,[2,9]),(25,[2]),(26,[1,2,3,6,7,8,9,10,43,88]),(27,[1,2,3,6,9,10]),(28,[2,6,9,10,94,95,96]),(29,[2,6,9,10,94,95,96,97]),(30,[2,6,9,10,13,94,95,96]),(31,[2,6,9,10,13,94,95,96,102]),(32,[2]),(33,[2,6,9,10,13,94,95,96,106]),(34,[2,6,9,10,94,95,96]),(35,[2,6,9,10,94,95,96]),(36,[1,2,3,6,8,9,10,43,114]),(37,[2,8,9,10,119,120,121]),(38,[2,8,9,10,119,120,121,122]),(39,[2,8,9,10,15,119,120,121]),(40,[2,8,9,10,15,119,120,121,126]),(41,[2]),(42,[2,8,9,10,15,119,120,121,130]),(43,[2,8,9,10,119,120,121]),(44,[2,8,9,10,119,120,121]),(45,[1,2,3,6,8,9,10,137]),(46,[1,2,3,6,9,10]),(47,[2,6,9,10,143,144,145]),(48,[2,6,9,10,143,144,145,146]),(49,[2,6,9,10,17,143,144,145]),(50,[2,6,9,10,17,143,144,145,151]),(51,[2]),(52,[2,6,9,10,17,143,144,145,155]),(53,[2,6,9,10,143,144,145]),(54,[2,6,9,10,143,144,145]),(55,[2,9,10,164]),(56,[2,9,10,164,165]),(57,[2]),(58,[2,9,168]),(59,[2]),(60,[2])]),
 (25,[(0,[0]),(1,[2])]),
 (26,[(0,[0]),(1,[0,3]),(2,[0,3,16,17]),(3,[0,3,16,17,18]),(4,[0,3,4,16,17]),(5,[0,3,4,5,6,16,17]),(6,[0,3,4,5,6,16,17,38]),(7,[2]),(8,[0,3,4,5,7,8,16,17]),(9,[0,3,4,5,7,16,17,51]),(10,[0,3,4,5,16,17,58]),(11,[2]),(12,[0,3,4,7,16,17]),(13,[0,3,16,17]),(14,[0,3,16,17]),(15,[0]),(16,[]),(17,[2])]),
 (27,[(0,[0,2]),(1,[0,2,3]),(2,[2,3,21,22,23]),(3,[2,3,21,22,23,24]),(4,[2,3,5,21,22,23]),(5,[2,3,21,22,23]),(6,[2,3,21,22,23]),(7,[2])]),
 (28,[(0,[1,2]),(1,[1,2,10]),(2,[4]),(3,[1,2,13]),(4,[4]),(5,[17]),(6,[4]),(7,[4])]),
 (29,[(0,[1,2]),(1,[1,2,5]),(2,[2]),(3,[2])]),
 (30,[(0,[2,3]),(1,[2,3,9]),(2,[4]),(3,[2,3,19]),(4,[4]),(5,[4])]),
 (31,[(0,[1,2]),(1,[1,2,5]),(2,[2,5]),(3,[5]),(4,[4])]),
 (32,[(0,[0,3]),(1,[0,3,5]),(2,[4])]),
 (33,[(0,[1,2,4]),(1,[1,2,4,6]),(2,[1,2,4,6,11]),(3,[4,5]),(4,[1,2,4,19]),(5,[4,5]),(6,[4,7]),(7,[4,7,27]),(8,[4,5]),(9,[4,5])]),
 (34,[(0,[2,3]),(1,[2,3,7]),(2,[4]),(3,[2,3,19]),(4,[4]),(5,[2,3,5]),(6,[2,3,5,42]),(7,[2,3,5]),(8,[2,3,5,6]),(9,[2,3,5,6,57]),(10,[4]),(11,[2,3,65]),(12,[4]),(13,[4])]),
 (35,[(0,[1,2]),(1,[1,2,6,7]),(2,[1,2,6,7,8]),(3,[1,2,6,7,8,20]),(4,[1,2,6,7,8]),(5,[1,2,6,7,8,9,10]),(6,[1,2,6,7,8]),(7,[4,5])]),
 (36,[(0,[1]),(1,[2])]),
 (37,[(0,[0,1]),(1,[0,1,5]),(2,[0,5,8,9,10]),(3,[0,5,8,9,10,11]),(4,[0,5,7,8,9,10]),(5,[0,5,7,8,9,10,17]),(6,[0,5,8,9,10]),(7,[0,5,8,9,10]),(8,[0,5,8,9,10]),(9,[4])]),
 (38,[(0,[0,3]),(1,[0,3,5]),(2,[0,3,5,19]),(3,[0,3,5]),(4,[0,3,5,33]),(5,[4]),(6,[4])]),
 (39,[(0,[1,2,4]),(1,[4,5])]),
 (40,[(0,[1]),(1,[1,6]),(2,[2]),(3,[1,3]),(4,[3]),(5,[2])]),
 (41,[(0,[0,3]),(1,[0,3,5]),(2,[0,3,5]),(3,[5]),(4,[4])]),
 (42,[(0,[1]),(1,[1,6]),(2,[1,6,7]),(3,[1,6,7]),(4,[2]),(5,[1,6,10]),(6,[2]),(7,[1,6,15]),(8,[1,6,15]),(9,[19,20,21]),(10,[19,20,21,22]),(11,[4,19,20,21]),(12,[19,20,21,27]),(13,[2]),(14,[19,20,21]),(15,[2]),(16,[1,29]),(17,[2]),(18,[2])]),
 (43,[(0,[1]),(1,[1,3]),(2,[2])]),
 (44,[(0,[1,2]),(1,[1,2,9]),(2,[4]),(3,[1,2,27]),(4,[4]),(5,[1,2,29]),(6,[4]),(7,[1,2,29,30]),(8,[1,2,29,30]),(9,[4]),(10,[1,2,29,37]),(11,[1,2,29,37]),(12,[1,2,29,37]),(13,[1,2,44]),(14,[4]),(15,[1,2,29,45]),(16,[1,2,45]),(17,[1,2,51]),(18,[4]),(19,[1,53,54,55]),(20,[1,53,54,55,56]),(21,[1,6,53,54,55]),(22,[1,53,54,55,62]),(23,[4]),(24,[1,53,54,55]),(25,[4])]),
 (45,[(0,[1]),(1,[2])]),
 (46,[(0,[1,2]),(1,[1,2,9]),(2,[2]),(3,[1,2,3]),(4,[1,2,3,20,21,22]),(5,[1,2,3,20,21,22,23]),(6,[1,2,3,4,5,20,21,22]),(7,[1,2,3,20,21,22]),(8,[1,2,3,20,21,22]),(9,[2])]),
 (47,[(0,[0,1]),(1,[0,1,5]),(2,[0,1,5,6]),(3,[0,1,6,11]),(4,[12]),(5,[4]),(6,[4]),(7,[0,1,13]),(8,[4]),(9,[0,1,16]),(10,[4]),(11,[19]),(12,[4]),(13,[4])]),
 (48,[(0,[0,1,2]),(1,[0,1,2,11,12,13]),(2,[0,1,2,11,12,13,14]),(3,[0,1,2,7,8,11,12,13]),(4,[0,1,2,7,8,11,12,13,21]),(5,[6]),(6,[0,1,2,8,9,11,12,13]),(7,[0,1,2,10,11,12,13]),(8,[0,1,2,10,11,12,13,31]),(9,[6]),(10,[0,1,2,11,12,13]),(11,[38]),(12,[6]),(13,[6])]),
 (49,[(0,[2,3]),(1,[4])]),
 (50,[(0,[0,1,2]),(1,[0,1,2,14]),(2,[6]),(3,[1,2,15,16,17]),(4,[1,2,15,16,17,18]),(5,[1,2,7,8,15,16,17]),(6,[1,2,8,9,15,16,17]),(7,[1,2,15,16,17,30]),(8,[6]),(9,[1,2,15,16,17]),(10,[6])]),
 (51,[(0,[0,1,2]),(1,[0,1,2,14]),(2,[6]),(3,[1,2,15,16,17]),(4,[1,2,15,16,17,18]),(5,[1,2,7,8,15,16,17]),(6,[1,2,8,9,15,16,17]),(7,[1,2,15,16,17,30]),(8,[6]),(9,[1,2,15,16,17]),(10,[6])]),
 (52,[(0,[0,1]),(1,[0,1,10]),(2,[4]),(3,[0,1,12,13]),(4,[0,1,12,13,14]),(5,[0,1,5,12,13]),(6,[0,1,12,13,24]),(7,[4]),(8,[0,1,12,13]),(9,[4])]),
 (53,[(0,[1,2,4]),(1,[1,2,4,12]),(2,[1,2,4,12,13]),(3,[4,18]),(4,[4]),(5,[1,2,4,12,20]),(6,[1,2,4,12,20]),(7,[1,2,4,12,20]),(8,[1,2,4,5]),(9,[1,4,5,28,29,30]),(10,[1,4,5,28,29,30,31]),(11,[1,4,5,7,28,29,30]),(12,[1,4,5,28,29,30]),(13,[1,4,5,28,29,30]),(14,[4]),(15,[1,2,4,12,44]),(16,[4]),(17,[1,2,4,55]),(18,[1,2,4,8]),(19,[1,2,4,8,58,59,60]),(20,[1,2,4,8,58,59,60,61]),(21,[1,2,4,8,9,10,58,59,60]),(22,[1,2,4,8,10,58,59,60]),(23,[1,2,4,8,58,59,60,81]),(24,[1,2,4,8,58,59,60]),(25,[4]),(26,[4])]),
 (54,[(0,[0]),(1,[3]),(2,[2]),(3,[2])]),
 (55,[(0,[1,2]),(1,[1,2,7]),(2,[2,3]),(3,[2,3])]),
 (56,[(0,[2,3,4]),(1,[2,3,4,5,6]),(2,[2,3,4,5,6,12]),(3,[2,3,4,5,6,12,13]),(4,[4]),(5,[2,3,4,5,6,12,18]),(6,[3,4,5,6,24]),(7,[3,4,5]),(8,[4]),(9,[2,3,4,5,12,31]),(10,[2,3,4,5,12,31]),(11,[2,3,4,5,12,31]),(12,[4]),(13,[2,3,4,5,12,38]),(14,[4,7]),(15,[4,7,8]),(16,[4]),(17,[2,3,4,5,57]),(18,[4]),(19,[4])]),
 (57,[(0,[0,3]),(1,[0,3,5]),(2,[0,3,5,6]),(3,[]),(4,[0,3,5,10]),(5,[]),(6,[0,3,5,14]),(7,[]),(8,[0,3,5,22]),(9,[]),(10,[0,3,5,28]),(11,[]),(12,[0,3,5,34]),(13,[]),(14,[0,3,5,40]),(15,[0,3]),(16,[]),(17,[0,3,48]),(18,[0]),(19,[])]),
 (58,[(0,[0]),(1,[2])]),
 (59,[(0,[0,1]),(1,[4])]),
 (60,[(0,[1,2,3]),(1,[1,2,3,16]),(2,[6]),(3,[1,2,3]),(4,[1,2,23,24,25]),(5,[1,2,23,24,25,26]),(6,[1,2,8,23,24,25]),(7,[1,2,23,24,25,34]),(8,[6]),(9,[1,2,23,24,25]),(10,[6])]),
 (61,[(0,[0,1,4]),(1,[0,1,4,6]),(2,[0,1,4,6,7]),(3,[4]),(4,[0,1,4,6,11]),(5,[4]),(6,[0,1,4,15]),(7,[4]),(8,[0,1,4,21]),(9,[4]),(10,[0,4,5]),(11,[4,5,26]),(12,[4,5,26,27]),(13,[4,5,37]),(14,[4]),(15,[4]),(16,[4,5,45]),(17,[4,5,47]),(18,[4]),(19,[4,5,57]),(20,[4]),(21,[4]),(22,[4])]),
 (62,[(0,[0]),(1,[2])]),
 (63,[(0,[0,1,4]),(1,[0,1,4,7]),(2,[4]),(3,[4])]),
 (64,[(0,[1]),(1,[1,3,4]),(2,[1,3,4,9,10,11]),(3,[1,3,4,9,10,11,12]),(4,[1,3,4,6,9,10,11]),(5,[1,3,4,7,9,10,11]),(6,[1,3,4,9,10,11]),(7,[1,3,4,9,10,11]),(8,[3,4,27]),(9,[3,4,27,28]),(10,[3,4,27,28]),(11,[2]),(12,[3,4,27,31]),(13,[2]),(14,[3,4,27,34]),(15,[3,4,27,34]),(16,[2]),(17,[4,38]),(18,[2]),(19,[2])]),
 (65,[(0,[2,3,4]),(1,[2,3,4,5,6]),(2,[2,3,4,5,6,7]),(3,[2,3,4,5,6,7,21,22,23]),(4,[2,3,4,5,6,7,21,22,23,24]),(5,[2,3,4,5,6,7,8,9,21,22,23]),(6,[2,3,4,5,6,7,8,10,21,22,23]),(7,[2,3,4,5,6,7,10,21,22,23]),(8,[2,3,4,5,6,7,21,22,23,42]),(9,[2,3,4,5,6,7,21,22,23]),(10,[2,3,4,5,6,7,21,22,23]),(11,[3,4,7,11]),(12,[3,4,7,11,56]),(13,[3,4,7,11,56,57]),(14,[4,11]),(15,[3,4,7,11,56,62]),(16,[4,11]),(17,[4,7,11,70]),(18,[4,11]),(19,[4])]),
 (66,[(0,[2,3,4]),(1,[2,3,4,5]),(2,[2,3,4,5,6]),(3,[2,3,4,5,6,7]),(4,[2,4,5,6,7,20,21,22]),(5,[2,4,5,6,7,20,21,22,23]),(6,[2,4,5,6,7,8,9,20,21,22]),(7,[2,4,5,6,7,8,9,20,21,22,28]),(8,[2,4,5,6,7,20,21,22]),(9,[2,4,5,6,8,10,20,21,22]),(10,[2,4,5,6,7,20,21,22]),(11,[2,4,5,6,7,20,21,22]),(12,[4,5,6,7,11]),(13,[4,6,7,11,54,55,56]),(14,[4,6,7,11,54,55,56,57]),(15,[4,6,7,11,12,13,54,55,56]),(16,[4,6,7,11,12,13,54,55,56,63]),(17,[4,6,7,11,54,55,56]),(18,[4,6,7,11,12,14,54,55,56]),(19,[4,6,7,11,54,55,56]),(20,[4,6,7,11,54,55,56]),(21,[4])]),
 (67,[(0,[0,1]),(1,[0,1]),(2,[]),(3,[4])]),
 (68,[(0,[0,2,3,10,11,12]),(1,[0,2,3,10,11,12,13]),(2,[0,2,3,8,9,10,11,12]),(3,[0,2,3,9,10,11,12,18]),(4,[0,2,3,9,10,11,12]),(5,[0,2,3,9,10,11,12,26]),(6,[0,2,3,10,11,12]),(7,[0,2,3,9,10,11,12]),(8,[0,2,3,10,11,12]),(9,[0,2,3,10,11,12]),(10,[0,2,3,10,11,12])]),
 (69,[(0,[0,1]),(1,[0,1,7,8]),(2,[0,1,7,8,9]),(3,[0,1,5,7,8]),(4,[0,1,5,7,8,16]),(5,[4]),(6,[0,1,7,8]),(7,[4])]),
 (70,[(0,[0,2]),(1,[0,2,5]),(2,[2]),(3,[2,3]),(4,[2])]),
 (71,[(0,[0,2]),(1,[0,2,5]),(2,[2]),(3,[2,3]),(4,[2])]),
 (72,[(0,[0,2]),(1,[0,2,5]),(2,[2]),(3,[2,3]),(4,[2])]),
 (73,[(0,[0]),(1,[0])]),
 (74,[(0,[1]),(1,[2])]),
 (75,[(0,[2,3,4]),(1,[3,4,6]),(2,[4]),(3,[4])]),
 (77,[(0,[0,1]),(1,[0,1]),(2,[1]),(3,[4,5])]),
 (78,[(0,[0]),(1,[3]),(2,[3,4]),(3,[2]),(4,[3,6]),(5,[2]),(6,[3,8]),(7,[2]),(8,[3,10]),(9,[2]),(10,[12]),(11,[2]),(12,[2])]),
 (79,[(0,[0]),(1,[0])]),
 (80,[(0,[0,1]),(1,[0,1,5]),(2,[0,1,5,12]),(3,[4]),(4,[0,1,5,6]),(5,[0,1,5,6,19]),(6,[0,1,5,6]),(7,[0,1,5,6,7]),(8,[0,1,5,6,7,29]),(9,[0,1,5,6]),(10,[0,1,5,6]),(11,[0,5]),(12,[4])]),
 (81,[(0,[0,1]),(1,[0,1,5]),(2,[0,5,8,9,10]),(3,[0,5,8,9,10,11]),(4,[0,5,7,8,9,10]),(5,[0,5,7,8,9,10,17]),(6,[0,5,8,9,10]),(7,[0,5,8,9,10]),(8,[0,5,8,9,10]),(9,[4])]),
 (82,[(0,[1]),(1,[2])]),
 (83,[(0,[0,1,5,6]),(1,[0,1,5,6,8]),(2,[0,1,5,6,8,9]),(3,[6]),(4,[0,1,6,12]),(5,[6]),(6,[6])]),
 (84,[(0,[0]),(1,[0]),(2,[2])]),
 (85,[(0,[0]),(1,[0])]),
 (86,[(0,[1]),(1,[2])]),
 (88,[(0,[0,1,4]),(1,[])]),
 (89,[(0,[0,1]),(1,[0,1,10]),(2,[4]),(3,[0,1,5]),(4,[0,1,5,15]),(5,[0,1,5]),(6,[0,1,5,28]),(7,[0,1,5,6]),(8,[0,1,5,6,7]),(9,[0,1,5,6,7,35]),(10,[0,1,5,6,7]),(11,[0,1,5,6,7,49]),(12,[0,1,5,6,7]),(13,[0,1,5,6,7]),(14,[0,5]),(15,[4]),(16,[4])]),
 (90,[(0,[2,3]),(1,[4])]),
 (91,[(0,[0,1,2,3,4,10]),(1,[0,1,2,3,4,10,11]),(2,[0,1,2,3,4,10,11,12]),(3,[0,1,2,3,4,10,11,12,25]),(4,[]),(5,[0,1,2,3,4,10,11,12,32]),(6,[]),(7,[0,1,2,3,4,10,11,12,39]),(8,[0,1,2,3,4,10,11,12]),(9,[0,1,2,3,4,10,11,12]),(10,[0,1,2,3,4,10,11,12,13,14]),(11,[0,1,2,3,4,10,11,12,13,14,56]),(12,[0,1,2,3,4,10,11,12,13]),(13,[0,1,2,3,4,10,11,12,13]),(14,[0,1,2,3,4,10,11,12,13,14]),(15,[0,1,2,3,4,10,11,12,13,75]),(16,[0,1,2,3,4,10,11,12,13,80]),(17,[0,1,2,3,4,10,11,12,13,97]),(18,[0,2,3,4,10,11,15]),(19,[0,1,2,3,4,10,11]),(20,[0,1,2,3,4,12,16,17]),(21,[0,1,2,3,4,11,12,16]),(22,[0,1,2,3,4,11,12,16,18,19]),(23,[0,1,2,3,4,11,16,18,19,20]),(24,[0,1,2,3,4,11,16,18,19,20,125]),(25,[0,1,2,3,4,10,11,16]),(26,[0,2,3,4,10,11,16]),(27,[0,1,2,3,4,10,11]),(28,[0,1,2,3,4,10,11,16]),(29,[0,1,3,4,10,11,16]),(30,[0,1,2,3,4,10,11])]),
 (92,[(0,[0]),(1,[2]),(2,[2])]),
 (93,[(0,[0,1,2,3,8]),(1,[0,1,2,3,8,14]),(2,[0,1,2,3,8]),(3,[0,1,2,3,8,9]),(4,[0,1,2,3,8,9,34]),(5,[0,1,2,3,8,9]),(6,[0,1,2,3,8,9])]),
 (94,[(0,[0,1,2,3,8]),(1,[0,1,2,3,8,9]),(2,[0,3,8,9,10]),(3,[0,3,8,9,10,11]),(4,[0,3,8,9,10,11,21]),(5,[0,3,8,9,10,11]),(6,[0,3,8,9,10,11]),(7,[0,3,8,9,12]),(8,[0,3,8,9,12,33]),(9,[0,3,8,9,12]),(10,[0,3,8,9,12]),(11,[0,3,8,9,12])]),
 (95,[(0,[0,1,8]),(1,[0,1,8,17]),(2,[0,1,8,9]),(3,[0,1,8,9,10]),(4,[0,1,8,9,10,11]),(5,[0,1,8,9,10,11,35]),(6,[0,1,8,9,10,11]),(7,[0,1,8,9,10,11,12]),(8,[0,1,8,9,10,11,12,45]),(9,[0,1,8,9,10,11,12]),(10,[0,1,8,9,10,11])]),
 (96,[(0,[0,1,2,3]),(1,[0,1,3,10]),(2,[0,1,3,10,11]),(3,[0,1,3,10,11,12]),(4,[0,1,3,10,11,12,13]),(5,[0,3,10,11,12,13,14]),(6,[0,3,10,11,12,13,14,34]),(7,[0,3,11,12,13,14,36]),(8,[0,3,11,12,13,14]),(9,[0,3,11,12,13,14]),(10,[0,3,11,12,13,14]),(11,[11,13]),(12,[13,55]),(13,[8,9]),(14,[13,55,57]),(15,[8,9]),(16,[13,60]),(17,[8,9])]),
 (97,[(0,[0,2,8]),(1,[0,8,9]),(2,[0,8,9,15]),(3,[0,8,9]),(4,[0,8,9]),(5,[0,8,9])]),
 (98,[(0,[0,1,2,3]),(1,[0,1,2,3,9]),(2,[0,1,2,3,9,10]),(3,[0,1,2,3,9,10,16]),(4,[0,1,2,3,9,10]),(5,[0,1,2,3,9,10,36]),(6,[0,1,2,3,9,10]),(7,[0,1,2,3,9,10,41]),(8,[8]),(9,[0,1,2,3,9,10,45]),(10,[8]),(11,[0,1,2,3,9,10]),(12,[0,1,2,3,9,10,65]),(13,[0,1,2,3,9,10,11]),(14,[0,1,2,3,9,10,11,69]),(15,[0,1,2,3,9,10,11]),(16,[0,1,2,3,9,10,11,84]),(17,[0,1,2,3,9,10,11]),(18,[0,1,2,3,9,10,104]),(19,[0,1,2,3,9,10,12]),(20,[0,1,2,3,9,10,12,109]),(21,[0,1,2,3,9,10,12]),(22,[0,1,2,3,9,10,12,124]),(23,[0,1,2,3,9,10,12]),(24,[8])]),
 (99,[(0,[0,1,2,3,4]),(1,[0,1,2,4]),(2,[0,1,4,11,12]),(3,[0,1,4,11,12,47]),(4,[0,1,4,11,12]),(5,[0,1,4,11,12,65]),(6,[0,1,4,11,12]),(7,[0,1,4,11,12,70]),(8,[0,1,4,11,12]),(9,[0,1,4,11,12]),(10,[0,1,4,11,12]),(11,[10])]),
 (100,[(0,[0,1,2,3,4]),(1,[0,1,2,4]),(2,[0,1,4,12,13]),(3,[0,1,4,12,13,47]),(4,[0,1,4,12,13]),(5,[0,1,4,12,13,66]),(6,[0,1,4,12,13]),(7,[0,1,4,12,13,71]),(8,[13]),(9,[10,11]),(10,[0,1,4,12,13]),(11,[0,1,4,12,13]),(12,[0,1,4,12,13]),(13,[0,1,4,12,13,120]),(14,[0,1,4,12,13]),(15,[0,1,4,12,13,139]),(16,[0,1,4,12,13]),(17,[0,1,4,12,13,144]),(18,[0,1,4,12,13]),(19,[0,1,4,12,13]),(20,[0,1,4,12,13]),(21,[13]),(22,[10,11])]),
 (102,[(0,[0,2]),(1,[0,2,4]),(2,[0]),(3,[0,2]),(4,[0,2,8]),(5,[0,2]),(6,[0,2]),(7,[0,2,14]),(8,[0,2]),(9,[0,2]),(10,[2])]),
 (103,[(0,[0,2,3,4,10]),(1,[0,2,3,4,10,11]),(2,[0,2,3,4,10,11,18]),(3,[0,2,3,4,10,11,40]),(4,[0,2,3,4,10,11]),(5,[0,2,3,4,10,11,58]),(6,[0,2,3,4,11]),(7,[0,2,3,4,10])]),
 (104,[(0,[0]),(1,[2])]),
 (105,[(0,[0]),(1,[0]),(2,[0]),(3,[0]),(4,[2])]),
 (106,[(0,[0,1,2,3]),(1,[8])]),
 (107,[(0,[0,1,2,3,4,5]),(1,[0,1,2,3,4,5]),(2,[0,1,2,4,5]),(3,[2]),(4,[12])]),
 (108,[(0,[0,1,2,3,4]),(1,[1,2,3,22]),(2,[1,2]),(3,[10,11]),(4,[10,11])])]
def acw:List (Nat × List (Nat × List Nat)):=[(3,[(35,[2,3,4,5,7]),(43,[2,3,4,5,7]),(51,[2,3,4,5,13]),(67,[3,4,5,13]),(79,[13]),(88,[13]),(92,[13]),(96,[13]),(106,[13])]),
 (4,[(11,[])]),
 (5,[(35,[1]),(47,[1,3]),(62,[])]),
 (6,[]),
 (7,[(5,[]),(9,[]),(13,[])]),
 (8,[]),
 (9,[(11,[1,2,4])]),
 (10,[(10,[1,2,4]),(14,[1,2,4])]),
 (11,[(15,[1,4,6]),(18,[1,4,6]),(26,[1,4,6]),(32,[1,4,6])]),
 (12,[(12,[2,4]),(16,[2,4])]),
 (13,[]),
 (14,[(25,[1]),(37,[1,4]),(49,[1,5]),(56,[1,5])]),
 (15,[(35,[1,4,6]),(41,[1,4,6,7,8]),(56,[1,4,6,7,8,9]),(63,[1,4,6,7,8,9,11,61,62]),(72,[1,4,6,7,8,9,11,61,62]),(76,[1,4,6,7,8,11]),(80,[1,4,6,7,8,9])]),
 (16,[(37,[2,3]),(42,[2,3,40,41]),(55,[2,3,40,41]),(61,[2,3,59,60]),(75,[2,3,6,59,60]),(83,[2,3,6,59,60,81,82]),(101,[2,3,6,59,60,81,82])]),
 (17,[]),
 (18,[]),
 (19,[]),
 (20,[]),
 (21,[(26,[1,2,5,6,20,26]),(32,[1,2,5,6,32]),(39,[1,2,5,6]),(63,[1,2,5,7])]),
 (22,[(13,[1,2,4]),(22,[4,7]),(26,[4,7])]),
 (23,[]),
 (24,[(22,[1,2,3,19,20,21]),(45,[2,9,10]),(51,[2,3,9]),(61,[2,9,10]),(66,[2,3,9]),(76,[2,3,9]),(88,[2,9,10]),(97,[2,6,9,10,94,95,96]),(102,[2,6,9,10,13,94,95,96]),(106,[2,6,9,10,94,95,96]),(114,[2,9,10]),(122,[2,8,9,10,119,120,121]),(126,[2,8,9,10,15,119,120,121]),(130,[2,8,9,10,119,120,121]),(137,[2,9,10]),(146,[2,6,9,10,143,144,145]),(151,[2,6,9,10,17,143,144,145]),(155,[2,6,9,10,143,144,145]),(165,[2,9]),(168,[2,9])]),
 (25,[]),
 (26,[(18,[0,3,16,17]),(38,[0,3,4,5,16,17]),(51,[0,3,4,7,16,17]),(58,[0,3,4,5,16,17])]),
 (27,[(24,[2,3,21,22,23])]),
 (28,[(10,[1,2]),(13,[1,2]),(17,[])]),
 (29,[(5,[1,2])]),
 (30,[(9,[2,3]),(19,[2,3])]),
 (31,[]),
 (32,[]),
 (33,[(11,[1,2,4]),(19,[1,2,4]),(27,[4,7])]),
 (34,[(7,[2,3]),(19,[2,3]),(42,[2,3,5]),(57,[2,3,5]),(65,[2,3])]),
 (35,[(20,[1,2,6,7,8])]),
 (36,[]),
 (37,[(11,[0,5,8,9,10]),(17,[0,5,8,9,10])]),
 (38,[(19,[0,3,5]),(33,[0,3,5])]),
 (39,[]),
 (40,[(6,[1])]),
 (41,[]),
 (42,[(7,[1,6,7]),(10,[]),(15,[1,6,15]),(22,[19,20,21]),(27,[19,20,21]),(29,[])]),
 (43,[]),
 (44,[(9,[1,2]),(27,[1,2]),(30,[1,2,29,30]),(37,[1,2,29,37]),(44,[1,2]),(45,[1,2,45]),(51,[1,2]),(56,[1,53,54,55]),(62,[1,53,54,55])]),
 (45,[]),
 (46,[(9,[1,2]),(23,[1,2,3,20,21,22])]),
 (47,[(11,[0,1,6]),(12,[]),(13,[0,1]),(16,[0,1]),(19,[])]),
 (48,[(14,[0,1,2,11,12,13]),(21,[0,1,2,7,8,11,12,13]),(31,[0,1,2,11,12,13]),(38,[])]),
 (49,[]),
 (50,[(14,[0,1,2]),(18,[1,2,15,16,17]),(30,[1,2,15,16,17])]),
 (51,[(14,[0,1,2]),(18,[1,2,15,16,17]),(30,[1,2,15,16,17])]),
 (52,[(10,[0,1]),(14,[0,1,12,13]),(24,[0,1,12,13])]),
 (53,[(13,[4]),(18,[4]),(20,[1,2,4,12,20]),(31,[1,4,5,28,29,30]),(44,[4]),(55,[4]),(61,[1,2,4,8,58,59,60]),(81,[1,2,4,8,58,59,60])]),
 (54,[(3,[])]),
 (55,[(7,[1,2])]),
 (56,[(13,[4,5]),(18,[4,5]),(24,[3,4,5]),(31,[2,3,4,5,12,31]),(38,[4,5]),(57,[4,5])]),
 (57,[(6,[]),(10,[]),(14,[]),(22,[]),(28,[]),(34,[]),(40,[]),(48,[])]),
 (58,[]),
 (59,[]),
 (60,[(16,[1,2,3]),(26,[1,2,23,24,25]),(34,[1,2,23,24,25])]),
 (61,[(7,[0,1,4]),(11,[0,1,4]),(15,[0,1,4]),(21,[0,1,4]),(27,[4]),(37,[4,5]),(45,[4]),(47,[4,5]),(57,[4,5])]),
 (62,[]),
 (63,[(7,[0,1,4])]),
 (64,[(12,[1,3,4,9,10,11]),(28,[3,4,27,28]),(31,[]),(34,[3,4,27,34]),(38,[])]),
 (65,[(24,[2,3,4,5,6,7,21,22,23]),(42,[2,3,4,5,6,7,21,22,23]),(57,[4,11]),(62,[4,11]),(70,[4,11])]),
 (66,[(23,[2,4,5,6,7,20,21,22]),(28,[2,4,5,6,8,9,20,21,22]),(57,[4,6,7,11,54,55,56]),(63,[4,6,7,11,12,13,54,55,56])]),
 (67,[]),
 (68,[(13,[0,2,3,10,11,12]),(18,[0,2,3,9,10,11,12]),(26,[0,2,3,9,10,11,12])]),
 (69,[(9,[0,1,7,8]),(16,[0,1,7,8])]),
 (70,[(5,[0,2])]),
 (71,[(5,[0,2])]),
 (72,[(5,[0,2])]),
 (73,[]),
 (74,[]),
 (75,[(6,[3,4])]),
 (77,[]),
 (78,[(4,[]),(6,[]),(8,[]),(10,[]),(12,[])]),
 (79,[]),
 (80,[(12,[0,1,5]),(19,[0,1,5,6]),(29,[0,1,5,6])]),
 (81,[(11,[0,5,8,9,10]),(17,[0,5,8,9,10])]),
 (82,[]),
 (83,[(9,[0,1,6]),(12,[0,1,6])]),
 (84,[]),
 (85,[]),
 (86,[]),
 (88,[]),
 (89,[(10,[0,1]),(15,[0,1,5]),(28,[0,1,5]),(35,[0,1,5,6,7]),(49,[0,1,5,6,7])]),
 (90,[]),
 (91,[(25,[0,1,2,3,4,10,11,12]),(32,[0,1,2,3,4,10,11,12]),(39,[0,1,2,3,4,10,11,12]),(56,[0,1,2,3,4,10,11,12,13,14]),(75,[0,1,2,3,4,10,11,12,13]),(80,[0,1,2,3,4,10,11,12,13]),(97,[0,1,2,3,4,12,13]),(125,[0,1,2,3,4,10,11])]),
 (92,[]),
 (93,[(14,[0,1,2,3,8]),(34,[0,1,2,3,8,9])]),
 (94,[(21,[0,3,8,9,10,11]),(33,[0,3,8,9,12])]),
 (95,[(17,[]),(35,[0,1,8,9,10,11]),(45,[0,1,8,9,10,11,12])]),
 (96,[(34,[11,13]),(36,[0,3,11,12,13,14]),(57,[8,9]),(60,[8,9])]),
 (97,[(15,[0,8,9])]),
 (98,[(16,[0,1,2,3,9,10]),(36,[0,1,2,3,9,10]),(41,[0,1,2,3,9,10]),(45,[0,1,2,3,9,10]),(65,[0,1,2,3,9,10]),(69,[0,1,2,3,9,10,11]),(84,[0,1,2,3,9,10,11]),(104,[0,1,2,3,9,10]),(109,[0,1,2,3,9,10,12]),(124,[0,1,2,3,9,10,12])]),
 (99,[(47,[0,1,4,11,12]),(65,[0,1,4,11,12]),(70,[0,1,4,11,12])]),
 (100,[(47,[0,1,4,12,13]),(66,[0,1,4,12,13]),(71,[0,1,4,12,13]),(120,[0,1,4,12,13]),(139,[0,1,4,12,13]),(144,[0,1,4,12,13])]),
 (102,[(4,[0,2]),(8,[0,2]),(14,[0,2])]),
 (103,[(18,[0,2,3,4,10,11]),(40,[0,2,3,4,10,11]),(58,[0,2,3,4,10,11])]),
 (104,[]),
 (105,[]),
 (106,[]),
 (107,[]),
 (108,[(22,[1,2])])]
def acx:List (Nat × List (Nat × List Nat)):=[(3,[(0,[13])]),
 (4,[]),
 (5,[]),
 (6,[]),
 (7,[(0,[])]),
 (8,[]),
 (9,[]),
 (10,[]),
 (11,[(0,[4,6]),(1,[1,4,6])]),
 (12,[]),
 (13,[]),
 (14,[(0,[1,5]),(1,[1,5])]),
 (15,[(0,[4,6]),(1,[1,4,6]),(2,[1,4,6,7]),(3,[1,4,6,7,8]),(4,[1,4,6,7,8,9,11]),(5,[1,4,6,7,8,9,11,61,62])]),
 (16,[(0,[2,3]),(1,[2,3,40,41]),(2,[]),(3,[2,3,59,60]),(4,[2,3,59,60]),(5,[2,3,6,59,60,81,82])]),
 (17,[]),
 (18,[]),
 (19,[]),
 (20,[]),
 (21,[(0,[1,2,5,6]),(1,[6]),(2,[1,2,5,6,7])]),
 (22,[(0,[4,7]),(1,[4,7])]),
 (23,[]),
 (24,[(0,[1,2,3]),(1,[1,2,3,19,20,21]),(2,[2,9,10]),(3,[2,3,9]),(4,[2,9,10]),(5,[2,6,9,10,94,95,96]),(6,[2,9,10]),(7,[2,8,9,10,119,120,121]),(8,[2,9,10]),(9,[2,6,9,10,143,144,145]),(10,[2,9])]),
 (25,[]),
 (26,[(0,[0,3]),(1,[0,3,16,17])]),
 (27,[(0,[2,3]),(1,[2,3,21,22,23])]),
 (28,[]),
 (29,[]),
 (30,[]),
 (31,[]),
 (32,[]),
 (33,[]),
 (34,[(0,[2,3]),(1,[2,3]),(2,[2,3,5])]),
 (35,[(0,[6,7]),(1,[1,2,6,7,8])]),
 (36,[]),
 (37,[(0,[5]),(1,[0,5,8,9,10])]),
 (38,[(0,[0,3,5]),(1,[0,3,5])]),
 (39,[]),
 (40,[]),
 (41,[]),
 (42,[(0,[]),(1,[]),(2,[19,20,21])]),
 (43,[]),
 (44,[(0,[1,2]),(1,[]),(2,[1,53,54,55])]),
 (45,[]),
 (46,[(0,[1,2,3]),(1,[1,2,3,20,21,22])]),
 (47,[]),
 (48,[(0,[0,1]),(1,[0,1,2,11,12,13])]),
 (49,[]),
 (50,[(0,[]),(1,[1,2,15,16,17])]),
 (51,[(0,[]),(1,[1,2,15,16,17])]),
 (52,[(0,[]),(1,[0,1,12,13])]),
 (53,[(0,[4]),(1,[4,5]),(2,[1,4,5,28,29,30]),(3,[4,8]),(4,[1,2,4,8,58,59,60])]),
 (54,[]),
 (55,[]),
 (56,[(0,[4,5])]),
 (57,[(0,[])]),
 (58,[]),
 (59,[]),
 (60,[(0,[]),(1,[1,2,23,24,25])]),
 (61,[(0,[0,1,4]),(1,[4]),(2,[4,5])]),
 (62,[]),
 (63,[]),
 (64,[(0,[1,3,4]),(1,[1,3,4,9,10,11]),(2,[])]),
 (65,[(0,[3,4,5,6,7]),(1,[2,3,4,5,6,7,21,22,23]),(2,[4,11])]),
 (66,[(0,[4,5,6,7]),(1,[2,4,5,6,7,20,21,22]),(2,[4,6,7,11]),(3,[4,6,7,11,54,55,56])]),
 (67,[]),
 (68,[(0,[]),(1,[0,2,3,10,11,12])]),
 (69,[(0,[]),(1,[0,1,7,8])]),
 (70,[]),
 (71,[]),
 (72,[]),
 (73,[]),
 (74,[]),
 (75,[]),
 (77,[]),
 (78,[(0,[])]),
 (79,[]),
 (80,[(0,[0,5]),(1,[0,1,5,6])]),
 (81,[(0,[5]),(1,[0,5,8,9,10])]),
 (82,[]),
 (83,[(0,[0,1,6])]),
 (84,[]),
 (85,[]),
 (86,[]),
 (88,[]),
 (89,[(0,[0]),(1,[0,1,5]),(2,[0,5]),(3,[0,1,5,6,7])]),
 (90,[]),
 (91,[(0,[]),(1,[0,1,2,3,4,10,11])]),
 (92,[]),
 (93,[(0,[]),(1,[0,1,2,3,8]),(2,[0,1,2,3,8]),(3,[0,1,2,3,8,9])]),
 (94,[(0,[0,3,8,9,10]),(1,[0,3,8,9,10,11]),(2,[]),(3,[0,3,8,9,12])]),
 (95,[(0,[]),(1,[0,1,8,9,10,11])]),
 (96,[(0,[8,9])]),
 (97,[(0,[]),(1,[0,8,9])]),
 (98,[(0,[]),(1,[0,1,2,3,9,10]),(2,[0,1,2,3,9,10]),(3,[0,1,2,3,9,10]),(4,[0,1,2,3,9,10]),(5,[0,1,2,3,9,10,11]),(6,[0,1,2,3,9,10]),(7,[0,1,2,3,9,10,12])]),
 (99,[(0,[11]),(1,[0,1,4,11,12]),(2,[0,1,4,11,12]),(3,[0,1,4,11,12]),(4,[0,1,4,11,12]),(5,[0,1,4,11,12])]),
 (100,[(0,[0,1,4,12,13]),(1,[0,1,4,12,13]),(2,[0,1,4,12,13]),(3,[0,1,4,12,13]),(4,[0,1,13]),(5,[0,1,4,12,13]),(6,[0,1,4,12,13]),(7,[0,1,4,12,13]),(8,[0,1,4,12,13]),(9,[0,1,4,12,13])]),
 (102,[]),
 (103,[(0,[]),(1,[0,2,3,4,10])]),
 (104,[]),
 (105,[]),
 (106,[]),
 (107,[]),
 (108,[])]
def acy:List (Nat × List (Nat × List Nat)):=[(10,[(0,[4000016]),(3,[4000016]),(5,[4000016])]),
 (15,[(0,[4000016]),(8,[9]),(9,[9]),(10,[4000016]),(11,[9]),(12,[9]),(13,[9]),(14,[9]),(15,[9]),(16,[9]),(17,[9]),(18,[9]),(19,[9]),(20,[4000016]),(21,[9])]),
 (24,[(37,[9]),(47,[9]),(55,[9])])]
def acz:List (Nat × List Nat):=[(24,[0]),
 (29,[0]),
 (33,[0]),
 (38,[0]),
 (46,[0]),
 (53,[0]),
 (55,[0]),
 (56,[0]),
 (61,[0]),
 (70,[0]),
 (71,[0]),
 (72,[0])]
def acA:List (Nat × List (Nat × List (Nat × Nat))):=[(3,[(1,[(11,4),(13,5)]),(3,[(1,6),(5,7)]),(4,[(0,8)]),(5,[(1,9)]),(8,[(4,10)]),(10,[(0,8)]),(21,[(1,5)]),(22,[(1,11)]),(23,[(1,12)]),(24,[(1,4),(18,13),(24,8)])]),
 (4,[(1,[(1,14)])]),
 (5,[(3,[(6,9)]),(6,[(3,15)]),(7,[(5,16)])]),
 (6,[(1,[(1,17),(4,18)])]),
 (7,[(1,[(1,19)]),(3,[(1,20)]),(5,[(2,21)])]),
 (8,[(1,[(0,23),(1,22)])]),
 (9,[(1,[(2,7)]),(4,[(2,24)])]),
 (10,[(1,[(1,5)]),(6,[(2,15)])]),
 (11,[(1,[(1,14)]),(6,[(4,25)]),(8,[(1,26)])]),
 (12,[(1,[(1,14)]),(4,[(1,25)]),(6,[(1,27)])]),
 (13,[(1,[(1,14)]),(2,[(3,25)])]),
 (14,[(1,[(17,28)]),(3,[(4,29)]),(4,[(5,30)]),(6,[(3,31)]),(8,[(1,25),(4,26)]),(10,[(3,32)])]),
 (15,[(8,[(7,33)]),(15,[(6,34)])]),
 (16,[(6,[(10,34)])]),
 (17,[(1,[(1,7)])]),
 (18,[(1,[(1,35)])]),
 (20,[(1,[(1,35)])]),
 (21,[(18,[(6,21)])]),
 (22,[(1,[(2,28)]),(4,[(1,29),(3,31)]),(5,[(1,25)]),(6,[(1,26)]),(9,[(1,27)])]),
 (24,[(5,[(2,24)]),(22,[(5,36)]),(28,[(3,37)]),(37,[(3,37)]),(40,[(1,36)]),(43,[(3,38)]),(47,[(3,37)]),(52,[(1,36)]),(53,[(3,38)])]),
 (26,[(5,[(13,39)]),(8,[(5,40)]),(12,[(2,41)])]),
 (27,[(5,[(3,42)])]),
 (28,[(3,[(1,43)]),(5,[(2,44)])]),
 (29,[(1,[(1,45)]),(3,[(1,46)])]),
 (30,[(2,[(4,47)]),(4,[(4,47)]),(5,[(4,48)])]),
 (31,[(3,[(2,41)])]),
 (32,[(2,[(27,50),(37,51)])]),
 (33,[(1,[(1,7)]),(6,[(2,53),(3,24)]),(7,[(1,20)])]),
 (34,[(2,[(5,54)]),(4,[(5,54)]),(8,[(10,34)]),(13,[(7,54)])]),
 (35,[(5,[(6,35)])]),
 (38,[(2,[(9,34)]),(4,[(9,34)])]),
 (39,[(1,[(3,56),(4,55)])]),
 (40,[(1,[(1,45)]),(4,[(1,57)]),(5,[(0,58)])]),
 (41,[(2,[(5,40)])]),
 (42,[(6,[(2,132)]),(12,[(1,42)]),(17,[(9,42)])]),
 (43,[(2,[(1,60)])]),
 (44,[(22,[(2,44)])]),
 (45,[(1,[(1,28)])]),
 (46,[(7,[(3,46)]),(9,[(3,61)])]),
 (47,[(1,[(1,62)]),(2,[(1,62)])]),
 (48,[(7,[(3,30)])]),
 (49,[(1,[(2,30)])]),
 (50,[(7,[(3,49)])]),
 (51,[(7,[(3,52)])]),
 (53,[(12,[(4,53)]),(16,[(5,53)]),(22,[(3,53),(11,63)]),(23,[(1,64)]),(25,[(1,63)])]),
 (55,[(1,[(2,28)])]),
 (56,[(12,[(2,65)]),(14,[(5,56)]),(15,[(3,61)]),(16,[(4,61)]),(18,[(2,66)])]),
 (57,[(3,[(1,67)]),(5,[(1,67)]),(7,[(5,67)]),(9,[(3,68)]),(11,[(3,68)]),(13,[(3,68)]),(15,[(1,67)]),(16,[(3,68)]),(18,[(3,68)]),(19,[(1,67)])]),
 (59,[(1,[(2,69)])]),
 (60,[(7,[(4,60)])]),
 (61,[(3,[(1,70)]),(5,[(1,71)]),(7,[(1,72)]),(18,[(0,73)]),(19,[(5,74)])]),
 (64,[(5,[(1,64)])]),
 (65,[(6,[(2,56)]),(11,[(3,61),(7,61)])]),
 (66,[(8,[(4,75)]),(9,[(2,56)]),(19,[(3,61)]),(21,[(1,61),(3,61)])]),
 (68,[(4,[(2,77)]),(5,[(2,78)]),(6,[(2,57)]),(7,[(1,67)]),(8,[(2,57)]),(9,[(1,67)])]),
 (69,[(4,[(5,82)])]),
 (70,[(1,[(1,126)]),(2,[(0,79)]),(3,[(1,81),(2,130)]),(4,[(1,84),(2,85),(3,83)])]),
 (71,[(1,[(1,59)]),(2,[(0,85)]),(3,[(1,81),(2,128)]),(4,[(1,73),(2,83)])]),
 (72,[(1,[(1,59)]),(2,[(0,85)]),(3,[(1,81),(2,80)]),(4,[(1,84),(2,79),(3,83)])]),
 (74,[(1,[(14,82)])]),
 (75,[(3,[(1,46)])]),
 (79,[(1,[(0,85)])]),
 (80,[(1,[(2,127)]),(8,[(2,74)])]),
 (84,[(1,[(1,88)]),(2,[(1,89)])]),
 (88,[(1,[(4,92),(6,91)])]),
 (89,[(6,[(10,90)]),(11,[(10,90)])]),
 (90,[(1,[(2,30)])]),
 (91,[(4,[(4,93)]),(6,[(4,94)]),(8,[(4,95)]),(10,[(4,96)]),(12,[(4,97)]),(16,[(4,98)]),(17,[(13,30)]),(18,[(5,99)]),(20,[(5,100)]),(26,[(5,91)]),(29,[(6,91)])]),
 (92,[(2,[(1,102)])]),
 (93,[(4,[(14,30)])]),
 (94,[(6,[(5,103)]),(11,[(5,103)])]),
 (95,[(3,[(1,104)]),(7,[(0,105)])]),
 (96,[(8,[(3,106)]),(9,[(3,106)]),(10,[(3,106)]),(11,[(5,107)])]),
 (98,[(5,[(14,30)]),(16,[(10,30)]),(22,[(10,30)])]),
 (99,[(3,[(13,30)]),(5,[(13,30)])]),
 (100,[(3,[(13,30)]),(5,[(13,30)]),(13,[(13,30)]),(15,[(13,30)])]),
 (103,[(3,[(19,30)]),(5,[(13,30)])]),
 (104,[(1,[(2,92)])]),
 (106,[(1,[(8,107)])]),
 (107,[(1,[(5,108)]),(2,[(5,108)]),(3,[(5,108)])]),
 (108,[(1,[(9,30)])]),
 (126,[(1,[(2,127)])]),
 (127,[(4,[(5,74)])]),
 (128,[(1,[(2,129)]),(8,[(2,86)])]),
 (129,[(4,[(5,86)])]),
 (130,[(1,[(2,69)]),(8,[(2,82)])]),
 (132,[(1,[(2,133)])]),
 (133,[(4,[(5,42)])])]
def acB:List (Nat × List (Nat × (Shape × List (Out × Shape)))):=[(3,[(1551,L4),(1487,L5),(1423,L6)]),
 (11,[(97,L7)]),
 (14,[(113,L8)]),
 (15,[(209,L9),(1231,Ma),(97,Mb),(33,Mc)]),
 (16,[(65,Md),(241,Me),(161,Mf)]),
 (21,[(639,Mg),(257,Mh)]),
 (22,[(81,Mi)]),
 (24,[(49,Mj),(465,Mk),(609,Ml),(769,Mm)]),
 (26,[(49,Mn)]),
 (27,[(49,Mo)]),
 (34,[(97,Mp)]),
 (35,[(49,Mq)]),
 (37,[(49,Mr)]),
 (38,[(33,Ms)]),
 (42,[(161,Mt)]),
 (44,[(321,Mu)]),
 (46,[(81,Mv)]),
 (48,[(33,Mw)]),
 (50,[(65,Mx)]),
 (51,[(65,My)]),
 (52,[(65,Mz)]),
 (53,[(161,MA),(321,MB)]),
 (56,[(399,MC)]),
 (57,[(463,MD),(367,ME),(239,MF),(175,MG),(111,MH)]),
 (60,[(81,MI)]),
 (64,[(49,MJ)]),
 (65,[(65,MK)]),
 (66,[(81,ML),(225,MM)]),
 (68,[(303,MN),(17,MO)]),
 (69,[(33,MP)]),
 (80,[(81,MQ)]),
 (81,[(49,MR)]),
 (89,[(145,MS),(65,MT)]),
 (91,[(639,MU),(911,MV),(1215,MW),(33,MX)]),
 (93,[(65,MY),(17,MZ)]),
 (94,[(65,M0),(129,M1)]),
 (95,[(735,M3),(81,M4)]),
 (96,[(591,M5),(559,M6)]),
 (97,[(33,M7)]),
 (98,[(81,M8),(225,M9),(1055,Na),(321,Nb),(49,Nc)]),
 (99,[(49,Nd),(81,Nf),(50,Ng)]),
 (100,[(49,Nh),(81,Ni),(209,Nj),(241,Nk),(210,Nl)]),
 (102,[(79,Nn),(143,No)]),
 (103,[(655,Np),(17,Nq)]),
 (127,[(33,Nr)]),
 (128,[(81,Ns)]),
 (129,[(33,Nt)]),
 (130,[(81,Nu)]),
 (133,[(33,Nw)])]
def acC:List (Nat × List (Nat × List Nat)):=[(15,[(1,[19,22]),(24,[98,99])]),
 (80,[(12,[41])]),
 (89,[(15,[64])]),
 (128,[(12,[41])]),
 (130,[(12,[41])])]
def Hm (k:Nat):FuncId:=(dZ acq k).getD 0
def ln:cT where
 im:=Hm
 sin:=fun k=>(dZ acr k).getD ⟨[],[]⟩
 gU:=fun k=>(dZ acs k).getD ⟨[],[]⟩
 live:=fun k r=>(dZ ((dZ acv (Hm k)).getD []) r).getD []
 join:=fun k r=>(dZ ((dZ acw (Hm k)).getD []) r).getD []
 blk:=fun k r=>(dZ ((dZ acx (Hm k)).getD []) r).getD []
 pur:=fun k r=>(dZ ((dZ acy k).getD []) r).getD []
 uD:=fun k=>(dZ acz k).getD []
 alt:=fun k=>dZ acu k
 P0:=fun k r=>(dZ ((dZ acC k).getD []) r).getD []
 ck:=fun k r i=>(dZ ((dZ ((dZ acA k).getD []) r).getD []) i).getD 0
 iR:=fun k x=>dZ ((dZ acB k).getD []) x
 p8:=[]
 EN:=fun _=>0
 ext:=fun f=>bif Nat.beq f 76 then some 86 else none
 oT:=fun f=>none
 idle:=fun f=>false
 mv:=fun k=>(dZ ([(25,[1,2]),(26,[1,2]),(27,[1,2]),(32,[1,2]),(41,[1,2]),(57,[1]),(58,[1]),(67,[1]),(68,[1]),(77,[1])]:List (Nat × List Nat)) k).getD []
 aE:=fun g=> .undef
noncomputable abbrev PG:Program:=Tryz.prog
noncomputable abbrev CC:ah:=Call Tryz.prog ln
noncomputable abbrev Lp (p:List Nat) (k:Nat):mE:= .loop (rT p (sW PG (ln.im k)))
noncomputable abbrev Cd (t:Nat) (p q:List Nat) (k:Nat):mE:= .cond t (rT p (sW PG (ln.im k))) (rT q (sW PG (ln.im k)))
abbrev bC (C:ah) (L:cr) (k:Nat) (b:mE):Prop:=qv PG ln C L k (AO PG (ln.im k)) (ln.sin k).cE.length b
end Go.AM
set_option maxRecDepth 100000
namespace Go.AM
open Go.Proofs Go.RowKit
theorem acD (hP:Ac PG) (f:FuncId) (e:TypeId) (h:ln.oT f=some e):R7 PG f e:=by
 have h1:ln.oT f=none:=by kernel_rfl
 rw[h1] at h
 cases h
theorem acE {w:World} {b:Nat} {C:Array Value} {T:TypeId} (h:w.heap[b]? =some (.cells C T (0,0))):w.shape? b=some (T,C.size)∧w.frozen? ⟨b,0,none⟩=false∧w.cell? ⟨b,0,none⟩=C[0]? :=by
 refine ⟨by simp[World.shape?,h],by simp[World.frozen?,h],cell?_cells h⟩
set_option maxHeartbeats 1000000 in
theorem acF (b:Nat) (w:World) (h0:w.cell? ⟨b,0,none⟩=some (.pointer (some ⟨b,0,none⟩))):
  Calls Tryz.prog 76 #[.pointer (some ⟨b,0,none⟩)] w fun e w'=>e= .returned (.tuple #[])∧w'=w:=by
 obtain ⟨j,hj⟩:=xe.1 (show (Tryz.prog.info? 86).isSome=true by kernel_rfl)
 have hu:Tryz.prog.underlying 83=some (.pointer 86):=by kernel_rfl
 go_enter Tryz.func76,Tryz.ntmps76
 go_wp2
 rw[Lib.run_neq_ptr_same w _ hu hj]
 go_wp2
 go_end0
 exact ⟨rfl,rfl⟩
set_option maxHeartbeats 1000000 in
theorem acG (b n:Nat) (w:World) (hn:0<n) (h0:w.cell? ⟨b,0,none⟩=some (.pointer none)) (Uu:w.shape? b=some (86,n)) (K9:w.frozen? ⟨b,0,none⟩=false) (hl:liesAt Tryz.prog Tryz.prog.depth 86 (n/Tryz.prog.cellsOf 86) 0 86 1=true):
  Calls Tryz.prog 76 #[.pointer (some ⟨b,0,none⟩)] w fun e w'=>e= .returned (.tuple #[])∧w'=w.setCell ⟨b,0,none⟩ (.pointer (some ⟨b,0,none⟩)):=by
 obtain ⟨j,hj⟩:=xe.1 (show (Tryz.prog.info? 86).isSome=true by kernel_rfl)
 have hjs:j.size≠0:=by
  have U:(Tryz.prog.info? 86).map (·.size)=some 2:=by kernel_rfl
  rw[hj] at U
  simp at U
  omega
 have hu:Tryz.prog.underlying 83=some (.pointer 86):=by kernel_rfl
 have ni:Tryz.prog.underlying 107=some .unsafePointer:=by kernel_rfl
 go_enter Tryz.func76,Tryz.ntmps76
 go_wp2
 rw[Lib.run_to_unsafe w ⟨b,0,none⟩ hu ni hj hjs Uu hn]
 simp only[Result.andThen]
 rw[Oper.upon_value]
 go_wp2
 rw[run_callFunc_extern Tryz.func87 (by kernel_rfl) (by kernel_rfl) (by kernel_rfl) (e:=Extern.AbiNoEscape.same) (by kernel_rfl)]
 rw[Lib.run_noEscape]
 simp only[Result.andThen]
 rw[Oper.upon_value]
 go_wp2
 rw[Lib.run_from_unsafe w ⟨b,0,none⟩ ni hu hj Uu hl]
 simp only[Result.andThen]
 rw[Oper.upon_value]
 go_wp2
 go_end0
 exact ⟨rfl,rfl⟩
theorem YP (hP:Ac Tryz.prog):jw Tryz.prog ln where
 count:=hP
 oT:=acD hP
 ext:=by
  intro f T h b C w hh hs hc
  have hf:f=76∧T=86:=by
   have h1:ln.ext f=bif Nat.beq f 76 then some 86 else none:=by kernel_rfl
   rw[h1] at h
   cases hb:Nat.beq f 76 with
   | true=>rw[hb] at h;rw[aX] at hb;exact ⟨hb,(dh h).symm⟩
   | false=>rw[hb] at h;cases h
  obtain ⟨rfl,rfl⟩:=hf
  obtain ⟨h1,U,h3⟩:=acE hh
  refine ⟨MuLone.run_callFunc_enter Tryz.func76 (hP _ _ Tryz.func76) (by kernel_rfl:Tryz.f76.body=some (sW Tryz.prog 76)) _ _,?_⟩
  have eQ:Tryz.prog.cellsOf 86=2:=by kernel_rfl
  rcases hc with hc|hc
  ·refine (acG b C.size w (by omega) (h3.trans hc) h1 U (by rw[hs,eQ];kernel_rfl)).mono ?_
   rintro e w' ⟨rfl,rfl⟩
   exact ⟨rfl,.inr rfl⟩
  ·refine (acF b w (h3.trans hc)).mono ?_
   rintro e w' ⟨rfl,rfl⟩
   exact ⟨rfl,.inl rfl⟩
 idle:=by
  intro f h
  have h1:ln.idle f=false:=by kernel_rfl
  rw[h1] at h
  cases h
end Go.AM
namespace Go.AM
theorem wrap_u64 (n:Int):IntKind.u64.wrap n=n %18446744073709551616:=by simp[IntKind.wrap,IntKind.bits,IntKind.signed]
theorem Cp {A:Nat} (h:A<2^64):IntKind.wrap .u64 (A:Int)=A:=by
 rw[wrap_u64];omega
theorem Uv {n A:Nat} (h:A<2^n):(BitVec.ofInt n (A:Int)).toNat=A:=by
 rw[BitVec.ofInt_natCast,BitVec.toNat_ofNat];exact Nat.mod_eq_of_lt h
theorem bv_and {n A B:Nat} (hA:A<2^n) (hB:B<2^n):(BitVec.ofInt n (A:Int)&&&BitVec.ofInt n (B:Int)).toNat=A&&&B:=by
 rw[BitVec.toNat_and,Uv hA,Uv hB]
theorem u64_and {A B:Nat} (hA:A<2^64) (hB:B<2^64):IntKind.wrap .u64 ((BitVec.ofInt (IntKind.bits .u64) (A:Int)&&&BitVec.ofInt (IntKind.bits .u64) (B:Int)).toNat)=((A&&&B:Nat):Int):=by
 rw[bv_and (n:=IntKind.bits .u64) hA hB]
 exact Cp (Nat.lt_of_le_of_lt Nat.and_le_left hA)
theorem acH {m:Nat} (h:m<64):IntKind.wrap .u64 (1*2^(min m (IntKind.bits .u64)))=((2^m:Nat):Int):=by
 have e:min m (IntKind.bits .u64)=m:=Nat.min_eq_left (by show m≤64;omega)
 rw[e]
 have:(1*2^m:Int)=((2^m:Nat):Int):=by simp
 rw[this]
 exact Cp (Nat.pow_lt_pow_right (by omega) h)
theorem Nx {A m:Nat} (h:m<64):Int.fdiv (A:Int) (2^(min m (IntKind.bits .u64)))=((A/2^m:Nat):Int):=by
 have e:min m (IntKind.bits .u64)=m:=Nat.min_eq_left (by show m≤64;omega)
 rw[e]
 have:(2^m:Int)=((2^m:Nat):Int):=by simp
 rw[this,Int.fdiv_eq_ediv_of_nonneg _ (Int.natCast_nonneg _)]
 exact Int.natCast_ediv ..
end Go.AM
set_option maxRecDepth 100000
namespace Go.AM
open Go.Proofs
theorem lb:maxLen≤9223372036854775807:=by unfold maxLen;omega
theorem iK:bZ=35184372088832:=by unfold bZ;rfl
section
variable {α β:Type} {o:Option α} {a:α} {f:α→Option β} {r:Option β} {x y z:β} {b:Bool}
theorem bs (h:o=some a) (U:f a=r):o.bind f=r:=by rw[h];exact U
theorem bT (hb:b=true) (h:x=z):(bif b then x else y)=z:=by rw[hb];exact h
theorem bF (hb:b=false) (h:y=z):(bif b then x else y)=z:=by rw[hb];exact h
end
section
variable {X R A α:Type} {step:X→Option (X ⊕ R)}
theorem yN (good:Nat→Prop) [DecidablePred good] (n:Nat) (s:Nat→X) (bad ok:R) (h: ∀i,i<n→step (s i)=some (if good i then .inl (s (i+1)) else .inr bad)) (he:step (s n)=some (.inr ok)):
  Loop step (s 0)=some (if∀i,i<n→good i then ok else bad):=by
 have go: ∀(d k:Nat),k+d=n→((∀i,k≤i→i<n→good i)→Loop step (s k)=some ok)∧((¬∀i,k≤i→i<n→good i)→Loop step (s k)=some bad):=by
  intro d
  induction d with
  | zero=>
   intro k hk
   have:k=n:=by omega
   subst this
   exact ⟨fun _=>aV he,fun hx=>absurd (fun i h1 U=>by omega) hx⟩
  | succ d ih=>
   intro k hk
   have h1:=h k (by omega)
   by_cases hg:good k
   ·rw[aj hg] at h1
    rw[bQ h1]
    obtain ⟨i1,i2⟩:=ih (k+1) (by omega)
    refine ⟨fun ha=>i1 fun i h1 U=>ha i (by omega) U,fun ha=>i2 fun hx=>ha fun i h1 U=> ?_⟩
    by_cases hi:i=k
    ·rw[hi];exact hg
    ·exact hx i (by omega) U
   ·rw[an hg] at h1
    rw[aV h1]
    exact ⟨fun ha=>absurd (ha k (cl _) (by omega)) hg,fun _=>rfl⟩
 obtain ⟨g1,g2⟩:=go n 0 (by omega)
 by_cases ha: ∀i,i<n→good i
 ·rw[aj ha];exact g1 fun i _ h=>ha i h
 ·rw[an ha];exact g2 fun hx=>ha fun i h=>hx i (by omega) h
end
inductive Ex where
 | node (op bH:Int) (kids:List Ex)
namespace Ex
def op:Ex→Int| .node o _ _=>o
def bH:Ex→Int| .node _ l _=>l
def kids:Ex→List Ex| .node _ _ ks=>ks
theorem ind {p:Ex→Prop} (h: ∀o l ks,(∀k∈ks,p k)→p (.node o l ks)): ∀e,p e
 | .node o l ks=>h o l ks fun k hk=>ind h k
termination_by e=>SizeOf.sizeOf e
decreasing_by
 have:=Ey hk
 simp
 omega
mutual
def enc:Ex→V
 | .node o l ks=> .agg [.int .i64 o,.int .i64 l,.list aa (Cq ks)]
def Cq:List Ex→List V
 | []=>[]
 | k::ks=>enc k::Cq ks
end
theorem Uw: ∀ks,Cq ks=ks.map enc
 | []=>by simp only[Cq,fJ]
 | k::ks=>by simp only[Cq,cM,Uw ks]
theorem dA (e:Ex):e.enc= .agg [.int .i64 e.op,.int .i64 e.bH,.list aa (e.kids.map enc)]:=by
 cases e;simp only[enc,op,bH,kids,Uw]
mutual
def size:Ex→Nat
 | .node _ _ ks=>1+aR ks
def aR:List Ex→Nat
 | []=>0
 | k::ks=>size k+aR ks
end
mutual
def depth:Ex→Nat
 | .node _ _ ks=>1+c8 ks
def c8:List Ex→Nat
 | []=>0
 | k::ks=>max (depth k) (c8 ks)
end
theorem size_pos: ∀e:Ex,0<e.size
 | .node _ _ ks=>by simp only[size];omega
theorem acI: ∀e:Ex,0<e.depth
 | .node _ _ ks=>by simp only[depth];omega
theorem acJ: ∀e:Ex,e.depth≤e.size:=ind fun o l ks ih=>by
 have: ∀ks:List Ex,(∀k∈ks,k.depth≤k.size)→c8 ks≤aR ks:=by
  intro ks
  induction ks with
  | nil=>intro _;simp only[c8,aR];omega
  | cons k ks ih=>
   intro h
   have h1:=h k (by simp)
   have U:=ih fun k hk=>h k (by simp[hk])
   simp only[c8,aR];omega
 have:=this ks ih
 simp only[depth,size];omega
inductive Ok:Ex→Prop
 | node {o l:Int} {ks:List Ex}:(-9223372036854775808≤o∧o≤9223372036854775807)→(-9223372036854775808≤l∧l≤9223372036854775807)→ks.length≤maxLen→(∀k∈ks,Ok k)→Ok (.node o l ks)
theorem Ok.mG {o l:Int} {ks:List Ex} (h:Ok (.node o l ks)): ∀k∈ks,Ok k:=by cases h;assumption
theorem Ok.len {o l:Int} {ks:List Ex} (h:Ok (.node o l ks)):ks.length≤maxLen:=by cases h;assumption
end Ex
open Ex
abbrev bV (e:Ex) (l:List V):List V:= .int .i64 e.op:: .int .i64 e.bH:: .list aa (e.kids.map enc)::l
theorem I5: ∀(n:Nat) (x:V),SizeOf.sizeOf x<n→fV PG aa x→∃e:Ex,x=e.enc∧e.Ok
 | 0,x,h,_=>by omega
 | n+1,x,h,hw=>by
  obtain ⟨xs,rfl,hl,hx⟩:=hw.kb (by kernel_rfl)
  have e1:aW PG aa=[eL,eL,I4]:=by kernel_rfl
  rw[e1] at hl hx
  match xs,hl,hx,h with
  | [a,b,c],_,hx,h=>
   obtain ⟨o,rfl,ho⟩:=(hx 0 eL a rfl rfl).en (k:= .i64) (by kernel_rfl)
   obtain ⟨l,rfl,hl⟩:=(hx 1 eL b rfl rfl).en (k:= .i64) (by kernel_rfl)
   obtain ⟨es,rfl,he,jP⟩:=(hx 2 I4 c rfl rfl).Gx (e:=aa) (by kernel_rfl)
   have: ∃ks:List Ex,es=ks.map enc∧∀k∈ks,k.Ok:=BT fun y hy=>I5 n y (by
    have:=Ey hy
    simp at h
    omega) (jP y hy)
   obtain ⟨ks,rfl,bc⟩:=this
   refine ⟨.node o l ks,by rw[dA];rfl,.node ?_ ?_ (by simpa using he) bc⟩
   ·exact ho
   ·exact hl
noncomputable def Ux (C:ah) (ag aq:Int) (ae:LV) (letters:Int):Option LV:=
 bif decide ((letters:Int)<1) then
  some [V.int .i64 1]
 else
  bif decide ((letters:Int)>6) then
  some [V.int .i64 1]
  else
  (C GM [V.int .i64 ag,V.int .i64 aq,.list aa ae]).bind fun r1=>
  bif !((V.nth r1 0).toBool) then
   some [V.int .i64 3]
  else
   (C yu [V.int .i64 ag,V.int .i64 aq,.list aa ae,V.int .i64 letters]).bind fun r2=>
   bif !((V.nth r2 0).toBool) then
   some [V.int .i64 4]
   else
   some [V.int .i64 0]
theorem acK {ag aq:Int} {ae:LV} {letters:Int} {r:Option LV} (h:Ux CC ag aq ae letters=r):CC vI [V.int .i64 ag,V.int .i64 aq,.list aa ae,V.int .i64 letters]=r:=aY (L:=aZ) av h
noncomputable def Uy (C:ah) (ag aq:Int) (ae:LV):Option LV:=
 (C yx [V.int .i64 ag,V.int .i64 aq,.list aa ae,V.int .i64 40,V.int .i64 400]).bind fun r1=>
 some [.bool ((V.nth r1 0).toBool)]
theorem acL {ag aq:Int} {ae:LV} {r:Option LV} (h:Uy CC ag aq ae=r):CC GM [V.int .i64 ag,V.int .i64 aq,.list aa ae]=r:=aY (L:=aZ) av h
noncomputable def yO (C:ah) (depth:Int) (t23:LV) (t24 t25 oy:Int) {β:Type} (kn:(Int × Int)→Option β) (kr:((Bool × Int) ⊕ (Int × Bool × Int))→Option β):Option β:=
 bif decide ((t25:Int)<t24) then
  (idx t23 t25).bind fun x1=>
  (C yx [V.int .i64 ((x1.cell 0).toInt),V.int .i64 ((x1.cell 1).toInt),.list aa ((x1.cell 2).toList),V.int .i64 (IntKind.wrap .i64 (depth-1)),V.int .i64 oy]).bind fun r2=>
  bif !((V.nth r2 0).toBool) then
  kr (.inl (false,(V.nth (r2.drop 1) 0).toInt))
  else
  kn (IntKind.wrap .i64 (t25+1),(V.nth (r2.drop 1) 0).toInt)
 else
  kr (.inr (t25,decide ((t25:Int)<t24),oy))
noncomputable def vZ (C:ah) (depth:Int) (t23:LV) (t24:Int):=un fun t25 oy=>yO C depth t23 t24 t25 oy (fun y=>some (Sum.inl y)) (fun r=>some (Sum.inr r))
noncomputable def acM (C:ah):cr:=cq 81 MI [false,false,false,true,true] [[0,0],[1,2,3,0,0,0]] (@yO C) aZ
theorem acN (C:ah):bC C (acM C) 60 (Lp [1,1,1,0,1,0,0] 60):=cp MI [false,false,false,true,true] [[0,0],[1,2,3,0,0,0]] (@yO C) (a9 av)
noncomputable def Cr (C:ah) (ag aq:Int) (ae:LV) (depth oy:Int):Option LV:=
 bif (depth:Int)==0 then
  some [.bool false,V.int .i64 oy]
 else
  bif (oy:Int)==0 then
  some [.bool false,V.int .i64 oy]
  else
  (Loop (vZ C depth ae (ae.length:Int)) (0,IntKind.wrap .i64 (oy-1))).bind (cf (un fun (jz:Bool) (b_4:Int)=>
   some [.bool jz,V.int .i64 b_4]) (un fun (mH:Int)=>un fun (ld:Bool) (acO:Int)=>
   some [.bool true,V.int .i64 acO]))
theorem Hn {ag aq:Int} {ae:LV} {depth oy:Int} {r:Option LV} (h:Cr CC ag aq ae depth oy=r):CC yx [V.int .i64 ag,V.int .i64 aq,.list aa ae,V.int .i64 depth,V.int .i64 oy]=r:=aY (bB (acN CC) av) h
noncomputable def yP (C:ah) (letters:Int) (t53:LV) (t54 t55:Int) {β:Type} (kn:Int→Option β) (kr:((Bool) ⊕ (Int × Bool))→Option β):Option β:=
 bif decide ((t55:Int)<t54) then
  (idx t53 t55).bind fun x1=>
  (C yu [V.int .i64 ((x1.cell 0).toInt),V.int .i64 ((x1.cell 1).toInt),.list aa ((x1.cell 2).toList),V.int .i64 letters]).bind fun r2=>
  bif !((V.nth r2 0).toBool) then
  kr (.inl false)
  else
  kn (IntKind.wrap .i64 (t55+1))
 else
  kr (.inr (t55,decide ((t55:Int)<t54)))
noncomputable def gg (C:ah) (letters:Int) (t53:LV) (t54:Int):=fun t55=>yP C letters t53 t54 t55 (fun y=>some (Sum.inl y)) (fun r=>some (Sum.inr r))
noncomputable def acP (C:ah):cr:=cq 321 Mu [false,false,false,true] [[0],[1,2,3,0,0]] (@yP C) aZ
theorem acQ (C:ah):bC C (acP C) 44 (Lp [1,1,1,1,0,1,0,0] 44):=cp Mu [false,false,false,true] [[0],[1,2,3,0,0]] (@yP C) (a9 av)
noncomputable def Uz (C:ah) (ag aq:Int) (ae:LV) (letters:Int):Option LV:=
 bif (ag:Int)==3 then
  bif ((ae.length:Int):Int)==0 then
  bif decide ((aq:Int)≥0) then
   some [.bool (decide ((aq:Int)<letters))]
  else
   some [.bool false]
  else
  some [.bool false]
 else
  bif (aq:Int) != 0 then
  some [.bool false]
  else
  bif (ag:Int)==1 then
   bif (ag:Int)==1 then
   some [.bool (((ae.length:Int):Int)==0)]
   else
   bif (ag:Int)==4 then
    bif (ag:Int)==4 then
    bif decide (((ae.length:Int):Int)<2) then
     some [.bool false]
    else
     (Loop (gg C letters ae (ae.length:Int)) 0).bind (cf (fun (jz:Bool)=>
      some [.bool jz]) (un fun (ia:Int) (mH:Bool)=>
      some [.bool true]))
    else
    bif (ag:Int)==7 then
     bif (ag:Int)==7 then
     bif ((ae.length:Int):Int) != 1 then
      some [.bool false]
     else
      (Loop (gg C letters ae (ae.length:Int)) 0).bind (cf (fun (ld:Bool)=>
       some [.bool ld]) (un fun (pA:Int) (Ho:Bool)=>
       some [.bool true]))
     else
     some [.bool false]
    else
     bif (ag:Int)==8 then
     bif ((ae.length:Int):Int) != 1 then
      some [.bool false]
     else
      (Loop (gg C letters ae (ae.length:Int)) 0).bind (cf (fun (tH:Bool)=>
       some [.bool tH]) (un fun (yQ:Int) (Hp:Bool)=>
       some [.bool true]))
     else
     some [.bool false]
   else
    bif (ag:Int)==5 then
    bif (ag:Int)==5 then
     bif decide (((ae.length:Int):Int)<2) then
     some [.bool false]
     else
     (Loop (gg C letters ae (ae.length:Int)) 0).bind (cf (fun (Hq:Bool)=>
      some [.bool Hq]) (un fun (Ny:Int) (tI:Bool)=>
      some [.bool true]))
    else
     bif (ag:Int)==7 then
     bif (ag:Int)==7 then
      bif ((ae.length:Int):Int) != 1 then
      some [.bool false]
      else
      (Loop (gg C letters ae (ae.length:Int)) 0).bind (cf (fun (sa:Bool)=>
       some [.bool sa]) (un fun (Hr:Int) (Nz:Bool)=>
       some [.bool true]))
     else
      some [.bool false]
     else
     bif (ag:Int)==8 then
      bif ((ae.length:Int):Int) != 1 then
      some [.bool false]
      else
      (Loop (gg C letters ae (ae.length:Int)) 0).bind (cf (fun (NA:Bool)=>
       some [.bool NA]) (un fun (acR:Int) (NB:Bool)=>
       some [.bool true]))
     else
      some [.bool false]
    else
    bif (ag:Int)==6 then
     bif decide (((ae.length:Int):Int)<2) then
     some [.bool false]
     else
     (Loop (gg C letters ae (ae.length:Int)) 0).bind (cf (fun (Cs:Bool)=>
      some [.bool Cs]) (un fun (Hs:Int) (NC:Bool)=>
      some [.bool true]))
    else
     bif (ag:Int)==7 then
     bif (ag:Int)==7 then
      bif ((ae.length:Int):Int) != 1 then
      some [.bool false]
      else
      (Loop (gg C letters ae (ae.length:Int)) 0).bind (cf (fun (Ht:Bool)=>
       some [.bool Ht]) (un fun (acS:Int) (UA:Bool)=>
       some [.bool true]))
     else
      some [.bool false]
     else
     bif (ag:Int)==8 then
      bif ((ae.length:Int):Int) != 1 then
      some [.bool false]
      else
      (Loop (gg C letters ae (ae.length:Int)) 0).bind (cf (fun (UB:Bool)=>
       some [.bool UB]) (un fun (acT:Int) (ND:Bool)=>
       some [.bool true]))
     else
      some [.bool false]
  else
   bif (ag:Int)==2 then
   some [.bool (((ae.length:Int):Int)==0)]
   else
   bif (ag:Int)==4 then
    bif (ag:Int)==4 then
    bif decide (((ae.length:Int):Int)<2) then
     some [.bool false]
    else
     (Loop (gg C letters ae (ae.length:Int)) 0).bind (cf (fun (Hu:Bool)=>
      some [.bool Hu]) (un fun (alW:Int) (acU:Bool)=>
      some [.bool true]))
    else
    bif (ag:Int)==7 then
     bif (ag:Int)==7 then
     bif ((ae.length:Int):Int) != 1 then
      some [.bool false]
     else
      (Loop (gg C letters ae (ae.length:Int)) 0).bind (cf (fun (UC:Bool)=>
       some [.bool UC]) (un fun (acV:Int) (alX:Bool)=>
       some [.bool true]))
     else
     some [.bool false]
    else
     bif (ag:Int)==8 then
     bif ((ae.length:Int):Int) != 1 then
      some [.bool false]
     else
      (Loop (gg C letters ae (ae.length:Int)) 0).bind (cf (fun (UD:Bool)=>
       some [.bool UD]) (un fun (alY:Int) (UE:Bool)=>
       some [.bool true]))
     else
     some [.bool false]
   else
    bif (ag:Int)==5 then
    bif (ag:Int)==5 then
     bif decide (((ae.length:Int):Int)<2) then
     some [.bool false]
     else
     (Loop (gg C letters ae (ae.length:Int)) 0).bind (cf (fun (UF:Bool)=>
      some [.bool UF]) (un fun (alZ:Int) (al0:Bool)=>
      some [.bool true]))
    else
     bif (ag:Int)==7 then
     bif (ag:Int)==7 then
      bif ((ae.length:Int):Int) != 1 then
      some [.bool false]
      else
      (Loop (gg C letters ae (ae.length:Int)) 0).bind (cf (fun (UG:Bool)=>
       some [.bool UG]) (un fun (al1:Int) (al2:Bool)=>
       some [.bool true]))
     else
      some [.bool false]
     else
     bif (ag:Int)==8 then
      bif ((ae.length:Int):Int) != 1 then
      some [.bool false]
      else
      (Loop (gg C letters ae (ae.length:Int)) 0).bind (cf (fun (acW:Bool)=>
       some [.bool acW]) (un fun (acX:Int) (al3:Bool)=>
       some [.bool true]))
     else
      some [.bool false]
    else
    bif (ag:Int)==6 then
     bif decide (((ae.length:Int):Int)<2) then
     some [.bool false]
     else
     (Loop (gg C letters ae (ae.length:Int)) 0).bind (cf (fun (acY:Bool)=>
      some [.bool acY]) (un fun (acZ:Int) (ac0:Bool)=>
      some [.bool true]))
    else
     bif (ag:Int)==7 then
     bif (ag:Int)==7 then
      bif ((ae.length:Int):Int) != 1 then
      some [.bool false]
      else
      (Loop (gg C letters ae (ae.length:Int)) 0).bind (cf (fun (ac1:Bool)=>
       some [.bool ac1]) (un fun (al4:Int) (al5:Bool)=>
       some [.bool true]))
     else
      some [.bool false]
     else
     bif (ag:Int)==8 then
      bif ((ae.length:Int):Int) != 1 then
      some [.bool false]
      else
      (Loop (gg C letters ae (ae.length:Int)) 0).bind (cf (fun (UH:Bool)=>
       some [.bool UH]) (un fun (al6:Int) (al7:Bool)=>
       some [.bool true]))
     else
      some [.bool false]
theorem ac2 {ag aq:Int} {ae:LV} {letters:Int} {r:Option LV} (h:Uz CC ag aq ae letters=r):CC yu [V.int .i64 ag,V.int .i64 aq,.list aa ae,V.int .i64 letters]=r:=aY (bB (acQ CC) av) h
noncomputable def UI (C:ah) (ag aq:Int) (ae:LV) (letters:Int):Option LV:=
 (C GH [V.int .i64 letters]).bind fun r1=>
 bif !((V.nth r1 0).toBool) then
  some [V.int .i64 1]
 else
  (C BY [V.int .i64 ag,V.int .i64 aq,.list aa ae]).bind fun r2=>
  bif !((V.nth r2 0).toBool) then
  some [V.int .i64 3]
  else
  (C yo [V.int .i64 ag,V.int .i64 aq,.list aa ae,V.int .i64 letters]).bind fun r3=>
  bif !((V.nth r3 0).toBool) then
   some [V.int .i64 4]
  else
   some [V.int .i64 0]
theorem ac3 {ag aq:Int} {ae:LV} {letters:Int} {r:Option LV} (h:UI CC ag aq ae letters=r):CC qy [V.int .i64 ag,V.int .i64 aq,.list aa ae,V.int .i64 letters]=r:=aY (L:=aZ) av h
noncomputable def UJ (C:ah) (ag aq:Int) (ae:LV):Option LV:=
 (C vJ [V.int .i64 ag,V.int .i64 aq,.list aa ae,V.int .i64 400]).bind fun r1=>
 bif decide ((((V.nth r1 0).toInt):Int)≤400) then
  some [.bool (decide ((((V.nth (r1.drop 1) 0).toInt):Int)≤40))]
 else
  some [.bool false]
theorem ac4 {ag aq:Int} {ae:LV} {r:Option LV} (h:UJ CC ag aq ae=r):CC BY [V.int .i64 ag,V.int .i64 aq,.list aa ae]=r:=aY (L:=aZ) av h
noncomputable def yR (C:ah) (c9 dN dy:Int) (cV:LV) (n deep i:Int) {β:Type} (kn:(Int × Int × Int)→Option β) (kr:(Int × Int × Int × Bool)→Option β):Option β:=
 bif decide ((i:Int)<(cV.length:Int)) then
  bif decide ((n:Int)≤c9) then
  (idx cV i).bind fun x1=>
  (C vJ [V.int .i64 ((x1.cell 0).toInt),V.int .i64 ((x1.cell 1).toInt),.list aa ((x1.cell 2).toList),V.int .i64 c9]).bind fun r2=>
  kn (if (IntKind.wrap .i64 (c9+1))<(IntKind.wrap .i64 (n+((V.nth r2 0).toInt))) then (IntKind.wrap .i64 (c9+1)) else (IntKind.wrap .i64 (n+((V.nth r2 0).toInt))),if ((V.nth (r2.drop 1) 0).toInt)>deep then ((V.nth (r2.drop 1) 0).toInt) else deep,IntKind.wrap .i64 (i+1))
  else
  kr (n,deep,i,decide ((n:Int)≤c9))
 else
  kr (n,deep,i,false)
noncomputable def yS (C:ah) (c9 dN dy:Int) (cV:LV):=un fun n=>un fun deep i=>yR C c9 dN dy cV n deep i (fun y=>some (Sum.inl y)) (fun r=>some (Sum.inr r))
noncomputable def ac5 (C:ah):cr:=cq 49 Mq [false,true,true,true,false,false,false] [[1,0,0,0,0,5,6,7]] (@yR C) aZ
theorem ac6 (C:ah):bC C (ac5 C) 35 (Lp [1,1,0,1,0,0] 35):=cp Mq [false,true,true,true,false,false,false] [[1,0,0,0,0,5,6,7]] (@yR C) (a9 av)
noncomputable def UK (C:ah) (ag aq:Int) (ae:LV) (c9:Int):Option LV:=
 (Loop (yS C c9 ag aq ae) (1,0,0)).bind (un fun (n_3:Int)=>un fun (ac7:Int)=>un fun (dm:Int) (ld:Bool)=>
  some [V.int .i64 n_3,V.int .i64 (IntKind.wrap .i64 (ac7+1))])
theorem ac8 {ag aq:Int} {ae:LV} {c9:Int} {r:Option LV} (h:UK CC ag aq ae c9=r):CC vJ [V.int .i64 ag,V.int .i64 aq,.list aa ae,V.int .i64 c9]=r:=aY (bB (ac6 CC) av) h
noncomputable def dE (C:ah) (letters k':Int) (ok t39:Bool) (dN dy:Int) (cV:LV) {β:Type} (kr:(Bool)→Option β):Option β:=
 bif t39 then
  bif ok then
  bif decide ((dy:Int)≥0) then
   kr (decide ((dy:Int)<letters))
  else
   kr false
  else
  kr false
 else
  bif ok then
  kr ((dy:Int)==0)
  else
  kr false
noncomputable def yT (C:ah) (letters k' dN dy:Int) (cV:LV) (ok:Bool) (i:Int) {β:Type} (kn:(Bool × Int)→Option β) (kr:(Bool × Int × Bool)→Option β):Option β:=
 bif decide ((i:Int)<k') then
  bif ok then
  (idx cV i).bind fun x2=>
  (C yo [V.int .i64 ((x2.cell 0).toInt),V.int .i64 ((x2.cell 1).toInt),.list aa ((x2.cell 2).toList),V.int .i64 letters]).bind fun r3=>
  kn ((V.nth r3 0).toBool,IntKind.wrap .i64 (i+1))
  else
  kr (ok,i,ok)
 else
  kr (ok,i,false)
noncomputable def dz (C:ah) (letters k' dN dy:Int) (cV:LV):=un fun ok i=>yT C letters k' dN dy cV ok i (fun y=>some (Sum.inl y)) (fun r=>some (Sum.inr r))
noncomputable def UL (C:ah):cr:=hY 639 Mg [[1,2,0,5,6,7]] (@dE C) (cq 257 Mh [false,false,true,true,false,false,false] [[1,2,0,0,0,5,6,7]] (@yT C) aZ)
theorem ac9 (C:ah):bC C (UL C) 21 (Cd 39 [1,1,1,1,0,1,0] [1,1,1,1,0,1,1] 21):=hX Mg [[1,2,0,5,6,7]] (@dE C) (a9 av) (a9 av)
theorem ada (C:ah):bC C (UL C) 21 (Lp [1,1,1,1,1,0,1,0,0] 21):=cp Mh [false,false,true,true,false,false,false] [[1,2,0,0,0,5,6,7]] (@yT C) (a9 av)
noncomputable def UM (C:ah) (ag aq:Int) (ae:LV) (letters:Int):Option LV:=
 bif decide ((ag:Int)≥1) then
  bif (ag:Int)==1 then
  bif (ag:Int)==1 then
   dE C letters (ae.length:Int) (((ae.length:Int):Int)==0) ((ag:Int)==3) ag aq ae (fun (adb:Bool)=>
    (Loop (dz C letters (ae.length:Int) ag aq ae) (adb,0)).bind (un fun (ade:Bool)=>un fun (dm:Int) (ld:Bool)=>
     some [.bool ade]))
  else
   bif (ag:Int)==7 then
   bif (ag:Int)==7 then
    dE C letters (ae.length:Int) (((ae.length:Int):Int)==1) ((ag:Int)==3) ag aq ae (fun (adf:Bool)=>
     (Loop (dz C letters (ae.length:Int) ag aq ae) (adf,0)).bind (un fun (adg:Bool)=>un fun (i_9:Int) (yQ:Bool)=>
      some [.bool adg]))
   else
    bif decide ((ag:Int)≤8) then
    dE C letters (ae.length:Int) (decide (((ae.length:Int):Int)≥2)) ((ag:Int)==3) ag aq ae (fun (adh:Bool)=>
     (Loop (dz C letters (ae.length:Int) ag aq ae) (adh,0)).bind (un fun (adi:Bool)=>un fun (al8:Int) (tI:Bool)=>
      some [.bool adi]))
    else
    dE C letters (ae.length:Int) false ((ag:Int)==3) ag aq ae (fun (adj:Bool)=>
     (Loop (dz C letters (ae.length:Int) ag aq ae) (adj,0)).bind (un fun (adk:Bool)=>un fun (al9:Int) (NA:Bool)=>
      some [.bool adk]))
   else
   bif (ag:Int)==8 then
    dE C letters (ae.length:Int) (((ae.length:Int):Int)==1) ((ag:Int)==3) ag aq ae (fun (adl:Bool)=>
     (Loop (dz C letters (ae.length:Int) ag aq ae) (adl,0)).bind (un fun (adm:Bool)=>un fun (ama:Int) (Hs:Bool)=>
      some [.bool adm]))
   else
    bif decide ((ag:Int)≤8) then
    dE C letters (ae.length:Int) (decide (((ae.length:Int):Int)≥2)) ((ag:Int)==3) ag aq ae (fun (adn:Bool)=>
     (Loop (dz C letters (ae.length:Int) ag aq ae) (adn,0)).bind (un fun (ado:Bool)=>un fun (amb:Int) (UA:Bool)=>
      some [.bool ado]))
    else
    dE C letters (ae.length:Int) false ((ag:Int)==3) ag aq ae (fun (adp:Bool)=>
     (Loop (dz C letters (ae.length:Int) ag aq ae) (adp,0)).bind (un fun (adq:Bool)=>un fun (amc:Int) (Hu:Bool)=>
      some [.bool adq]))
  else
  bif (ag:Int)==2 then
   bif (ag:Int)==2 then
   dE C letters (ae.length:Int) (((ae.length:Int):Int)==0) ((ag:Int)==3) ag aq ae (fun (adr:Bool)=>
    (Loop (dz C letters (ae.length:Int) ag aq ae) (adr,0)).bind (un fun (ads:Bool)=>un fun (amd:Int) (acV:Bool)=>
     some [.bool ads]))
   else
   bif (ag:Int)==7 then
    bif (ag:Int)==7 then
    dE C letters (ae.length:Int) (((ae.length:Int):Int)==1) ((ag:Int)==3) ag aq ae (fun (adt:Bool)=>
     (Loop (dz C letters (ae.length:Int) ag aq ae) (adt,0)).bind (un fun (adu:Bool)=>un fun (adv:Int) (UE:Bool)=>
      some [.bool adu]))
    else
    bif decide ((ag:Int)≤8) then
     dE C letters (ae.length:Int) (decide (((ae.length:Int):Int)≥2)) ((ag:Int)==3) ag aq ae (fun (adw:Bool)=>
      (Loop (dz C letters (ae.length:Int) ag aq ae) (adw,0)).bind (un fun (adx:Bool)=>un fun (ame:Int) (UG:Bool)=>
       some [.bool adx]))
    else
     dE C letters (ae.length:Int) false ((ag:Int)==3) ag aq ae (fun (ady:Bool)=>
      (Loop (dz C letters (ae.length:Int) ag aq ae) (ady,0)).bind (un fun (adz:Bool)=>un fun (amf:Int) (acX:Bool)=>
       some [.bool adz]))
   else
    bif (ag:Int)==8 then
    dE C letters (ae.length:Int) (((ae.length:Int):Int)==1) ((ag:Int)==3) ag aq ae (fun (adA:Bool)=>
     (Loop (dz C letters (ae.length:Int) ag aq ae) (adA,0)).bind (un fun (adB:Bool)=>un fun (amg:Int) (ac0:Bool)=>
      some [.bool adB]))
    else
    bif decide ((ag:Int)≤8) then
     dE C letters (ae.length:Int) (decide (((ae.length:Int):Int)≥2)) ((ag:Int)==3) ag aq ae (fun (adC:Bool)=>
      (Loop (dz C letters (ae.length:Int) ag aq ae) (adC,0)).bind (un fun (adD:Bool)=>un fun (amh:Int) (UH:Bool)=>
       some [.bool adD]))
    else
     dE C letters (ae.length:Int) false ((ag:Int)==3) ag aq ae (fun (adE:Bool)=>
      (Loop (dz C letters (ae.length:Int) ag aq ae) (adE,0)).bind (un fun (adF:Bool)=>un fun (ami:Int) (amj:Bool)=>
       some [.bool adF]))
  else
   bif (ag:Int)==3 then
   dE C letters (ae.length:Int) (((ae.length:Int):Int)==0) ((ag:Int)==3) ag aq ae (fun (adG:Bool)=>
    (Loop (dz C letters (ae.length:Int) ag aq ae) (adG,0)).bind (un fun (adH:Bool)=>un fun (amk:Int) (aml:Bool)=>
     some [.bool adH]))
   else
   bif (ag:Int)==7 then
    bif (ag:Int)==7 then
    dE C letters (ae.length:Int) (((ae.length:Int):Int)==1) ((ag:Int)==3) ag aq ae (fun (adI:Bool)=>
     (Loop (dz C letters (ae.length:Int) ag aq ae) (adI,0)).bind (un fun (adJ:Bool)=>un fun (amm:Int) (amn:Bool)=>
      some [.bool adJ]))
    else
    bif decide ((ag:Int)≤8) then
     dE C letters (ae.length:Int) (decide (((ae.length:Int):Int)≥2)) ((ag:Int)==3) ag aq ae (fun (adK:Bool)=>
      (Loop (dz C letters (ae.length:Int) ag aq ae) (adK,0)).bind (un fun (adL:Bool)=>un fun (amo:Int) (amp:Bool)=>
       some [.bool adL]))
    else
     dE C letters (ae.length:Int) false ((ag:Int)==3) ag aq ae (fun (adM:Bool)=>
      (Loop (dz C letters (ae.length:Int) ag aq ae) (adM,0)).bind (un fun (adN:Bool)=>un fun (amq:Int) (amr:Bool)=>
       some [.bool adN]))
   else
    bif (ag:Int)==8 then
    dE C letters (ae.length:Int) (((ae.length:Int):Int)==1) ((ag:Int)==3) ag aq ae (fun (adO:Bool)=>
     (Loop (dz C letters (ae.length:Int) ag aq ae) (adO,0)).bind (un fun (adP:Bool)=>un fun (ams:Int) (amt:Bool)=>
      some [.bool adP]))
    else
    bif decide ((ag:Int)≤8) then
     dE C letters (ae.length:Int) (decide (((ae.length:Int):Int)≥2)) ((ag:Int)==3) ag aq ae (fun (adQ:Bool)=>
      (Loop (dz C letters (ae.length:Int) ag aq ae) (adQ,0)).bind (un fun (adR:Bool)=>un fun (amu:Int) (amv:Bool)=>
       some [.bool adR]))
    else
     dE C letters (ae.length:Int) false ((ag:Int)==3) ag aq ae (fun (adS:Bool)=>
      (Loop (dz C letters (ae.length:Int) ag aq ae) (adS,0)).bind (un fun (adT:Bool)=>un fun (amw:Int) (amx:Bool)=>
       some [.bool adT]))
 else
  bif (ag:Int)==1 then
  bif (ag:Int)==1 then
   dE C letters (ae.length:Int) (((ae.length:Int):Int)==0) ((ag:Int)==3) ag aq ae (fun (adU:Bool)=>
    (Loop (dz C letters (ae.length:Int) ag aq ae) (adU,0)).bind (un fun (adV:Bool)=>un fun (amy:Int) (amz:Bool)=>
     some [.bool adV]))
  else
   bif (ag:Int)==7 then
   bif (ag:Int)==7 then
    dE C letters (ae.length:Int) (((ae.length:Int):Int)==1) ((ag:Int)==3) ag aq ae (fun (adW:Bool)=>
     (Loop (dz C letters (ae.length:Int) ag aq ae) (adW,0)).bind (un fun (adX:Bool)=>un fun (amA:Int) (amB:Bool)=>
      some [.bool adX]))
   else
    dE C letters (ae.length:Int) false ((ag:Int)==3) ag aq ae (fun (adY:Bool)=>
     (Loop (dz C letters (ae.length:Int) ag aq ae) (adY,0)).bind (un fun (adZ:Bool)=>un fun (amC:Int) (amD:Bool)=>
      some [.bool adZ]))
   else
   bif (ag:Int)==8 then
    dE C letters (ae.length:Int) (((ae.length:Int):Int)==1) ((ag:Int)==3) ag aq ae (fun (ad0:Bool)=>
     (Loop (dz C letters (ae.length:Int) ag aq ae) (ad0,0)).bind (un fun (ad1:Bool)=>un fun (amE:Int) (amF:Bool)=>
      some [.bool ad1]))
   else
    dE C letters (ae.length:Int) false ((ag:Int)==3) ag aq ae (fun (ad2:Bool)=>
     (Loop (dz C letters (ae.length:Int) ag aq ae) (ad2,0)).bind (un fun (ad3:Bool)=>un fun (amG:Int) (amH:Bool)=>
      some [.bool ad3]))
  else
  bif (ag:Int)==2 then
   bif (ag:Int)==2 then
   dE C letters (ae.length:Int) (((ae.length:Int):Int)==0) ((ag:Int)==3) ag aq ae (fun (ad4:Bool)=>
    (Loop (dz C letters (ae.length:Int) ag aq ae) (ad4,0)).bind (un fun (ad5:Bool)=>un fun (amI:Int) (amJ:Bool)=>
     some [.bool ad5]))
   else
   bif (ag:Int)==7 then
    bif (ag:Int)==7 then
    dE C letters (ae.length:Int) (((ae.length:Int):Int)==1) ((ag:Int)==3) ag aq ae (fun (ad6:Bool)=>
     (Loop (dz C letters (ae.length:Int) ag aq ae) (ad6,0)).bind (un fun (ad7:Bool)=>un fun (amK:Int) (amL:Bool)=>
      some [.bool ad7]))
    else
    dE C letters (ae.length:Int) false ((ag:Int)==3) ag aq ae (fun (ad8:Bool)=>
     (Loop (dz C letters (ae.length:Int) ag aq ae) (ad8,0)).bind (un fun (ad9:Bool)=>un fun (amM:Int) (amN:Bool)=>
      some [.bool ad9]))
   else
    bif (ag:Int)==8 then
    dE C letters (ae.length:Int) (((ae.length:Int):Int)==1) ((ag:Int)==3) ag aq ae (fun (aea:Bool)=>
     (Loop (dz C letters (ae.length:Int) ag aq ae) (aea,0)).bind (un fun (aeb:Bool)=>un fun (amO:Int) (amP:Bool)=>
      some [.bool aeb]))
    else
    dE C letters (ae.length:Int) false ((ag:Int)==3) ag aq ae (fun (aec:Bool)=>
     (Loop (dz C letters (ae.length:Int) ag aq ae) (aec,0)).bind (un fun (aed:Bool)=>un fun (amQ:Int) (amR:Bool)=>
      some [.bool aed]))
  else
   bif (ag:Int)==3 then
   dE C letters (ae.length:Int) (((ae.length:Int):Int)==0) ((ag:Int)==3) ag aq ae (fun (aee:Bool)=>
    (Loop (dz C letters (ae.length:Int) ag aq ae) (aee,0)).bind (un fun (aef:Bool)=>un fun (amS:Int) (amT:Bool)=>
     some [.bool aef]))
   else
   bif (ag:Int)==7 then
    bif (ag:Int)==7 then
    dE C letters (ae.length:Int) (((ae.length:Int):Int)==1) ((ag:Int)==3) ag aq ae (fun (aeg:Bool)=>
     (Loop (dz C letters (ae.length:Int) ag aq ae) (aeg,0)).bind (un fun (aeh:Bool)=>un fun (amU:Int) (amV:Bool)=>
      some [.bool aeh]))
    else
    dE C letters (ae.length:Int) false ((ag:Int)==3) ag aq ae (fun (aei:Bool)=>
     (Loop (dz C letters (ae.length:Int) ag aq ae) (aei,0)).bind (un fun (aej:Bool)=>un fun (amW:Int) (amX:Bool)=>
      some [.bool aej]))
   else
    bif (ag:Int)==8 then
    dE C letters (ae.length:Int) (((ae.length:Int):Int)==1) ((ag:Int)==3) ag aq ae (fun (aek:Bool)=>
     (Loop (dz C letters (ae.length:Int) ag aq ae) (aek,0)).bind (un fun (ael:Bool)=>un fun (amY:Int) (amZ:Bool)=>
      some [.bool ael]))
    else
    dE C letters (ae.length:Int) false ((ag:Int)==3) ag aq ae (fun (aem:Bool)=>
     (Loop (dz C letters (ae.length:Int) ag aq ae) (aem,0)).bind (un fun (aen:Bool)=>un fun (am0:Int) (am1:Bool)=>
      some [.bool aen]))
theorem aeo {ag aq:Int} {ae:LV} {letters:Int} {r:Option LV} (h:UM CC ag aq ae letters=r):CC yo [V.int .i64 ag,V.int .i64 aq,.list aa ae,V.int .i64 letters]=r:=aY (bB (ac9 CC) (bB (ada CC) av)) h
noncomputable def UN (C:ah) (letters:Int):Option LV:=
 bif decide ((letters:Int)≥1) then
  some [.bool (decide ((letters:Int)≤6))]
 else
  some [.bool false]
theorem aep {letters:Int} {r:Option LV} (h:UN CC letters=r):CC GH [V.int .i64 letters]=r:=aY (L:=aZ) av h
end Go.AM
set_option maxRecDepth 100000
namespace Go.AM
open Go.Proofs Ex
theorem gM (pre ay:List Ex) (k:Ex):idx ((pre++k::ay).map enc) (pre.length:Int)=some k.enc:=by
 rw[Lk];simp
theorem bu (k:Ex):(k.enc.cell 0).toInt=k.op:=by rw[dA];simp
theorem bE (k:Ex):(k.enc.cell 1).toInt=k.bH:=by rw[dA];simp
theorem bD (k:Ex):(k.enc.cell 2).toList=k.kids.map enc:=by rw[dA];simp
theorem aeq {ks:List Ex} (hlen:ks.length≤maxLen) {d:Int} (hd:0≤d∧d≤1000) (ih: ∀k∈ks,∀d l:Int,0≤d→d≤1000→0≤l→l≤1000→∃l',CC yx (bV k [.int .i64 d,.int .i64 l])=some [.bool (decide ((k.depth:Int)≤d∧(k.size:Int)≤l)),.int .i64 l']∧0≤l'∧l'≤l∧(((k.depth:Int)≤d∧(k.size:Int)≤l)→l'=l-k.size)):
  ∀(ay pre:List Ex) (l:Int),ks=pre++ay→0≤l→l≤1000→1≤d→
  (∃l':Int,Loop (vZ CC d (ks.map enc) ((ks.map enc).length:Int)) (((pre.length:Nat):Int),l)=some (.inl (false,l'))∧¬((c8 ay:Int)≤d-1∧(aR ay:Int)≤l)∧0≤l'∧l'≤l)∨
  (∃i b,Loop (vZ CC d (ks.map enc) ((ks.map enc).length:Int)) (((pre.length:Nat):Int),l)=some (.inr (i,b,l-aR ay))∧((c8 ay:Int)≤d-1∧(aR ay:Int)≤l)):=by
 intro ay
 induction ay with
 | nil=>
  intro pre l bc h0 h1 F8
  subst bc
  refine .inr ⟨((pre.length:Nat):Int),false,?_,?_⟩
  ·have hz:l-((aR ([]:List Ex):Nat):Int)=l:=by simp only[aR];omega
   rw[hz]
   refine aV ?_
   simp only[vZ,yO,un,dr,aK,aA]
   rw[aM]
   simp
  ·simp only[c8,aR];omega
 | cons k ay eF=>
  intro pre l bc h0 h1 F8
  obtain ⟨l',e1,e2,e3,e4⟩:=ih k (by rw[bc];simp) (d-1) l (by omega) (by omega) h0 h1
  have ch:pre.length<ks.length:=by rw[bc];simp
  have:=lb
  have bY:idx (ks.map enc) (pre.length:Int)=some k.enc:=by rw[bc];exact gM _ _ _
  by_cases hk:(k.depth:Int)≤d-1∧(k.size:Int)≤l
  ·have dc:vZ CC d (ks.map enc) ((ks.map enc).length:Int) (((pre.length:Nat):Int),l)=some (.inl ((((pre++[k]).length:Nat):Int),l')):=by
    simp only[vZ,yO,un,aK,aA]
    rw[bf,bY]
    simp only[Option.bind_some,bu,bE,bD]
    rw[bP,e1]
    simp only[Option.bind_some,V.aQ,V.dD,cz hk,qS,cond_false,lr,jF,V.toInt_int]
    rw[bP]
    simp
   rw[bQ dc]
   have e5:=e4 hk
   rcases eF (pre++[k]) l' (by rw[bc];simp) e2 (by omega) F8 with ⟨l2,q1,q2,q3,q4⟩|⟨i,b,q1,q2⟩
   ·refine .inl ⟨l2,q1,?_,q3,by omega⟩
    simp only[c8,aR];omega
   ·refine .inr ⟨i,b,q1.trans ?_,?_⟩
    ·simp only[aR]
     congr 4
     omega
    ·simp only[c8,aR];omega
  ·refine .inl ⟨l',aV ?_,?_,e2,e3⟩
   ·simp only[vZ,yO,un,aK,aA]
    rw[bf,bY]
    simp only[Option.bind_some,bu,bE,bD]
    rw[bP,e1]
    simp only[Option.bind_some,V.aQ,V.dD,cI hk,uz,cond_true,lr,jF,V.toInt_int]
   ·simp only[c8,aR];omega
theorem aer: ∀e:Ex,e.Ok→∀d l:Int,0≤d→d≤1000→0≤l→l≤1000→
  ∃l',CC yx (bV e [.int .i64 d,.int .i64 l])=some [.bool (decide ((e.depth:Int)≤d∧(e.size:Int)≤l)),.int .i64 l']∧0≤l'∧l'≤l∧(((e.depth:Int)≤d∧(e.size:Int)≤l)→l'=l-e.size):=
 ind fun o lt ks ih ar d l h1 U h3 h4=>by
  have iC: ∀k∈ks,_:=fun k hk=>ih k hk (ar.mG k hk)
  have hs: ∀e:Ex,e= .node o lt ks→e.size=1+aR ks∧e.depth=1+c8 ks:=by rintro e rfl;constructor<;>simp only[size,depth]
  obtain ⟨s1,s2⟩:=hs _ rfl
  by_cases hd:d=0
  ·have hn: ¬(((Ex.node o lt ks).depth:Int)≤d∧((Ex.node o lt ks).size:Int)≤l):=by omega
   refine ⟨l,Hn ?_,h3,Int.le_refl _,fun h=>absurd h hn⟩
   simp only[Cr,dx,aj hd,cI hn]
  ·by_cases hl:l=0
   ·have hn: ¬(((Ex.node o lt ks).depth:Int)≤d∧((Ex.node o lt ks).size:Int)≤l):=by omega
    refine ⟨l,Hn ?_,h3,Int.le_refl _,fun h=>absurd h hn⟩
    simp only[Cr,dx,an hd,aj hl,cI hn]
   ·rcases aeq ar.len ⟨h1,U⟩ iC ks [] (l-1) rfl (by omega) (by omega) (by omega) with ⟨l',q1,q2,q3,q4⟩|⟨i,b,q1,q2⟩
    ·have hn: ¬(((Ex.node o lt ks).depth:Int)≤d∧((Ex.node o lt ks).size:Int)≤l):=by omega
     refine ⟨l',Hn ?_,q3,by omega,fun h=>absurd h hn⟩
     simp only[Cr,dx,an hd,an hl,cI hn,Ex.kids]
     rw[bP]
     simp only[List.length_nil,Int.ofNat_zero,Int.natCast_zero] at q1
     erw [q1]
     rfl
    ·have hn:(((Ex.node o lt ks).depth:Int)≤d∧((Ex.node o lt ks).size:Int)≤l):=by omega
     refine ⟨l-1-aR ks,Hn ?_,by omega,by omega,fun _=>by omega⟩
     simp only[Cr,dx,an hd,an hl,cz hn,Ex.kids]
     rw[bP]
     simp only[List.length_nil,Int.ofNat_zero,Int.natCast_zero] at q1
     erw [q1]
     rfl
theorem aes (e:Ex) (h:e.Ok):CC GM (bV e [])=some [.bool (decide (e.depth≤40∧e.size≤400))]:=by
 obtain ⟨l',e1,_⟩:=aer e h 40 400 (by omega) (by omega) (by omega) (by omega)
 refine acL ?_
 simp only[Uy]
 rw[e1]
 simp only[Option.bind_some,V.aQ,V.dD]
 congr 3
 rw[Al]
 omega
theorem aet {ks:List Ex} (hlen:ks.length≤maxLen) {a b c9:Int} (hm:1≤c9∧c9≤1000) (ih: ∀k∈ks,∃d,CC vJ (bV k [.int .i64 c9])=some [.int .i64 (min (k.size:Int) (c9+1)),.int .i64 d]∧((k.size:Int)≤c9→d=k.depth)):
  ∀(ay pre:List Ex) (n deep:Int),ks=pre++ay→1≤n→n≤c9+1→0≤deep→
  ∃yU i b',Loop (yS CC c9 a b (ks.map enc)) (n,deep,((pre.length:Nat):Int))=some (min (n+(aR ay:Int)) (c9+1),yU,i,b')∧(n+(aR ay:Int)≤c9→yU=max deep (c8 ay)):=by
 intro ay
 induction ay with
 | nil=>
  intro pre n deep bc h0 h1 hdp
  subst bc
  refine ⟨deep,((pre.length:Nat):Int),false,?_,fun _=> ?_⟩
  ·have hz:min (n+((aR ([]:List Ex):Nat):Int)) (c9+1)=n:=by simp only[aR];omega
   rw[hz]
   refine aV ?_
   simp only[yS,yR,un,dr,aK,aA]
   rw[aM]
  ·simp only[c8];omega
 | cons k ay eF=>
  intro pre n deep bc h0 h1 hdp
  have ch:pre.length<ks.length:=by rw[bc];simp
  have:=lb
  have bY:idx (ks.map enc) (pre.length:Int)=some k.enc:=by rw[bc];exact gM _ _ _
  have hkp:=size_pos k
  by_cases hn:n≤c9
  ·obtain ⟨d,e1,e2⟩:=ih k (by rw[bc];simp)
   have dc: ∃dd,yS CC c9 a b (ks.map enc) (n,deep,((pre.length:Nat):Int))=some (.inl (min (n+(k.size:Int)) (c9+1),dd,(((pre++[k]).length:Nat):Int)))∧dd=max deep d:=by
    refine ⟨max deep d,?_,rfl⟩
    simp only[yS,yR,un,aK,aA]
    rw[bf,aj hn,bY]
    simp only[Option.bind_some,bu,bE,bD]
    rw[e1]
    simp only[Option.bind_some,V.aQ,lr,jF,V.toInt_int]
    rw[bP,bP,bP]
    have r1:(if c9+1<n+min (k.size:Int) (c9+1) then c9+1 else n+min (k.size:Int) (c9+1))=min (n+(k.size:Int)) (c9+1):=by split<;>omega
    have r2:(if d>deep then d else deep)=max deep d:=by split<;>omega
    rw[r1,r2]
    simp
   obtain ⟨dd,iz,rfl⟩:=dc
   rw[bQ iz]
   obtain ⟨yU,i,b',q1,q2⟩:=eF (pre++[k]) (min (n+(k.size:Int)) (c9+1)) (max deep d) (by rw[bc];simp) (by omega) (by omega) (by omega)
   refine ⟨yU,i,b',q1.trans ?_,fun h=> ?_⟩
   ·simp only[aR]
    congr 2
    omega
   ·simp only[aR] at h
    rw[q2 (by omega),e2 (by omega)]
    simp only[c8]
    omega
  ·refine ⟨deep,((pre.length:Nat):Int),false,?_,fun h=> ?_⟩
   ·have hz:min (n+((aR (k::ay):Nat):Int)) (c9+1)=n:=by simp only[aR];omega
    rw[hz]
    refine aV ?_
    simp only[yS,yR,un,aK,aA]
    rw[bf,an hn]
    simp[hn]
   ·omega
theorem UO: ∀e:Ex,e.Ok→∀c9:Int,1≤c9→c9≤1000→∃d,CC vJ (bV e [.int .i64 c9])=some [.int .i64 (min (e.size:Int) (c9+1)),.int .i64 d]∧((e.size:Int)≤c9→d=e.depth):=
 ind fun o lt ks ih ar c9 h1 U=>by
  obtain ⟨yU,i,b',q1,q2⟩:=aet (a:=o) (b:=lt) ar.len ⟨h1,U⟩ (fun k hk=>ih k hk (ar.mG k hk) c9 h1 U) ks [] 1 0 rfl (by omega) (by omega) (by omega)
  have s1:(Ex.node o lt ks).size=1+aR ks:=by simp only[size]
  have s2:(Ex.node o lt ks).depth=1+c8 ks:=by simp only[depth]
  have s3:=acJ (.node o lt ks)
  refine ⟨IntKind.wrap .i64 (yU+1),ac8 ?_,fun h=> ?_⟩
  ·simp only[UK,Ex.kids,Ex.op,Ex.bH]
   simp only[List.length_nil,Int.ofNat_zero,Int.natCast_zero] at q1
   erw [q1]
   simp only[Option.bind_some,un]
   rw[show (1:Int)+(aR ks:Int)=((Ex.node o lt ks).size:Int) by omega]
  ·rw[q2 (by omega),bP]
   omega
def ee (o l len letters:Int):Bool:=
 if o=3 then decide (len=0∧0≤l∧l<letters)
 else decide (l=0)&&(if o=1∨o=2 then decide (len=0) else if o=7∨o=8 then decide (len=1) else decide (4≤o∧o≤6∧2≤len))
mutual
def Ex.wf (letters:Int):Ex→Bool
 | .node o l ks=>ee o l ks.length letters&&iL letters ks
def Ex.iL (letters:Int):List Ex→Bool
 | []=>true
 | k::ks=>Ex.wf letters k&&iL letters ks
end
theorem aeu {ks:List Ex} (hlen:ks.length≤maxLen) {letters:Int} (ih: ∀k∈ks,CC yu (bV k [.int .i64 letters])=some [.bool (k.wf letters)]):
  ∀(ay pre:List Ex),ks=pre++ay→
  (Loop (gg CC letters (ks.map enc) ((ks.map enc).length:Int)) ((pre.length:Nat):Int)=some (.inl false)∧iL letters ay=false)∨
  (∃i b,Loop (gg CC letters (ks.map enc) ((ks.map enc).length:Int)) ((pre.length:Nat):Int)=some (.inr (i,b))∧iL letters ay=true):=by
 intro ay
 induction ay with
 | nil=>
  intro pre bc
  subst bc
  refine .inr ⟨((pre.length:Nat):Int),false,aV ?_,by simp only[iL]⟩
  simp only[gg,yP,dr,aK,aA]
  rw[aM]
  simp
 | cons k ay eF=>
  intro pre bc
  have ch:pre.length<ks.length:=by rw[bc];simp
  have:=lb
  have bY:idx (ks.map enc) (pre.length:Int)=some k.enc:=by rw[bc];exact gM _ _ _
  have e1:=ih k (by rw[bc];simp)
  cases hw:k.wf letters with
  | true=>
   have dc:gg CC letters (ks.map enc) ((ks.map enc).length:Int) ((pre.length:Nat):Int)=some (.inl (((pre++[k]).length:Nat):Int)):=by
    simp only[gg,yP,aK,aA]
    rw[bf,bY]
    simp only[Option.bind_some,bu,bE,bD]
    rw[e1,hw]
    simp only[Option.bind_some,V.aQ,V.dD,qS,cond_false]
    rw[bP]
    simp
   rw[bQ dc]
   simp only[iL,hw,mU]
   exact eF (pre++[k]) (by rw[bc];simp)
  | false=>
   refine .inl ⟨aV ?_,by simp only[iL,hw,Bool.false_and]⟩
   simp only[gg,yP,aK,aA]
   rw[bf,bY]
   simp only[Option.bind_some,bu,bE,bD]
   rw[e1,hw]
   simp only[Option.bind_some,V.aQ,V.dD,uz,cond_true]
theorem yV (o:Int):o=1∨o=2∨o=3∨o=4∨o=5∨o=6∨o=7∨o=8∨(o<1∨8<o):=by omega
theorem aev {letters:Int}: ∀e:Ex,e.Ok→CC yu (bV e [.int .i64 letters])=some [.bool (e.wf letters)]:=
 ind fun o lt ks ih ar=>by
  refine ac2 ?_
  have hlen:((ks.map enc).length:Int)=(ks.length:Int):=by simp
  have hl:=aeu ar.len (fun k hk=>ih k hk (ar.mG k hk)) ks [] rfl
  simp only[List.length_nil,Int.natCast_zero,Int.ofNat_zero] at hl
  have qs:(Loop (gg CC letters (ks.map enc) ((ks.map enc).length:Int)) 0).bind (cf (fun (t:Bool)=>some [V.bool t]) (un fun (_:Int) (_:Bool)=>some [V.bool true]))=some [.bool (iL letters ks)]:=by
   rcases hl with ⟨h1,U⟩|⟨i,b,h1,U⟩
   ·erw [h1];rw[U];rfl
   ·erw [h1];rw[U];rfl
  simp only[Ex.op,Ex.bH,Ex.kids]
  unfold Uz
  rw[qs,hlen]
  simp only[Ex.wf,ee]
  have yW:ks.length=0→iL letters ks=true:=fun h=>by rw[lY h];simp only[iL]
  rcases yV o with rfl|rfl|rfl|rfl|rfl|rfl|rfl|rfl|ho
  case inr.inr.inr.inr.inr.inr.inr.inr=>
   have n1:o≠1:=by omega
   have n2:o≠2:=by omega
   have n3:o≠3:=by omega
   have n4:o≠4:=by omega
   have n5:o≠5:=by omega
   have n6:o≠6:=by omega
   have n7:o≠7:=by omega
   have n8:o≠8:=by omega
   have n9: ¬(4≤o∧o≤6∧2≤(ks.length:Int)):=by omega
   by_cases aJ:lt=0<;>simp[n1,n2,n3,n4,n5,n6,n7,n8,n9,aJ]
  all_goals by_cases aJ:lt=0<;>by_cases h0:ks.length=0<;>by_cases h1:ks.length=1<;>simp[aJ,h0,h1,yW]
  all_goals (try omega)
  all_goals (try (split<;>simp_all<;>omega))
theorem aew {C:ah} {letters k o lt:Int} {ok t:Bool} {es:List V} {β:Type} (kr:Bool→Option β):dE C letters k ok t o lt es kr=kr (ok&&(bif t then decide (0≤lt∧lt<letters) else decide (lt=0))):=by
 unfold dE
 have hb:(lt==0)=decide (lt=0):=by rw[oQ];simp
 rw[hb]
 cases t<;>cases ok<;>first|rfl|skip
 by_cases h:0≤lt<;>simp[h]
theorem aex {ks:List Ex} (hlen:ks.length≤maxLen) {letters o lt:Int} (ih: ∀k∈ks,CC yo (bV k [.int .i64 letters])=some [.bool (k.wf letters)]):
  ∀(ay pre:List Ex) (ok:Bool),ks=pre++ay→
  ∃i b,Loop (dz CC letters (ks.length:Int) o lt (ks.map enc)) (ok,((pre.length:Nat):Int))=some (ok&&iL letters ay,i,b):=by
 intro ay
 induction ay with
 | nil=>
  intro pre ok bc
  subst bc
  refine ⟨((pre.length:Nat):Int),false,aV ?_⟩
  simp only[dz,yT,un,dr,aA]
  rw[aM]
  simp[iL]
 | cons k ay eF=>
  intro pre ok bc
  have ch:pre.length<ks.length:=by rw[bc];simp
  have:=lb
  have bY:idx (ks.map enc) (pre.length:Int)=some k.enc:=by rw[bc];exact gM _ _ _
  have e1:=ih k (by rw[bc];simp)
  cases ok with
  | true=>
   have dc:dz CC letters (ks.length:Int) o lt (ks.map enc) (true,((pre.length:Nat):Int))=some (.inl (k.wf letters,(((pre++[k]).length:Nat):Int))):=by
    simp only[dz,yT,un,aA,cond_true]
    rw[bf,bY]
    simp only[Option.bind_some,bu,bE,bD]
    rw[e1]
    simp only[Option.bind_some,V.aQ,V.dD]
    rw[bP]
    simp
   rw[bQ dc]
   simp only[iL,mU]
   exact eF (pre++[k]) _ (by rw[bc];simp)
  | false=>
   refine ⟨((pre.length:Nat):Int),false,aV ?_⟩
   simp only[dz,yT,un,aA,cond_false]
   rw[bf]
   simp
theorem aey {letters:Int}: ∀e:Ex,e.Ok→CC yo (bV e [.int .i64 letters])=some [.bool (e.wf letters)]:=
 ind fun o lt ks ih ar=>by
  refine aeo ?_
  have hlen:((ks.map enc).length:Int)=(ks.length:Int):=by simp
  have qs: ∀ok:Bool,(Loop (dz CC letters (ks.length:Int) o lt (ks.map enc)) (ok,0)).bind (un fun (ok:Bool)=>un fun (_:Int) (_:Bool)=>some [V.bool ok])=some [.bool (ok&&iL letters ks)]:=by
   intro ok
   obtain ⟨i,b,h⟩:=aex ar.len (o:=o) (lt:=lt) (fun k hk=>ih k hk (ar.mG k hk)) ks [] ok rfl
   simp only[List.length_nil,Int.natCast_zero,Int.ofNat_zero] at h
   erw [h];rfl
  simp only[Ex.op,Ex.bH,Ex.kids]
  unfold UM
  simp only[aew,hlen,qs]
  simp only[Ex.wf,ee]
  have yW:ks.length=0→iL letters ks=true:=fun h=>by rw[lY h];simp only[iL]
  rcases yV o with rfl|rfl|rfl|rfl|rfl|rfl|rfl|rfl|ho
  case inr.inr.inr.inr.inr.inr.inr.inr=>
   have n1:o≠1:=by omega
   have n2:o≠2:=by omega
   have n3:o≠3:=by omega
   have n4:o≠4:=by omega
   have n5:o≠5:=by omega
   have n6:o≠6:=by omega
   have n7:o≠7:=by omega
   have n8:o≠8:=by omega
   have n9: ¬(4≤o∧o≤6∧2≤(ks.length:Int)):=by omega
   by_cases h1:1≤o
   ·have U: ¬o≤8:=by omega
    simp[n1,n2,n3,n4,n5,n6,n7,n8,n9,h1,U]
   ·simp[n1,n2,n3,n4,n5,n6,n7,n8,n9,h1]
  all_goals by_cases aJ:lt=0<;>by_cases h0:ks.length=0<;>by_cases h1:ks.length=1<;>simp[aJ,h0,h1,yW]
  all_goals (try omega)
  all_goals (try (split<;>simp_all<;>omega))
  all_goals (try (by_cases h5:2≤ks.length<;>simp[h5]))
  all_goals (rw[show ((ks.length:Int)==1)=decide ((ks.length:Int)=1) from by rw[oQ];simp])
theorem aez (letters:Int):CC GH [.int .i64 letters]=some [.bool (decide (1≤letters∧letters≤6))]:=by
 refine aep ?_
 unfold UN
 by_cases h1:1≤letters<;>by_cases U:letters≤6<;>simp[h1,U]
theorem UP (e:Ex) (h:e.Ok):CC BY (bV e [])=some [.bool (decide (e.depth≤40∧e.size≤400))]:=by
 obtain ⟨d,e1,e2⟩:=UO e h 400 (by omega) (by omega)
 refine ac4 ?_
 unfold UJ
 rw[e1]
 simp only[Option.bind_some,V.aQ,V.toInt_int,aA,lr,jF]
 by_cases hs:e.size≤400
 ·rw[bf,e2 (by omega)]
  congr 3
  rw[Al]
  omega
 ·rw[aM]
  congr 3
  simp[hs]
def Ex.val (e:Ex) (letters:Int):Int:=
 if 1≤letters∧letters≤6 then (if e.depth≤40∧e.size≤400 then (if e.wf letters=true then 0 else 4) else 3) else 1
theorem yX (e:Ex) (h:e.Ok) (letters:Int):CC vI (bV e [.int .i64 letters])=some [.int .i64 (e.val letters)]:=by
 refine acK ?_
 unfold Ux Ex.val
 rw[aes e h,aev e h]
 by_cases h1:1≤letters
 ·by_cases U:letters≤6
  ·by_cases h3:e.depth≤40∧e.size≤400
   ·cases h4:e.wf letters<;>simp[h1,U,h3,show¬letters<1 by omega,show¬6<letters by omega]
   ·simp[h1,U,h3,show¬letters<1 by omega,show¬6<letters by omega]
  ·simp[h1,U,show¬letters<1 by omega,show 6<letters by omega]
 ·simp[h1,show letters<1 by omega]
theorem Hv (e:Ex) (h:e.Ok) (letters:Int):CC qy (bV e [.int .i64 letters])=some [.int .i64 (e.val letters)]:=by
 refine ac3 ?_
 unfold UI Ex.val
 rw[UP e h,aey e h,aez]
 by_cases h1:1≤letters∧letters≤6
 ·by_cases h3:e.depth≤40∧e.size≤400
  ·cases h4:e.wf letters<;>simp[h1,h3]
  ·simp[h1,h3]
 ·simp[h1]
theorem aeA {X R S:Type} {step:X→Option (X ⊕ R)} {ks:List Ex} (st:S→Nat→X) (g:S→Ex→S) (r:S→R) (I:S→List Ex→Prop)
  (h: ∀pre k ay s,ks=pre++k::ay→I s (k::ay)→step (st s pre.length)=some (.inl (st (g s k) (pre.length+1)))∧I (g s k) ay) (he: ∀s,step (st s ks.length)=some (.inr (r s))):
  ∀ay pre s,ks=pre++ay→I s ay→Loop step (st s pre.length)=some (r (ay.foldl g s)):=by
 intro ay
 induction ay with
 | nil=>
  intro pre s bc _
  have:pre.length=ks.length:=by rw[bc];simp
  rw[this]
  exact aV (he s)
 | cons k ay ih=>
  intro pre s bc hI
  obtain ⟨h1,U⟩:=h pre k ay s bc hI
  rw[bQ h1,List.foldl_cons]
  have:=ih (pre++[k]) (g s k) (by rw[bc];simp) U
  simpa using this
theorem UQ {X R:Type} {step:X→Option (X ⊕ R)} {ks:List Ex} (st:Nat→X) (p:Ex→Bool) (r1:Nat→R) (r2:R)
  (h: ∀pre k ay,ks=pre++k::ay→step (st pre.length)=if p k=true then some (.inr (r1 pre.length)) else some (.inl (st (pre.length+1)))) (he:step (st ks.length)=some (.inr r2)):
  ∀ay pre,ks=pre++ay→(ay.any p=true∧∃i,Loop step (st pre.length)=some (r1 i))∨(ay.any p=false∧Loop step (st pre.length)=some r2):=by
 intro ay
 induction ay with
 | nil=>
  intro pre bc
  have:pre.length=ks.length:=by rw[bc];simp
  rw[this]
  exact .inr ⟨rfl,aV he⟩
 | cons k ay ih=>
  intro pre bc
  have h1:=h pre k ay bc
  cases hp:p k with
  | true=>
   rw[aj hp] at h1
   exact .inl ⟨by simp[hp],_,aV h1⟩
  | false=>
   rw[an (by simp[hp])] at h1
   rw[bQ h1]
   have:=ih (pre++[k]) (by rw[bc];simp)
   simpa[hp] using this
end Go.AM
set_option maxRecDepth 100000
namespace Go.AM
open Go.Proofs
noncomputable def UR (C:ah) (ag aq:Int) (ae:LV):Option LV:=
 (C vI [V.int .i64 ag,V.int .i64 aq,.list aa ae,V.int .i64 6]).bind fun r1=>
 some [.bool ((((V.nth r1 0).toInt):Int)==0)]
theorem aeB {ag aq:Int} {ae:LV} {r:Option LV} (h:UR CC ag aq ae=r):CC B7 [V.int .i64 ag,V.int .i64 aq,.list aa ae]=r:=aY (L:=aZ) av h
noncomputable def US (C:ah) (ag aq:Int) (ae:LV):Option LV:=
 (C qy [V.int .i64 ag,V.int .i64 aq,.list aa ae,V.int .i64 6]).bind fun r1=>
 some [.bool ((((V.nth r1 0).toInt):Int)==0)]
theorem aeC {ag aq:Int} {ae:LV} {r:Option LV} (h:US CC ag aq ae=r):CC GF [V.int .i64 ag,V.int .i64 aq,.list aa ae]=r:=aY (L:=aZ) av h
noncomputable def UT (C:ah) (ag aq:Int) (ae:LV):Option LV:=
 (C vJ [V.int .i64 ag,V.int .i64 aq,.list aa ae,V.int .i64 400]).bind fun r1=>
 some [V.int .i64 ((V.nth r1 0).toInt)]
theorem aeD {ag aq:Int} {ae:LV} {r:Option LV} (h:UT CC ag aq ae=r):CC GG [V.int .i64 ag,V.int .i64 aq,.list aa ae]=r:=aY (L:=aZ) av h
end Go.AM
set_option maxRecDepth 100000
namespace Go.AM
open Go.Proofs Ex
theorem Ct (m n:Int):(m==n)=decide (m=n):=by rw[oQ];simp
theorem UU (e:Ex) (h:e.Ok):CC B7 (bV e [])=some [.bool (decide (e.val 6=0))]:=by
 refine aeB ?_
 unfold UR
 rw[yX e h]
 simp only[Option.bind_some,V.aQ,V.toInt_int]
 rw[Ct]
theorem aeE (e:Ex) (h:e.Ok):CC GF (bV e [])=some [.bool (decide (e.val 6=0))]:=by
 refine aeC ?_
 unfold US
 rw[Hv e h]
 simp only[Option.bind_some,V.aQ,V.toInt_int]
 rw[Ct]
theorem kj {e:Ex} (h:e.val 6=0):e.depth≤40∧e.size≤400∧e.wf 6=true:=by
 unfold Ex.val at h
 rw[bf] at h
 split at h
 ·rename_i h1
  split at h
  ·rename_i U;exact ⟨h1.1,h1.2,U⟩
  ·omega
 ·omega
theorem tJ {ks:List Ex}: ∀{k},k∈ks→k.size≤aR ks:=by
 induction ks with
 | nil=>intro k h;simp at h
 | cons a ks ih=>
  intro k h
  simp only[aR]
  rcases dO.1 h with rfl|h
  ·omega
  ·have:=ih h;omega
mutual
def Ex.da:Ex→Bool
 | .node o _ ks=>if o=2∨o=7 then true else if o=4 then lf ks else if o=5∨o=6 then mI ks else if o=8 then !(lf ks) else false
def Ex.lf:List Ex→Bool
 | []=>false
 | k::ks=>da k||lf ks
def Ex.mI:List Ex→Bool
 | []=>true
 | k::ks=>da k&&mI ks
end
theorem NF: ∀ks,lf ks=ks.any da
 | []=>by simp[lf]
 | k::ks=>by simp[lf,NF ks]
theorem NG: ∀ks,mI ks= !(ks.any fun k=> !(da k))
 | []=>by simp[mI]
 | k::ks=>by simp[mI,NG ks]
theorem aeF {letters:Int} {ks:List Ex} (h:iL letters ks=true): ∀k∈ks,k.wf letters=true:=by
 induction ks with
 | nil=>simp
 | cons a ks ih=>
  simp only[iL,aO] at h
  intro k hk
  rcases dO.1 hk with rfl|hk
  ·exact h.1
  ·exact ih h.2 k hk
theorem ib {letters o l:Int} {ks:List Ex} (h:(Ex.node o l ks).wf letters=true):ee o l ks.length letters=true∧∀k∈ks,k.wf letters=true:=by
 simp only[Ex.wf,aO] at h
 exact ⟨h.1,aeF h.2⟩
theorem aeG {letters l n:Int} (h:ee 8 l n letters=true):n=1:=by
 simp[ee] at h;exact h.2
theorem aeH (e:Ex) (h:e.Ok) (hs:e.size≤400):CC GG (bV e [])=some [.int .i64 e.size]:=by
 obtain ⟨d,e1,e2⟩:=UO e h 400 (by omega) (by omega)
 refine aeD ?_
 unfold UT
 rw[e1,show min (e.size:Int) (400+1)=e.size by omega]
 simp
end Go.AM
set_option maxRecDepth 100000
namespace Go.AM
open Go.Proofs
noncomputable def Cu (C:ah) (t19:LV) (t20 t21:Int) {β:Type} (kn:Int→Option β) (kr:((Bool) ⊕ (Int × Bool))→Option β):Option β:=
 bif decide ((t21:Int)<t20) then
  (idx t19 t21).bind fun x2=>
  (C k9 [V.int .i64 ((x2.cell 0).toInt),V.int .i64 ((x2.cell 1).toInt),.list aa ((x2.cell 2).toList)]).bind fun r3=>
  bif !((V.nth r3 0).toBool) then
  kr (.inl false)
  else
  kn (IntKind.wrap .i64 (t21+1))
 else
  kr (.inr (t21,decide ((t21:Int)<t20)))
noncomputable def tK (C:ah) (t19:LV) (t20:Int):=fun t21=>Cu C t19 t20 t21 (fun y=>some (Sum.inl y)) (fun r=>some (Sum.inr r))
noncomputable def aeI (C:ah):cr:=cq 161 Mt [false,false,true] [[0],[1,2,0,0]] (@Cu C) aZ
theorem aeJ (C:ah):bC C (aeI C) 42 (Lp [1,0,1,0,1,1,1,1,1,0,0,1,0,0] 42):=cp Mt [false,false,true] [[0],[1,2,0,0]] (@Cu C) (a9 av)
noncomputable def UW (C:ah) (ag aq:Int) (ae:LV):Option LV:=
 bif (ag:Int)==2 then
  bif (ag:Int)==2 then
  some [.bool true]
  else
  bif (ag:Int)==4 then
   (C G5 [.list aa ae]).bind fun r1=>
   some [.bool ((V.nth r1 0).toBool)]
  else
   bif (ag:Int)==5 then
   bif (ag:Int)==5 then
    (Loop (tK C ae (ae.length:Int)) 0).bind (cf (fun (ia:Bool)=>
     some [.bool ia]) (un fun (mH:Int) (ld:Bool)=>
     some [.bool true]))
   else
    bif (ag:Int)==8 then
    bif ((ae.length:Int):Int)==1 then
     (ae[0]?).bind fun x7=>
     (C k9 [V.int .i64 ((x7.cell 0).toInt),V.int .i64 ((x7.cell 1).toInt),.list aa ((x7.cell 2).toList)]).bind fun r8=>
     some [.bool (!((V.nth r8 0).toBool))]
    else
     some [.bool false]
    else
    some [.bool false]
   else
   bif (ag:Int)==6 then
    (Loop (tK C ae (ae.length:Int)) 0).bind (cf (fun (tH:Bool)=>
     some [.bool tH]) (un fun (yQ:Int) (Hp:Bool)=>
     some [.bool true]))
   else
    bif (ag:Int)==8 then
    bif ((ae.length:Int):Int)==1 then
     (ae[0]?).bind fun km=>
     (C k9 [V.int .i64 ((km.cell 0).toInt),V.int .i64 ((km.cell 1).toInt),.list aa ((km.cell 2).toList)]).bind fun ja=>
     some [.bool (!((V.nth ja 0).toBool))]
    else
     some [.bool false]
    else
    some [.bool false]
 else
  bif (ag:Int)==7 then
  some [.bool true]
  else
  bif (ag:Int)==4 then
   (C G5 [.list aa ae]).bind fun ko=>
   some [.bool ((V.nth ko 0).toBool)]
  else
   bif (ag:Int)==5 then
   bif (ag:Int)==5 then
    (Loop (tK C ae (ae.length:Int)) 0).bind (cf (fun (sa:Bool)=>
     some [.bool sa]) (un fun (Hr:Int) (Nz:Bool)=>
     some [.bool true]))
   else
    bif (ag:Int)==8 then
    bif ((ae.length:Int):Int)==1 then
     (ae[0]?).bind fun jT=>
     (C k9 [V.int .i64 ((jT.cell 0).toInt),V.int .i64 ((jT.cell 1).toInt),.list aa ((jT.cell 2).toList)]).bind fun ef=>
     some [.bool (!((V.nth ef 0).toBool))]
    else
     some [.bool false]
    else
    some [.bool false]
   else
   bif (ag:Int)==6 then
    (Loop (tK C ae (ae.length:Int)) 0).bind (cf (fun (NB:Bool)=>
     some [.bool NB]) (un fun (Cs:Int) (Hs:Bool)=>
     some [.bool true]))
   else
    bif (ag:Int)==8 then
    bif ((ae.length:Int):Int)==1 then
     (ae[0]?).bind fun tL=>
     (C k9 [V.int .i64 ((tL.cell 0).toInt),V.int .i64 ((tL.cell 1).toInt),.list aa ((tL.cell 2).toList)]).bind fun NH=>
     some [.bool (!((V.nth NH 0).toBool))]
    else
     some [.bool false]
    else
    some [.bool false]
theorem aeK {ag aq:Int} {ae:LV} {r:Option LV} (h:UW CC ag aq ae=r):CC k9 [V.int .i64 ag,V.int .i64 aq,.list aa ae]=r:=aY (bB (aeJ CC) av) h
noncomputable def UX (C:ah) (s:LV):Option LV:=
 (C G6 [.list aa s]).bind fun r1=>
 some [.bool (decide ((((V.nth r1 0).toInt):Int)≥0))]
theorem aeL {s:LV} {r:Option LV} (h:UX CC s=r):CC G5 [.list aa s]=r:=aY (L:=aZ) av h
noncomputable def Cv (C:ah) (s:LV) (t7 t8:Int) {β:Type} (kn:Int→Option β) (kr:((Int) ⊕ (Int × Bool))→Option β):Option β:=
 bif decide ((t8:Int)<t7) then
  (idx s t8).bind fun x1=>
  (C k9 [V.int .i64 ((x1.cell 0).toInt),V.int .i64 ((x1.cell 1).toInt),.list aa ((x1.cell 2).toList)]).bind fun r2=>
  bif (V.nth r2 0).toBool then
  kr (.inl t8)
  else
  kn (IntKind.wrap .i64 (t8+1))
 else
  kr (.inr (t8,decide ((t8:Int)<t7)))
noncomputable def Hw (C:ah) (s:LV) (t7:Int):=fun t8=>Cv C s t7 t8 (fun y=>some (Sum.inl y)) (fun r=>some (Sum.inr r))
noncomputable def aeM (C:ah):cr:=cq 33 Nw [false,false,true] [[0],[1,2,0,0]] (@Cv C) aZ
theorem aeN (C:ah):bC C (aeM C) 133 (Lp [1,0,1,0,0] 133):=cp Nw [false,false,true] [[0],[1,2,0,0]] (@Cv C) (a9 av)
noncomputable def NI (C:ah) (s:LV):Option LV:=
 (Loop (Hw C s (s.length:Int)) 0).bind (cf (fun (jz:Int)=>
  some [V.int .i64 jz]) (un fun (ia:Int) (mH:Bool)=>
  some [V.int .i64 (-1)]))
theorem UY {s:LV} {r:Option LV} (h:NI CC s=r):CC G6 [.list aa s]=r:=aY (bB (aeN CC) av) h
end Go.AM
set_option maxRecDepth 100000
namespace Go.AM
open Go.Proofs Ex
theorem aeO {ks:List Ex} (hlen:ks.length≤maxLen) (ih: ∀k∈ks,CC k9 (bV k [])=some [.bool k.da]):CC G5 [.list aa (ks.map enc)]=some [.bool (lf ks)]:=by
 have:=lb
 refine aeL ?_
 unfold UX
 have hl:=UQ (step:=Hw CC (ks.map enc) ((ks.map enc).length:Int)) (ks:=ks) (fun i=>(i:Int)) da (fun i=> .inl (i:Int)) (.inr (((ks.length:Nat):Int),false))
  (fun pre k ay bc=>by
   have ch:pre.length<ks.length:=by rw[bc];simp
   have hm:k∈ks:=by rw[bc];simp
   simp only[Hw,Cv,aK,aA]
   rw[bf,show idx (ks.map enc) (pre.length:Int)=some k.enc by rw[bc];exact gM _ _ _]
   simp only[Option.bind_some,bu,bE,bD]
   rw[ih k hm]
   simp only[Option.bind_some,V.aQ,V.dD]
   rw[bP]
   cases k.da<;>simp)
  (by
   simp only[Hw,Cv,aK,aA]
   rw[aM]
   simp) ks [] rfl
 simp only[List.length_nil,Int.ofNat_zero,Int.natCast_zero] at hl
 rcases hl with ⟨h1,i,U⟩|⟨h1,U⟩
 ·have hi:CC G6 [.list aa (ks.map enc)]=some [.int .i64 (i:Int)]:=by
   refine UY ?_
   unfold NI
   erw [U];rfl
  rw[hi,NF,h1]
  simp
 ·have hi:CC G6 [.list aa (ks.map enc)]=some [.int .i64 (-1)]:=by
   refine UY ?_
   unfold NI
   erw [U];rfl
  rw[hi,NF,h1]
  simp
theorem aeP {letters:Int}: ∀e:Ex,e.Ok→e.wf letters=true→CC k9 (bV e [])=some [.bool e.da]:=
 ind fun o l ks ih ar BP=>by
  have:=lb
  have hlen:=ar.len
  obtain ⟨w1,w2⟩:=ib BP
  have iC: ∀k∈ks,CC k9 (bV k [])=some [.bool k.da]:=fun k hk=>ih k hk (ar.mG k hk) (w2 k hk)
  refine aeK ?_
  have qs:(Loop (tK CC (ks.map enc) ((ks.map enc).length:Int)) 0).bind (cf (fun (t:Bool)=>some [V.bool t]) (un fun (_:Int) (_:Bool)=>some [V.bool true]))=some [.bool (mI ks)]:=by
   have hl:=UQ (step:=tK CC (ks.map enc) ((ks.map enc).length:Int)) (ks:=ks) (fun i=>(i:Int)) (fun k=> !(da k)) (fun _=> .inl false) (.inr (((ks.length:Nat):Int),false))
    (fun pre k ay bc=>by
     have ch:pre.length<ks.length:=by rw[bc];simp
     have hm:k∈ks:=by rw[bc];simp
     simp only[tK,Cu,aK,aA]
     rw[bf,show idx (ks.map enc) (pre.length:Int)=some k.enc by rw[bc];exact gM _ _ _]
     simp only[Option.bind_some,bu,bE,bD]
     rw[iC k hm]
     simp only[Option.bind_some,V.aQ,V.dD]
     rw[bP]
     cases k.da<;>simp)
    (by
     simp only[tK,Cu,aK,aA]
     rw[aM]
     simp) ks [] rfl
   simp only[List.length_nil,Int.ofNat_zero,Int.natCast_zero] at hl
   rcases hl with ⟨h1,i,U⟩|⟨h1,U⟩
   ·erw [U];rw[NG,h1];rfl
   ·erw [U];rw[NG,h1];rfl
  unfold UW
  simp only[Ex.op,Ex.bH,Ex.kids]
  rw[qs,aeO hlen iC]
  simp only[da]
  rcases yV o with rfl|rfl|rfl|rfl|rfl|rfl|rfl|rfl|ho
  case inr.inr.inr.inr.inr.inr.inr.inr=>
   have n2:o≠2:=by omega
   have n4:o≠4:=by omega
   have n5:o≠5:=by omega
   have n6:o≠6:=by omega
   have n7:o≠7:=by omega
   have n8:o≠8:=by omega
   simp[n2,n4,n5,n6,n7,n8]
  case inr.inr.inr.inr.inr.inr.inr.inl=>
   have h1:=aeG w1
   match ks,h1,iC with
   | [k],_,iC=>
    have:=iC k (by simp)
    simp only[cM,fJ,List.length_singleton,List.getElem?_cons_zero,Option.bind_some,bu,bE,bD]
    rw[this]
    simp[lf]
  all_goals simp
end Go.AM
set_option maxRecDepth 100000
namespace Go.AM
open Go.Proofs
noncomputable def UZ (C:ah) (fe eT:Int) (ff:LV) (fg fh:Int) (fv:LV):Option LV:=
 bif (fe:Int) != fg then
  (C yv [V.int .i64 fe,V.int .i64 fg]).bind fun r1=>
  some [V.int .i64 ((V.nth r1 0).toInt)]
 else
  bif (eT:Int) != fh then
  (C yv [V.int .i64 eT,V.int .i64 fh]).bind fun r2=>
  some [V.int .i64 ((V.nth r2 0).toInt)]
  else
  (C GN [.list aa ff,.list aa fv]).bind fun r3=>
  some [V.int .i64 ((V.nth r3 0).toInt)]
theorem aeQ {fe eT:Int} {ff:LV} {fg fh:Int} {fv:LV} {r:Option LV} (h:UZ CC fe eT ff fg fh fv=r):CC bN [V.int .i64 fe,V.int .i64 eT,.list aa ff,V.int .i64 fg,V.int .i64 fh,.list aa fv]=r:=aY (L:=aZ) av h
noncomputable def v5 (C:ah) (s1 s2 t11:LV) (t12 t13:Int) {β:Type} (kn:Int→Option β) (kr:((Int) ⊕ (Int × Bool))→Option β):Option β:=
 bif decide ((t13:Int)<t12) then
  (idx t11 t13).bind fun x1=>
  bif decide ((t13:Int)≥(s2.length:Int)) then
  kr (.inl 1)
  else
  (idx s2 t13).bind fun x2=>
  (C bN [V.int .i64 ((x1.cell 0).toInt),V.int .i64 ((x1.cell 1).toInt),.list aa ((x1.cell 2).toList),V.int .i64 ((x2.cell 0).toInt),V.int .i64 ((x2.cell 1).toInt),.list aa ((x2.cell 2).toList)]).bind fun r3=>
  bif (((V.nth r3 0).toInt):Int) != 0 then
   kr (.inl ((V.nth r3 0).toInt))
  else
   kn (IntKind.wrap .i64 (t13+1))
 else
  kr (.inr (t13,decide ((t13:Int)<t12)))
noncomputable def tM (C:ah) (s1 s2 t11:LV) (t12:Int):=fun t13=>v5 C s1 s2 t11 t12 t13 (fun y=>some (Sum.inl y)) (fun r=>some (Sum.inr r))
noncomputable def aeR (C:ah):cr:=cq 33 Mw [false,false,false,false,true] [[0],[1,2,3,4,0,0]] (@v5 C) aZ
theorem aeS (C:ah):bC C (aeR C) 48 (Lp [1,0,1,0,0] 48):=cp Mw [false,false,false,false,true] [[0],[1,2,3,4,0,0]] (@v5 C) (a9 av)
noncomputable def U0 (C:ah) (s1 s2:LV):Option LV:=
 (Loop (tM C s1 s2 s1 (s1.length:Int)) 0).bind (cf (fun (ia:Int)=>
  some [V.int .i64 ia]) (un fun (mH:Int) (ld:Bool)=>
  bif decide (((s1.length:Int):Int)<(s2.length:Int)) then
   some [V.int .i64 (-1)]
  else
   some [V.int .i64 0]))
theorem aeT {s1 s2:LV} {r:Option LV} (h:U0 CC s1 s2=r):CC GN [.list aa s1,.list aa s2]=r:=aY (bB (aeS CC) av) h
noncomputable def U1 (C:ah) (x y:Int):Option LV:=
 (C B8 [V.int .i64 x]).bind fun r1=>
 (C B8 [V.int .i64 y]).bind fun r2=>
 bif (V.nth r1 0).toBool then
  bif (V.nth r2 0).toBool then
  some [V.int .i64 0]
  else
  some [V.int .i64 (-1)]
 else
  bif (V.nth r2 0).toBool then
  some [V.int .i64 1]
  else
  bif decide ((x:Int)<y) then
   some [V.int .i64 (-1)]
  else
   bif decide ((x:Int)>y) then
   some [V.int .i64 1]
   else
   some [V.int .i64 0]
theorem aeU {x y:Int} {r:Option LV} (h:U1 CC x y=r):CC yv [V.int .i64 x,V.int .i64 y]=r:=aY (L:=aZ) av h
noncomputable def U2 (C:ah) (x:Int):Option LV:=
 some [.bool ((x:Int) != x)]
theorem aeV {x:Int} {r:Option LV} (h:U2 CC x=r):CC B8 [V.int .i64 x]=r:=aY (L:=aZ) av h
end Go.AM
set_option maxRecDepth 100000
namespace Go.AM
open Go.Proofs Ex
def gN (less:Bool):Int:=if less then-1 else 1
mutual
def Ex.cmp:Ex→Ex→Int
 | .node o l ks,e=>if o≠e.op then gN (decide (o<e.op)) else if l≠e.bH then gN (decide (l<e.bH)) else dR ks e.kids
def Ex.dR:List Ex→List Ex→Int
 | [],[]=>0
 | [],_::_=> -1
 | _::_,[]=>1
 | k::ks,k'::b7=>if cmp k k'≠0 then cmp k k' else dR ks b7
end
theorem v7 (o l o' l':Int) (ks b7:List Ex):cmp (.node o l ks) (.node o' l' b7)=if o≠o' then gN (decide (o<o')) else if l≠l' then gN (decide (l<l')) else dR ks b7:=by
 rw[cmp];rfl
theorem U3 (b:Bool):gN b= -1∨gN b=1:=by cases b<;>simp[gN]
theorem aeW (ks:List Ex) (ih: ∀k∈ks,cmp k k=0):dR ks ks=0:=by
 induction ks with
 | nil=>simp[dR]
 | cons k ks rq=>simp[dR,ih k (by simp),rq fun k hk=>ih k (by simp[hk])]
theorem Cw: ∀e:Ex,cmp e e=0:=ind fun o l ks ih=>by
 rw[v7];simp[aeW ks ih]
theorem U4 {a b:Int} (h:a≠b):gN (decide (b<a))= -gN (decide (a<b)):=by
 by_cases h1:a<b
 ·have: ¬b<a:=by omega
  simp[gN,h1,this]
 ·have:b<a:=by omega
  simp[gN,h1,this]
theorem aeX (ks:List Ex) (ih: ∀k∈ks,∀e,cmp e k= -cmp k e): ∀b7,dR b7 ks= -dR ks b7:=by
 induction ks with
 | nil=>intro b7;cases b7<;>simp[dR]
 | cons k ks rq=>
  intro b7
  cases b7 with
  | nil=>simp[dR]
  | cons k' b7=>
   simp only[dR,ih k (by simp) k',rq (fun k hk=>ih k (by simp[hk])) b7]
   by_cases h:cmp k k'=0
   ·simp[h]
   ·have: -cmp k k'≠0:=by omega
    simp[h,this]
theorem tN: ∀e e':Ex,cmp e' e= -cmp e e':=
 ind fun o l ks ih e'=>by
  obtain ⟨o',l',b7⟩:=e'
  rw[v7,v7]
  by_cases h1:o=o'
  ·subst h1
   by_cases U:l=l'
   ·subst U
    simp[aeX ks ih]
   ·have h2':l'≠l:=fun e=>U e.symm
    simp only[ne_eq,nQ,fW,U,h2',Af,c6];exact U4 U
  ·have ka:o'≠o:=fun e=>h1 e.symm
   simp only[ne_eq,h1,ka,Af,c6];exact U4 h1
theorem aeY (ks:List Ex) (ih: ∀k∈ks,∀e,cmp k e=0→k=e): ∀b7,dR ks b7=0→ks=b7:=by
 induction ks with
 | nil=>intro b7 h;cases b7<;>simp[dR] at h⊢
 | cons k ks rq=>
  intro b7 h
  cases b7 with
  | nil=>simp[dR] at h
  | cons k' b7=>
   simp only[dR] at h
   by_cases h1:cmp k k'=0
   ·rw[ih k (by simp) k' h1,rq (fun k hk=>ih k (by simp[hk])) b7 (by simpa[h1] using h)]
   ·simp[h1] at h
theorem v8: ∀e e':Ex,cmp e e'=0→e=e':=
 ind fun o l ks ih e' h=>by
  obtain ⟨o',l',b7⟩:=e'
  rw[v7] at h
  have s1:=U3 (decide (o<o'))
  have s2:=U3 (decide (l<l'))
  by_cases h1:o=o'
  ·by_cases U:l=l'
   ·rw[h1,U,aeY ks ih b7 (by simpa[h1,U] using h)]
   ·have bq:gN (decide (l<l'))≠0:=by omega
    rw[an (by simp[h1]),aj U] at h
    exact absurd h bq
  ·have bq:gN (decide (o<o'))≠0:=by omega
   rw[aj h1] at h
   exact absurd h bq
theorem aeZ (a:List Ex) (ih: ∀k∈a,∀b c,cmp k b≤0→cmp b c≤0→cmp k c≤0): ∀b c,dR a b≤0→dR b c≤0→dR a c≤0:=by
 induction a with
 | nil=>intro b c _ _;cases c<;>simp[dR]
 | cons x a rq=>
  intro b c h1 U
  cases b with
  | nil=>simp[dR] at h1
  | cons y b=>
   cases c with
   | nil=>simp[dR] at U
   | cons z c=>
    simp only[dR] at h1 U⊢
    have Gk:cmp x y≤0:=by by_cases h:cmp x y=0<;>simp[h] at h1⊢;exact h1
    have hyz:cmp y z≤0:=by by_cases h:cmp y z=0<;>simp[h] at U⊢;exact U
    have hxz:=ih x (by simp) y z Gk hyz
    by_cases h:cmp x z=0
    ·have:=v8 x z h
     subst this
     have h3:=tN x y
     have h4:cmp x y=0:=by omega
     have h5:cmp y x=0:=by omega
     simp only[h,ne_eq,nQ,fW]
     simp only[h4,h5,ne_eq,nQ,fW] at h1 U
     exact rq (fun k hk=>ih k (by simp[hk])) b c h1 U
    ·simp[h];exact hxz
theorem tO {x y:Int}:gN (decide (x<y))≤0↔x<y:=by
 by_cases h:x<y
 ·simp[gN,h]
 ·simp[gN,h]
theorem NJ: ∀a b c:Ex,cmp a b≤0→cmp b c≤0→cmp a c≤0:=
 ind fun o l ks ih b c h1 U=>by
  obtain ⟨o',l',b7⟩:=b
  obtain ⟨NK,rp,am2⟩:=c
  rw[v7] at h1 U⊢
  by_cases e1:o=o'
  ·subst e1
   by_cases e2:o=NK
   ·subst e2
    simp only[ne_eq,nQ,fW] at h1 U⊢
    by_cases e3:l=l'
    ·subst e3
     by_cases e4:l=rp
     ·subst e4
      simp only[ne_eq,nQ,fW] at h1 U⊢
      exact aeZ ks ih _ _ h1 U
     ·simp only[ne_eq,e4,Af,c6] at U⊢
      exact U
    ·rw[aj e3,tO] at h1
     by_cases e5:l'=rp
     ·subst e5
      rw[aj e3,tO]
      exact h1
     ·rw[aj e5,tO] at U
      rw[aj (show l≠rp by omega),tO]
      omega
   ·simp only[ne_eq,e2,Af,c6] at U⊢
    exact U
  ·rw[aj e1,tO] at h1
   by_cases e5:o'=NK
   ·subst e5
    rw[aj e1,tO]
    exact h1
   ·rw[aj e5,tO] at U
    rw[aj (show o≠NK by omega),tO]
    omega
theorem ae0 (x y:Int):CC yv [.int .i64 x,.int .i64 y]=some [.int .i64 (if x<y then-1 else if y<x then 1 else 0)]:=by
 refine aeU ?_
 unfold U1
 have h: ∀z:Int,CC B8 [.int .i64 z]=some [.bool false]:=fun z=>aeV (by simp[U2])
 rw[h,h]
 by_cases h1:x<y
 ·simp[h1]
 ·by_cases U:y<x
  ·simp[h1,U]
  ·simp[h1,U]
theorem U5 {x y:Int} (h:x≠y):CC yv [.int .i64 x,.int .i64 y]=some [.int .i64 (gN (decide (x<y)))]:=by
 rw[ae0]
 by_cases h1:x<y
 ·simp[gN,h1]
 ·simp[gN,h1,show y<x by omega]
theorem ae1 {ks b7:List Ex} (hlen:ks.length≤maxLen) (ih: ∀k∈ks,∀e:Ex,e.Ok→CC bN (bV k (bV e []))=some [.int .i64 (cmp k e)]) (dj: ∀k∈b7,Ex.Ok k):
  ∀(ay pre jA pB:List Ex),ks=pre++ay→b7=pB++jA→pre.length=pB.length→
  (∃c,Loop (tM CC (ks.map enc) (b7.map enc) (ks.map enc) ((ks.map enc).length:Int)) ((pre.length:Nat):Int)=some (.inl c)∧dR ay jA=c)∨
  (∃i b,Loop (tM CC (ks.map enc) (b7.map enc) (ks.map enc) ((ks.map enc).length:Int)) ((pre.length:Nat):Int)=some (.inr (i,b))∧dR ay jA=if ks.length<b7.length then-1 else 0):=by
 intro ay
 induction ay with
 | nil=>
  intro pre jA pB bc kp lQ
  subst bc
  refine .inr ⟨((pre.length:Nat):Int),false,aV ?_,?_⟩
  ·simp only[tM,v5,dr,aK,aA]
   rw[aM]
   simp
  ·cases jA with
   | nil=>simp[dR,kp,lQ]
   | cons a l=>simp[dR,kp,lQ]
 | cons k ay eF=>
  intro pre jA pB bc kp lQ
  have ch:pre.length<ks.length:=by rw[bc];simp
  have:=lb
  have bY:idx (ks.map enc) (pre.length:Int)=some k.enc:=by rw[bc];exact gM _ _ _
  cases jA with
  | nil=>
   refine .inl ⟨1,aV ?_,by simp[dR]⟩
   have hl:b7.length=pre.length:=by rw[kp,lQ];simp
   simp only[tM,v5,aK,aA]
   rw[bf,bY]
   simp only[Option.bind_some]
   rw[bf]
  | cons k' jA=>
   have hl:pre.length<b7.length:=by rw[kp,lQ];simp
   have Cx:idx (b7.map enc) (pre.length:Int)=some k'.enc:=by rw[kp,lQ];exact gM _ _ _
   have e1:=ih k (by rw[bc];simp) k' (dj k' (by rw[kp];simp))
   by_cases hc:cmp k k'=0
   ·have dc:tM CC (ks.map enc) (b7.map enc) (ks.map enc) ((ks.map enc).length:Int) ((pre.length:Nat):Int)=some (.inl (((pre++[k]).length:Nat):Int)):=by
     simp only[tM,v5,aK,aA]
     rw[bf,bY]
     simp only[Option.bind_some]
     rw[aM,Cx]
     simp only[Option.bind_some,bu,bE,bD]
     rw[e1,hc]
     simp only[Option.bind_some,V.aQ,V.toInt_int,tp,c6]
     rw[bP]
     simp
    rw[bQ dc]
    simp only[dR,hc,ne_eq,nQ,fW]
    exact eF (pre++[k]) jA (pB++[k']) (by rw[bc];simp) (by rw[kp];simp) (by simp[lQ])
   ·refine .inl ⟨cmp k k',aV ?_,by simp[dR,hc]⟩
    simp only[tM,v5,aK,aA]
    rw[bf,bY]
    simp only[Option.bind_some]
    rw[aM,Cx]
    simp only[Option.bind_some,bu,bE,bD]
    rw[e1]
    simp only[Option.bind_some,V.aQ,V.toInt_int,tp,an hc]
theorem Hy: ∀a:Ex,a.Ok→∀b:Ex,b.Ok→CC bN (bV a (bV b []))=some [.int .i64 (cmp a b)]:=
 ind fun o l ks ih ar b hb=>by
  obtain ⟨o',l',b7⟩:=b
  refine aeQ ?_
  unfold UZ
  rw[v7]
  simp only[Ex.op,Ex.bH,Ex.kids,tp]
  by_cases h1:o=o'
  ·by_cases U:l=l'
   ·rw[aj h1,aj U,an (by simp[h1]),an (by simp[U])]
    have hcf:CC GN [.list aa (ks.map enc),.list aa (b7.map enc)]=some [.int .i64 (dR ks b7)]:=by
     refine aeT ?_
     unfold U0
     rcases ae1 ar.len (fun k hk e he=>ih k hk (ar.mG k hk) e he) hb.mG ks [] b7 [] rfl rfl rfl with ⟨c,q1,q2⟩|⟨i,b,q1,q2⟩
     ·simp only[List.length_nil,Int.ofNat_zero,Int.natCast_zero] at q1
      erw [q1];rw[q2];rfl
     ·simp only[List.length_nil,Int.ofNat_zero,Int.natCast_zero] at q1
      erw [q1];rw[q2]
      simp only[Option.bind_some,cf,un,aK,aA]
      by_cases hl:ks.length<b7.length
      ·rw[bf,aj hl]
      ·rw[aM,an hl]
    rw[hcf]
    simp
   ·rw[aj h1,an U,an (by simp[h1]),aj U,U5 U]
    simp
  ·rw[an h1,aj h1,U5 h1]
   simp
def aF:Ex:= .node 0 0 []
theorem NL {l:List Ex} {i:Nat} (h:i<l.length):idx (l.map enc) (i:Int)=some (l.getD i aF).enc:=by
 rw[Lk];simp[h]
def fE (l:List Ex) (x:Ex):Nat→Nat
 | 0=>0
 | k+1=>if cmp x (l.getD k aF)<0 then fE l x k else k+1
def ep (l:List Ex) (x:Ex):List Ex:=
 let k:=fE l x l.length
 if 0<k∧cmp (l.getD (k-1) aF) x=0 then l else l.take k++x::l.drop k
theorem Cy (l:List Ex) (x:Ex): ∀k,fE l x k≤k
 | 0=>cl _
 | k+1=>by
  unfold fE;split
  ·exact Nat.le_succ_of_le (Cy l x k)
  ·exact cl _
theorem yY {l:List Ex} (h: ∀k∈l,k.Ok) {i:Nat} (hi:i<l.length):(l.getD i aF).Ok:=by
 have e:l.getD i aF=l[i]:=by simp[hi]
 rw[e];exact h _ (List.getElem_mem hi)
theorem ae2 (l:List Ex) (k:Nat) (x:Ex):((([]:List V)++(((l.map enc).drop 0).take (k-0)))++([.agg [.int .i64 x.op,.int .i64 x.bH,.list aa (x.kids.map enc)]]:List V))++(((l.map enc).drop k).take ((l.map enc).length-k))=(l.take k++x::l.drop k).map enc:=by
 rw[←dA,Am (i:=(l.map enc).length-k) (by simp)]
 simp
def bp (op:Int) (l:List Ex):List Ex:=l.flatMap fun k=>if k.op=op then k.kids else [k]
def univ (e:Ex):Bool:=decide (e.op=8∧e.kids.length=1∧(e.kids.getD 0 aF).op=1)
theorem tP {a b:Ex}:cmp a b=0↔a=b:=⟨v8 a b,fun h=>by rw[h];exact Cw b⟩
instance:DecidableEq Ex:=fun _ _=>decidable_of_iff _ tP
end Go.AM
set_option maxRecDepth 100000
namespace Go.AM
open Go.Proofs
noncomputable def Cz (C:ah) (op:Int) (t8:LV) (t9 t10:Int) (jb:LV) {β:Type} (kn:(Int × LV)→Option β) (kr:(Int × Bool × LV)→Option β):Option β:=
 bif decide ((t10:Int)<t9) then
  (idx t8 t10).bind fun x1=>
  bif (((x1.cell 0).toInt):Int)==op then
  bif Nat.ble ((jb.length+((x1.cell 2).toList).length)*40) bZ then
   kn (IntKind.wrap .i64 (t10+1),jb++((x1.cell 2).toList))
  else none
  else
  bif Nat.ble ((jb.length+([.agg [V.int .i64 ((x1.cell 0).toInt),V.int .i64 ((x1.cell 1).toInt),.list aa ((x1.cell 2).toList)]]:LV).length)*40) bZ then
   kn (IntKind.wrap .i64 (t10+1),jb++([.agg [V.int .i64 ((x1.cell 0).toInt),V.int .i64 ((x1.cell 1).toInt),.list aa ((x1.cell 2).toList)]]:LV))
  else none
 else
  kr (t10,decide ((t10:Int)<t9),jb)
noncomputable def CA (C:ah) (op:Int) (t8:LV) (t9:Int):=un fun t10 jb=>Cz C op t8 t9 t10 jb (fun y=>some (Sum.inl y)) (fun r=>some (Sum.inr r))
noncomputable def ae3 (C:ah):cr:=cq 49 MR [false,false,false,true,true] [[1,2,3,0,0,0]] (@Cz C) aZ
theorem ae4 (C:ah):bC C (ae3 C) 81 (Lp [1,1,0,1,0,0] 81):=cp MR [false,false,false,true,true] [[1,2,3,0,0,0]] (@Cz C) (a9 av)
noncomputable def U6 (C:ah) (op:Int) (kids:LV):Option LV:=
 (Loop (CA C op kids (kids.length:Int)) (0,([]:LV))).bind (un fun (t_2:Int)=>un fun (jz:Bool) (ae5:LV)=>
  some [.list aa ae5])
theorem ae6 {op:Int} {kids:LV} {r:Option LV} (h:U6 CC op kids=r):CC yC [V.int .i64 op,.list aa kids]=r:=aY (bB (ae4 CC) av) h
noncomputable def U7 (C:ah) (op:Int) (parts:LV) (Hz HA:Int) (HB:LV):Option LV:=
 bif ((parts.length:Int):Int)==0 then
  some [V.int .i64 Hz,V.int .i64 HA,.list aa HB]
 else
  bif ((parts.length:Int):Int)==1 then
  (parts[0]?).bind fun x1=>
  some [V.int .i64 ((x1.cell 0).toInt),V.int .i64 ((x1.cell 1).toInt),.list aa ((x1.cell 2).toList)]
  else
  some [V.int .i64 op,V.int .i64 0,.list aa parts]
theorem ae7 {op:Int} {parts:LV} {Hz HA:Int} {HB:LV} {r:Option LV} (h:U7 CC op parts Hz HA HB=r):CC ny [V.int .i64 op,.list aa parts,V.int .i64 Hz,V.int .i64 HA,.list aa HB]=r:=aY (L:=aZ) av h
noncomputable def ae8 (C:ah):Option LV:=
 some [V.int .i64 1,V.int .i64 0,.list aa ([]:LV)]
theorem ae9 {r:Option LV} (h:ae8 CC=r):CC qA []=r:=aY (L:=aZ) av h
noncomputable def afa (C:ah):Option LV:=
 some [V.int .i64 2,V.int .i64 0,.list aa ([]:LV)]
theorem afb {r:Option LV} (h:afa CC=r):CC vO []=r:=aY (L:=aZ) av h
noncomputable def U8 (C:ah):Option LV:=
 (C qA []).bind fun r1=>
 some [V.int .i64 8,V.int .i64 0,.list aa ([.agg [V.int .i64 ((V.nth r1 0).toInt),V.int .i64 ((V.nth (r1.drop 1) 0).toInt),.list aa ((V.nth (r1.drop 2) 0).toList)]]:LV)]
theorem afc {r:Option LV} (h:U8 CC=r):CC tD []=r:=aY (L:=aZ) av h
end Go.AM
set_option maxRecDepth 100000
namespace Go.AM
open Go.Proofs Ex
theorem afd {op:Int} {ks:List Ex} (hn:ks.length≤1000000) (hl:(bp op ks).length≤1000000):
  ∀(ay pre:List Ex),ks=pre++ay→
  Loop (CA CC op (ks.map enc) ((ks.map enc).length:Int)) (((pre.length:Nat):Int),(bp op pre).map enc)=some (((ks.map enc).length:Int),false,(bp op ks).map enc):=by
 intro ay
 induction ay with
 | nil=>
  intro pre e
  rw[dr] at e
  subst e
  refine aV ?_
  simp only[CA,Cz,un,aK]
  rw[aA,aM,eP]
 | cons k ay ih=>
  intro pre e
  have aJ:pre.length<ks.length:=by rw[e];simp
  have hi:idx (ks.map enc) ((pre.length:Nat):Int)=some k.enc:=by rw[e];exact gM pre ay k
  have hf:bp op ks=bp op pre++((if k.op=op then k.kids else [k])++bp op ay):=by
   rw[e];unfold bp;rw[EF,l9]
  have Bo:bp op (pre++[k])=bp op pre++(if k.op=op then k.kids else [k]):=by
   unfold bp;rw[EF,l9,List.flatMap_nil,dr]
  rw[hf,cg,cg] at hl
  have ca:CA CC op (ks.map enc) ((ks.map enc).length:Int) (((pre.length:Nat):Int),(bp op pre).map enc)=some (.inl (((pre.length+1:Nat):Int),(bp op (pre++[k])).map enc)):=by
   simp only[CA,Cz,un,aK]
   rw[aA,bf,hi,Bo]
   simp only[Option.bind_some,bu,bE,bD,dx,BR,aK,List.length_singleton]
   by_cases h:k.op=op
   ·rw[aj h] at hl⊢
    rw[aj h,aj (by rw[iK];omega),bP,eJ]
    rfl
   ·rw[an h] at hl⊢
    rw[List.length_singleton] at hl
    rw[an h,aj (by rw[iK];omega),bP,eJ,←dA]
    rfl
  rw[bQ ca]
  have:=ih (pre++[k]) (by simp[e])
  simpa using this
theorem NM {op:Int} {ks:List Ex} (hn:ks.length≤1000000) (hl:(bp op ks).length≤1000000):CC yC [.int .i64 op,.list aa (ks.map enc)]=some [.list aa ((bp op ks).map enc)]:=by
 refine ae6 ?_
 unfold U6
 refine (congrArg (fun o=>Option.bind o _) (afd hn hl ks [] rfl)).trans ?_
 rfl
def eM (e:Ex):List V:=[.int .i64 e.op,.int .i64 e.bH,.list aa (e.kids.map enc)]
def iM (op:Int) (l:List Ex) (og:Ex):Ex:=
 match l with
 | []=>og
 | [k]=>k
 | l=> .node op 0 l
theorem qE {op:Int} {l:List Ex} {z:Ex}:CC ny (.int .i64 op:: .list aa (l.map enc)::eM z)=some (eM (iM op l z)):=by
 refine ae7 ?_
 unfold U7
 simp only[dx,aK]
 match l with
 | []=>simp[iM,eM]
 | [k]=>simp[iM,eM,bu,bE,bD]
 | k::k2::l=>
  rw[an (by simp only[List.length_cons];omega),an (by simp only[List.length_cons];omega)]
  rfl
end Go.AM
set_option maxRecDepth 100000
set_option maxHeartbeats 1000000
namespace Go.AM
open Go.Proofs Ex
def Ex.lx (a b:Ex):Prop:=cmp a b<0
noncomputable instance (a b:Ex):Decidable (a.lx b):=by unfold Ex.lx;infer_instance
theorem Ex.U9 (a:Ex): ¬a.lx a:=by unfold Ex.lx;rw[Cw];omega
theorem Ex.NN {a b c:Ex} (h1:a.lx b) (U:b.lx c):a.lx c:=by
 unfold Ex.lx at*
 have h3:=NJ a b c (by omega) (by omega)
 refine Decidable.byContradiction fun h=> ?_
 have h0:cmp a c=0:=by omega
 have:=v8 a c h0
 subst this
 have:=tN a b
 omega
theorem Ex.afe {a b:Ex}:a.lx b→¬b.lx a:=by
 unfold Ex.lx
 have:=tN a b
 omega
theorem Ex.Va {a b:Ex} (h1: ¬a.lx b) (U: ¬b.lx a):a=b:=by
 unfold Ex.lx at*
 have:=tN a b
 exact v8 a b (by omega)
abbrev kq (E:List Ex):Prop:=E.Pairwise Ex.lx
theorem NO: ∀{A B:List Ex},kq A→kq B→(∀x,x∈A↔x∈B)→A=B
 | [],[],_,_,_=>rfl
 | [],b::B,_,_,h=>by have:=(h b).2 (by simp);cases this
 | a::A,[],_,_,h=>by have:=(h a).1 (by simp);cases this
 | a::A,b::B,hA,hB,h=>by
  have a1:=uy.1 hA
  have b1:=uy.1 hB
  have fN:a=b:=by
   have ha:=(h a).1 (by simp)
   have hb:=(h b).2 (by simp)
   rcases dO.1 ha with e|e
   ·exact e
   ·rcases dO.1 hb with e'|e'
    ·exact e'.symm
    ·exact absurd (a1.1 b e') (Ex.afe (b1.1 a e))
  subst fN
  rw[NO a1.2 b1.2 fun x=> ?_]
  constructor
  ·intro hx
   rcases dO.1 ((h x).1 (by simp[hx])) with e|e
   ·subst e;exact absurd (a1.1 x hx) (Ex.U9 x)
   ·exact e
  ·intro hx
   rcases dO.1 ((h x).2 (by simp[hx])) with e|e
   ·subst e;exact absurd (b1.1 x hx) (Ex.U9 x)
   ·exact e
open Classical in
noncomputable def v9 (out:List Ex) (e:Ex):List Ex:=
 if fE out e out.length=0∨¬out.getD (fE out e out.length-1) aF=e then out.take (fE out e out.length)++[e]++out.drop (fE out e out.length) else out
theorem Vb (out:List Ex) (e:Ex): ∀k i,fE out e k≤i→i<k→e.lx (out.getD i aF)
 | 0,i,_,h=>by omega
 | k+1,i,h1,U=>by
  unfold fE at h1
  split at h1
  ·rename_i h3
   by_cases hi:i=k
   ·subst hi;exact h3
   ·exact Vb out e k i h1 (by omega)
  ·omega
theorem Vc (out:List Ex) (e:Ex): ∀k,fE out e k≠0→¬e.lx (out.getD (fE out e k-1) aF)
 | 0,h=>by simp[fE] at h
 | k+1,h=>by
  unfold fE at h⊢
  split
  ·rename_i h3
   rw[aj h3] at h
   exact Vc out e k h
  ·rename_i h3
   exact h3
theorem aff {out:List Ex} {e x:Ex} (hk:fE out e out.length≤out.length):x∈v9 out e↔x=e∨x∈out:=by
 unfold v9
 split
 ·rename_i h
  have:=EC (fE out e out.length) out
  constructor
  ·intro hx
   simp only[cC,eZ,eH] at hx
   rcases hx with hx|hx|hx
   ·exact .inr (List.mem_of_mem_take hx)
   ·exact .inl hx
   ·exact .inr (List.mem_of_mem_drop hx)
  ·rintro (rfl|hx)
   ·simp
   ·rw[←this] at hx
    simp only[eZ] at hx
    simp only[cC,eZ,eH]
    rcases hx with hx|hx
    ·exact .inl hx
    ·exact .inr (.inr hx)
 ·rename_i h
  simp only[not_or,Classical.not_not] at h
  constructor
  ·exact .inr
  ·rintro (rfl|hx)
   ·have h1:=h.2
    have U:fE out x out.length-1<out.length:=by omega
    rw[←h1]
    simp[U]
   ·exact hx
theorem afg {out:List Ex} {e:Ex} (h:kq out):kq (v9 out e):=by
 have hk:=Cy out e out.length
 have up:=Vb out e out.length
 have dn:=Vc out e out.length
 unfold v9
 generalize hq:fE out e out.length=k at*
 split
 ·rename_i hc
  have g:=EE.1 h
  have ju: ∀x∈out.take k,x.lx e:=by
   intro x hx
   obtain ⟨i,hi,rfl⟩:=List.getElem_of_mem hx
   have eo:i<k:=by rw[eI] at hi;omega
   have rG:i<out.length:=by omega
   rw[List.getElem_take]
   have yW:k≠0:=by omega
   have h1:=dn yW
   have U: ¬out.getD (k-1) aF=e:=by
    rcases hc with hc|hc
    ·exact absurd hc yW
    ·exact hc
   have fO:k-1<out.length:=by omega
   have e1:out.getD (k-1) aF=out[k-1]:=by simp[fO]
   rw[e1] at h1 U
   have h3:out[k-1].lx e:=by
    by_cases h4:out[k-1].lx e
    ·exact h4
    ·exact absurd (Ex.Va h4 h1) U
   by_cases hik:i=k-1
   ·subst hik;exact h3
   ·exact Ex.NN (g i (k-1) rG fO (by omega)) h3
  have iH: ∀y∈out.drop k,e.lx y:=by
   intro y hy
   obtain ⟨i,hi,rfl⟩:=List.getElem_of_mem hy
   rw[oM] at hi
   rw[List.getElem_drop]
   have:=up (k+i) (by omega) (by omega)
   have e1:out.getD (k+i) aF=out[k+i]:=by simp[show k+i<out.length by omega]
   rwa [e1] at this
  rw[kq,cC,List.pairwise_append]
  refine ⟨h.sublist (List.take_sublist _ _),?_,?_⟩
  ·rw[List.singleton_append,uy]
   exact ⟨iH,h.sublist (List.drop_sublist _ _)⟩
  ·intro x hx y hy
   rw[List.singleton_append,dO] at hy
   rcases hy with rfl|hy
   ·exact ju x hx
   ·exact Ex.NN (ju x hx) (iH y hy)
 ·exact h
theorem NP (out:List Ex) (e:Ex):ep out e=v9 out e:=by
 unfold ep v9
 generalize fE out e out.length=k
 by_cases h:k=0∨¬out.getD (k-1) aF=e
 ·rw[aj h,an (fun U=>by
   rcases h with h|h
   ·omega
   ·exact h (v8 _ _ U.2))]
  simp
 ·rw[an h,aj]
  simp only[not_or,Classical.not_not] at h
  exact ⟨by omega,by rw[h.2];exact Cw e⟩
end Go.AM
set_option maxRecDepth 100000
namespace Go.AM
open Go.Proofs Ex
def eG:Ex:= .node 1 0 []
def jU:Ex:= .node 2 0 []
def jB:Ex:= .node 8 0 [eG]
def eg (o l:Int) (ks:List Ex):Ex:=
 if o=8 then (let k:=ks.getD 0 aF;if k.op=8 then k.kids.getD 0 aF else .node o l ks)
 else if o=7 then (let k:=ks.getD 0 aF;if k.op=1∨k.op=2 then jU else if k.op=7∨univ k=true then k else .node o l ks)
 else if o=5 then (let f:=bp 5 ks;if f.any (fun k=>decide (k.op=1)) then eG else iM 5 (f.filter fun k=>decide (k.op≠2)) jU)
 else if o=4 then (let f:=bp 4 ks;if f.any univ then jB else iM 4 ((f.filter fun k=>decide (k.op≠1)).foldl ep []) eG)
 else if o=6 then (let f:=bp 6 ks;if f.any (fun k=>decide (k.op=1)) then eG else iM 6 ((f.filter fun k=> !(univ k)).foldl ep []) jB)
 else .node o l ks
mutual
def aL:Ex→Ex
 | .node o l ks=>eg o l (CB ks)
def CB:List Ex→List Ex
 | []=>[]
 | k::ks=>aL k::CB ks
end
theorem Vd: ∀ks,CB ks=ks.map aL
 | []=>by simp only[CB,fJ]
 | k::ks=>by simp only[CB,cM,Vd ks]
theorem afh {out:List Ex} {e:Ex} (h:kq out):kq (ep out e):=by rw[NP];exact afg h
theorem Ve {out:List Ex} {e x:Ex}:x∈ep out e↔x=e∨x∈out:=by rw[NP];exact aff (Cy _ _ _)
theorem HC: ∀(l out:List Ex),kq out→kq (l.foldl ep out)∧∀x,x∈l.foldl ep out↔x∈l∨x∈out
 | [],out,h=>⟨h,by simp⟩
 | e::l,out,h=>by
  obtain ⟨h1,U⟩:=HC l (ep out e) (afh h)
  refine ⟨h1,fun x=> ?_⟩
  rw[List.foldl_cons,U,Ve]
  simp only[dO]
  constructor
  ·rintro (h|h|h)
   ·exact .inl (.inr h)
   ·exact .inl (.inl h)
   ·exact .inr h
  ·rintro ((h|h)|h)
   ·exact .inr (.inl h)
   ·exact .inl h
   ·exact .inr (.inr h)
theorem Vf (l:List Ex) (x:Ex):(ep l x).length≤l.length+1:=by
 rw[NP]
 unfold v9
 have hk:=Cy l x l.length
 generalize fE l x l.length=k at*
 split
 ·simp;omega
 ·omega
theorem Vg {l:List Ex} {x:Ex} (hl: ∀k∈l,k.Ok) (hx:x.Ok): ∀k∈ep l x,k.Ok:=fun k hk=>by
 rcases Ve.1 hk with rfl|hk
 ·exact hx
 ·exact hl k hk
def sb (o:Int) (ks:List Ex):Prop:=
 (o=8→∀k∈ks,k.op≠8)∧
 (o=7→∀k∈ks,k.op≠1∧k.op≠2∧k.op≠7∧univ k=false)∧
 (o=5→∀k∈ks,k.op≠5∧k.op≠1∧k.op≠2)∧
 (o=4→kq ks∧∀k∈ks,k.op≠4∧k.op≠1∧univ k=false)∧
 (o=6→kq ks∧∀k∈ks,k.op≠6∧k.op≠1∧univ k=false)
inductive Nm:Ex→Prop
 | node {o l:Int} {ks:List Ex}:(∀k∈ks,Nm k)→sb o ks→Nm (.node o l ks)
theorem Nm.mG {o l:Int} {ks:List Ex} (h:Nm (.node o l ks)): ∀k∈ks,Nm k:=by cases h;assumption
theorem Nm.ok {o l:Int} {ks:List Ex} (h:Nm (.node o l ks)):sb o ks:=by cases h;assumption
def Gd (n:Int) (e:Ex):Prop:=Nm e∧e.wf n=true
theorem wa {n o l:Int} {ks:List Ex} (h:ee o l ks.length n=true) (hk: ∀k∈ks,k.wf n=true):(Ex.node o l ks).wf n=true:=by
 have: ∀ks:List Ex,(∀k∈ks,k.wf n=true)→iL n ks=true:=by
  intro ks
  induction ks with
  | nil=>intro _;simp only[iL]
  | cons k ks ih=>intro h;simp only[iL,h k (by simp),ih fun k hk=>h k (by simp[hk]),mU]
 simp only[Ex.wf,h,this ks hk,mU]
theorem eU {o l len n:Int} (h:ee o l len n=true):(o=3∧len=0∧0≤l∧l<n)∨(l=0∧((o=1∧len=0)∨(o=2∧len=0)∨(o=4∧2≤len)∨(o=5∧2≤len)∨(o=6∧2≤len)∨(o=7∧len=1)∨(o=8∧len=1))):=by
 unfold ee at h
 split at h
 ·rename_i h3
  have:=gB h
  omega
 ·rw[aO] at h
  have h1:=gB h.1
  have U:=h.2
  split at U
  ·have:=gB U;omega
  ·split at U
   ·have:=gB U;omega
   ·have:=gB U;omega
theorem Gd.kids {n:Int} {e:Ex} (h:Gd n e): ∀k∈e.kids,Gd n k:=by
 obtain ⟨o,l,ks⟩:=e
 exact fun k hk=>⟨h.1.mG k hk,(ib h.2).2 k hk⟩
theorem Gd.ok {n:Int} {e:Ex} (h:Gd n e):sb e.op e.kids:=by
 obtain ⟨o,l,ks⟩:=e
 exact h.1.ok
theorem Gd.shape {n:Int} {e:Ex} (h:Gd n e):ee e.op e.bH e.kids.length n=true:=by
 obtain ⟨o,l,ks⟩:=e
 exact (ib h.2).1
theorem Gd.mk' {n o l:Int} {ks:List Ex} (h1: ∀k∈ks,Gd n k) (U:sb o ks) (h3:ee o l ks.length n=true):Gd n (.node o l ks):=
 ⟨.node (fun k hk=>(h1 k hk).1) U,wa h3 fun k hk=>(h1 k hk).2⟩
theorem HD {n:Int}:Gd n eG:= .mk' (by simp) ⟨by simp,by simp,by simp,by simp,by simp⟩ (by simp[ee])
theorem Vh {n:Int}:Gd n jU:= .mk' (by simp) ⟨by simp,by simp,by simp,by simp,by simp⟩ (by simp[ee])
theorem Vi {n:Int}:Gd n jB:= .mk' (by simp[HD]) ⟨by simp[eG,Ex.op],by simp,by simp,by simp,by simp⟩ (by simp[ee])
theorem afi {n:Int} {e:Ex} (h:Gd n e) (hu:univ e=true):e=jB:=by
 obtain ⟨o,l,ks⟩:=e
 have hs:=eU h.shape
 have hu:=gB hu
 simp only[Ex.op,Ex.kids,Ex.bH] at*
 match ks,hu with
 | [k],hu=>
  obtain ⟨o2,l2,jV⟩:=k
  have lI:=eU (h.kids _ (eH.2 rfl)).shape
  simp only[Ex.op,Ex.kids,Ex.bH,An] at*
  obtain rfl:jV=[]:=jY.1 (by omega)
  unfold jB eG
  rw[show o=8 by omega,show l=0 by omega,show o2=1 by omega,show l2=0 by omega]
theorem empty_eq {n:Int} {e:Ex} (h:Gd n e) (ho:e.op=1):e=eG:=by
 obtain ⟨o,l,ks⟩:=e
 have hs:=eU h.shape
 simp only[Ex.op,Ex.kids,Ex.bH] at*
 obtain rfl:ks=[]:=jY.1 (by omega)
 unfold eG
 rw[show o=1 by omega,show l=0 by omega]
theorem unit_eq {n:Int} {e:Ex} (h:Gd n e) (ho:e.op=2):e=jU:=by
 obtain ⟨o,l,ks⟩:=e
 have hs:=eU h.shape
 simp only[Ex.op,Ex.kids,Ex.bH] at*
 obtain rfl:ks=[]:=jY.1 (by omega)
 unfold jU
 rw[show o=2 by omega,show l=0 by omega]
theorem HE (a b:List Ex):aR (a++b)=aR a+aR b:=by
 induction a with
 | nil=>simp[aR]
 | cons k a ih=>simp only[List.cons_append,aR,ih];omega
theorem NQ (p:Ex→Bool) (l:List Ex):aR (l.filter p)≤aR l:=by
 induction l with
 | nil=>simp[aR]
 | cons k l ih=>
  rw[p6]
  split
  ·simp only[aR];omega
  ·simp only[aR];omega
theorem lg (l:List Ex):l.length≤aR l:=by
 induction l with
 | nil=>simp[aR]
 | cons k l ih=>simp only[aR,List.length_cons];have:=k.size_pos;omega
theorem sc (o:Int) (l:List Ex):aR (bp o l)≤aR l:=by
 induction l with
 | nil=>simp[aR,bp]
 | cons k l ih=>
  have e:bp o (k::l)=(if k.op=o then k.kids else [k])++bp o l:=by simp[bp]
  rw[e,HE]
  simp only[aR]
  split
  ·obtain ⟨o2,l2,ks⟩:=k
   simp only[Ex.kids,size] at*;omega
  ·simp only[aR];omega
theorem afj (l:List Ex) (x:Ex):aR (ep l x)≤aR l+x.size:=by
 unfold ep
 simp only
 split
 ·omega
 ·have:=congrArg aR (EC (fE l x l.length) l)
  rw[HE] at this
  rw[HE]
  simp only[aR]
  omega
theorem NR: ∀(l acc:List Ex),aR (l.foldl ep acc)≤aR acc+aR l
 | [],acc=>by simp[aR]
 | k::l,acc=>by
  rw[List.foldl_cons]
  have h1:=NR l (ep acc k)
  have U:=afj acc k
  simp only[aR]
  omega
theorem sd {l:List Ex} {d:Nat}:c8 l≤d↔∀k∈l,k.depth≤d:=by
 induction l with
 | nil=>simp[c8]
 | cons k l ih=>simp only[c8,Nat.max_le,ih,dO,forall_eq_or_imp]
theorem Vj {ks:List Ex} {k:Ex} (h:k∈ks):k.depth≤c8 ks:=sd.1 (cl _) k h
theorem oz {o:Int} {l:List Ex} {x:Ex}:x∈bp o l↔∃k∈l,(k.op=o∧x∈k.kids)∨(k.op≠o∧x=k):=by
 unfold bp
 rw[List.mem_flatMap]
 constructor
 ·rintro ⟨k,hk,hx⟩
  refine ⟨k,hk,?_⟩
  by_cases h:k.op=o
  ·rw[aj h] at hx;exact .inl ⟨h,hx⟩
  ·rw[an h] at hx;exact .inr ⟨h,by simpa using hx⟩
 ·rintro ⟨k,hk,h|h⟩
  ·exact ⟨k,hk,by rw[aj h.1];exact h.2⟩
  ·exact ⟨k,hk,by rw[an h.1];simp[h.2]⟩
theorem NS {o:Int} {l:List Ex} {d:Nat} (h:c8 l≤d):c8 (bp o l)≤d:=by
 rw[sd] at*
 intro x hx
 obtain ⟨k,hk,h1|h1⟩:=oz.1 hx
 ·have:=h k hk
  have U:=Vj h1.2
  obtain ⟨o2,l2,ks⟩:=k
  simp only[Ex.kids,depth] at*
  omega
 ·rw[h1.2];exact h k hk
theorem NT {o:Int} {l:List Ex} {z:Ex} {m:Nat} (h:1+aR l≤m) (hz:z.size≤m):(iM o l z).size≤m:=by
 match l,h with
 | [],_=>exact hz
 | [k],h=>simp only[iM,aR] at*;omega
 | k::k2::l,h=>simp only[iM,size];omega
theorem NU {o:Int} {l:List Ex} {z:Ex} {m:Nat} (h:1+c8 l≤m) (hz:z.depth≤m):(iM o l z).depth≤m:=by
 match l,h with
 | [],_=>exact hz
 | [k],h=>simp only[iM,c8] at*;omega
 | k::k2::l,h=>simp only[iM,depth];omega
theorem NV {n o:Int} {l:List Ex} {z:Ex} (hz:Gd n z) (hl: ∀k∈l,Gd n k) (hn:sb o l) (ho:4≤o∧o≤6):Gd n (iM o l z):=by
 match l,hl,hn with
 | [],_,_=>exact hz
 | [k],h,_=>exact h k (by simp)
 | k::k2::l,h,hn=>
  refine .mk' h hn ?_
  unfold ee
  rw[aM,aM,aM]
  simp only[List.length_cons,sB,mU]
  exact cz (by omega)
section
variable {n:Int} {ks:List Ex} (hk: ∀k∈ks,Gd n k)
include hk
theorem NW (o:Int): ∀k∈bp o ks,Gd n k:=fun x hx=>by
 obtain ⟨k,h,h1|h1⟩:=oz.1 hx
 ·exact (hk k h).kids x h1.2
 ·rw[h1.2];exact hk k h
theorem afk: ∀k∈bp 5 ks,k.op≠5:=fun x hx=>by
 obtain ⟨k,h,h1|h1⟩:=oz.1 hx
 ·exact ((hk k h).ok.2.2.1 h1.1 x h1.2).1
 ·rw[h1.2];exact h1.1
theorem afl: ∀k∈bp 4 ks,k.op≠4:=fun x hx=>by
 obtain ⟨k,h,h1|h1⟩:=oz.1 hx
 ·exact (((hk k h).ok.2.2.2.1 h1.1).2 x h1.2).1
 ·rw[h1.2];exact h1.1
theorem afm: ∀k∈bp 6 ks,k.op≠6:=fun x hx=>by
 obtain ⟨k,h,h1|h1⟩:=oz.1 hx
 ·exact (((hk k h).ok.2.2.2.2 h1.1).2 x h1.2).1
 ·rw[h1.2];exact h1.1
theorem NX:(bp 5 ks).any (fun k=>decide (k.op=1))=ks.any fun k=>decide (k.op=1):=by
 rw[oQ,oP,oP]
 simp only[ej]
 constructor
 ·rintro ⟨x,hx,h⟩
  obtain ⟨k,U,h1|h1⟩:=oz.1 hx
  ·exact absurd h ((hk k U).ok.2.2.1 h1.1 x h1.2).2.1
  ·exact ⟨k,U,h1.2▸h⟩
 ·rintro ⟨k,h1,h⟩
  exact ⟨k,oz.2 ⟨k,h1,.inr ⟨by omega,rfl⟩⟩,h⟩
theorem afn:(bp 6 ks).any (fun k=>decide (k.op=1))=ks.any fun k=>decide (k.op=1):=by
 rw[oQ,oP,oP]
 simp only[ej]
 constructor
 ·rintro ⟨x,hx,h⟩
  obtain ⟨k,U,h1|h1⟩:=oz.1 hx
  ·exact absurd h (((hk k U).ok.2.2.2.2 h1.1).2 x h1.2).2.1
  ·exact ⟨k,U,h1.2▸h⟩
 ·rintro ⟨k,h1,h⟩
  exact ⟨k,oz.2 ⟨k,h1,.inr ⟨by omega,rfl⟩⟩,h⟩
theorem Vk:(bp 4 ks).any univ=ks.any univ:=by
 rw[oQ,oP,oP]
 constructor
 ·rintro ⟨x,hx,h⟩
  obtain ⟨k,U,h1|h1⟩:=oz.1 hx
  ·rw[(((hk k U).ok.2.2.2.1 h1.1).2 x h1.2).2.2] at h;cases h
  ·exact ⟨k,U,h1.2▸h⟩
 ·rintro ⟨k,h1,h⟩
  have:=gB h
  exact ⟨k,oz.2 ⟨k,h1,.inr ⟨by omega,rfl⟩⟩,h⟩
end
theorem tQ {l:Int} {ks:List Ex}:eg 5 l ks=if (bp 5 ks).any (fun k=>decide (k.op=1)) then eG else iM 5 ((bp 5 ks).filter fun k=>decide (k.op≠2)) jU:=by
 unfold eg;rw[aM,aM,aj rfl]
theorem wc {l:Int} {ks:List Ex}:eg 4 l ks=if (bp 4 ks).any univ then jB else iM 4 (((bp 4 ks).filter fun k=>decide (k.op≠1)).foldl ep []) eG:=by
 unfold eg;rw[aM,aM,aM,aj rfl]
theorem yZ {l:Int} {ks:List Ex}:eg 6 l ks=if (bp 6 ks).any (fun k=>decide (k.op=1)) then eG else iM 6 (((bp 6 ks).filter fun k=> !(univ k)).foldl ep []) jB:=by
 unfold eg;rw[aM,aM,aM,aM,aj rfl]
theorem y4 {l:Int} {k:Ex}:eg 7 l [k]=if k.op=1∨k.op=2 then jU else if k.op=7∨univ k=true then k else .node 7 l [k]:=by
 unfold eg;rw[aM,aj rfl];rfl
theorem y5 {l:Int} {k:Ex}:eg 8 l [k]=if k.op=8 then k.kids.getD 0 aF else .node 8 l [k]:=by
 unfold eg;rw[aj rfl];rfl
theorem ku {o l:Int} (h:o=1∨o=2∨o=3) {ks:List Ex}:eg o l ks= .node o l ks:=by
 unfold eg;rw[aM,aM,aM,aM,aM]
theorem Vl {n:Int} {l:List Ex} (h: ∀k∈l,Gd n k): ∀k∈l.foldl ep [],Gd n k:=fun k hk=>by
 rcases ((HC l [] .nil).2 k).1 hk with h1|h1
 ·exact h k h1
 ·cases h1
theorem y6 {l:List Ex} {x:Ex}:x∈l.foldl ep []↔x∈l:=by
 rw[(HC l [] .nil).2 x];simp
theorem HF {l:List Ex}:kq (l.foldl ep []):=(HC l [] .nil).1
theorem afo {l:List Ex} (h: ∀k∈l,k.op≠5∧k.op≠1∧k.op≠2):sb 5 l:=⟨by simp,by simp,fun _=>h,by simp,by simp⟩
theorem afp {l:List Ex} (h:kq l∧∀k∈l,k.op≠4∧k.op≠1∧univ k=false):sb 4 l:=⟨by simp,by simp,by simp,fun _=>h,by simp⟩
theorem afq {l:List Ex} (h:kq l∧∀k∈l,k.op≠6∧k.op≠1∧univ k=false):sb 6 l:=⟨by simp,by simp,by simp,by simp,fun _=>h⟩
theorem any_false {α:Type} {p:α→Bool} {l:List α} (h: ¬l.any p=true): ∀x∈l,p x=false:=fun x hx=>by
 cases hp:p x with
 | false=>rfl
 | true=>exact absurd (oP.2 ⟨x,hx,hp⟩) h
theorem afr {n o l:Int} {ks:List Ex} (hk: ∀k∈ks,Gd n k) (hs:ee o l ks.length n=true):Gd n (eg o l ks):=by
 rcases eU hs with ⟨rfl,h1,_⟩|⟨rfl,⟨rfl,h1⟩|⟨rfl,h1⟩|⟨rfl,h1⟩|⟨rfl,h1⟩|⟨rfl,h1⟩|⟨rfl,h1⟩|⟨rfl,h1⟩⟩
 ·rw[ku (by omega)];exact .mk' hk ⟨by simp,by simp,by simp,by simp,by simp⟩ hs
 ·rw[ku (by omega)];exact .mk' hk ⟨by simp,by simp,by simp,by simp,by simp⟩ hs
 ·rw[ku (by omega)];exact .mk' hk ⟨by simp,by simp,by simp,by simp,by simp⟩ hs
 ·rw[wc]
  split
  ·exact Vi
  ·rename_i hu
   refine NV HD (Vl fun k h=>NW hk 4 k (oR.1 h).1) (afp ⟨HF,fun k h=> ?_⟩) (by omega)
   have U:=oR.1 (y6.1 h)
   exact ⟨afl hk k U.1,gB U.2,any_false hu k U.1⟩
 ·rw[tQ]
  split
  ·exact HD
  ·rename_i hu
   refine NV Vh (fun k h=>NW hk 5 k (oR.1 h).1) (afo fun k h=> ?_) (by omega)
   have U:=oR.1 h
   exact ⟨afk hk k U.1,of_decide_eq_false (any_false hu k U.1),gB U.2⟩
 ·rw[yZ]
  split
  ·exact HD
  ·rename_i hu
   refine NV Vi (Vl fun k h=>NW hk 6 k (oR.1 h).1) (afq ⟨HF,fun k h=> ?_⟩) (by omega)
   have U:=oR.1 (y6.1 h)
   exact ⟨afm hk k U.1,of_decide_eq_false (any_false hu k U.1),by simpa using U.2⟩
 ·match ks,h1 with
  | [k],_=>
   rw[y4]
   split
   ·exact Vh
   ·split
    ·exact hk k (by simp)
    ·rename_i U h3
     refine .mk' hk ⟨by simp,fun _ x hx=> ?_,by simp,by simp,by simp⟩ hs
     rw[eH.1 hx]
     exact ⟨by omega,by omega,fun h=>h3 (.inl h),by simpa using fun h=>h3 (.inr h)⟩
 ·match ks,h1 with
  | [k],_=>
   rw[y5]
   split
   ·rename_i h8
    have hg:=hk k (by simp)
    have lI:=eU hg.shape
    obtain ⟨o2,l2,jV⟩:=k
    simp only[Ex.op,Ex.kids,Ex.bH] at*
    match jV,(show (jV.length:Int)=1 by omega) with
    | [x],_=>exact hg.kids x (by simp[Ex.kids])
   ·rename_i h8
    refine .mk' hk ⟨fun _ x hx=> ?_,by simp,by simp,by simp,by simp⟩ hs
    rw[eH.1 hx]
    exact h8
theorem afs {n o l:Int} {ks:List Ex} (hs:ee o l ks.length n=true):(eg o l ks).size≤1+aR ks:=by
 have hl:=lg ks
 have z1:eG.size=1:=by simp[eG,size,aR]
 have z2:jU.size=1:=by simp[jU,size,aR]
 have z3:jB.size=2:=by simp[jB,eG,size,aR]
 rcases eU hs with ⟨rfl,h1,_⟩|⟨rfl,⟨rfl,h1⟩|⟨rfl,h1⟩|⟨rfl,h1⟩|⟨rfl,h1⟩|⟨rfl,h1⟩|⟨rfl,h1⟩|⟨rfl,h1⟩⟩
 ·rw[ku (by omega)];simp only[size];omega
 ·rw[ku (by omega)];simp only[size];omega
 ·rw[ku (by omega)];simp only[size];omega
 ·rw[wc]
  have a1:=sc 4 ks
  have a2:=NQ (fun k=>decide (k.op≠1)) (bp 4 ks)
  have a3:=NR ((bp 4 ks).filter fun k=>decide (k.op≠1)) []
  simp only[aR] at a3
  split
  ·omega
  ·exact NT (by omega) (by omega)
 ·rw[tQ]
  have a1:=sc 5 ks
  have a2:=NQ (fun k=>decide (k.op≠2)) (bp 5 ks)
  split
  ·omega
  ·exact NT (by omega) (by omega)
 ·rw[yZ]
  have a1:=sc 6 ks
  have a2:=NQ (fun k=> !(univ k)) (bp 6 ks)
  have a3:=NR ((bp 6 ks).filter fun k=> !(univ k)) []
  simp only[aR] at a3
  split
  ·omega
  ·exact NT (by omega) (by omega)
 ·match ks,h1 with
  | [k],_=>
   rw[y4]
   simp only[aR] at*
   split
   ·omega
   ·split
    ·omega
    ·simp only[size,aR];omega
 ·match ks,h1 with
  | [k],_=>
   rw[y5]
   simp only[aR] at*
   split
   ·obtain ⟨o2,l2,jV⟩:=k
    match jV with
    | []=>simp[Ex.kids,aF,size,aR]
    | x::jV=>simp only[Ex.kids,An,size,aR];omega
   ·simp only[size,aR];omega
theorem aft {n o l:Int} {ks:List Ex} (hs:ee o l ks.length n=true):(eg o l ks).depth≤1+c8 ks:=by
 have z1:eG.depth=1:=by simp[eG,depth,c8]
 have z2:jU.depth=1:=by simp[jU,depth,c8]
 have z3:jB.depth=2:=by simp[jB,eG,depth,c8]
 have hl:2≤ks.length→1≤c8 ks:=fun h=>by
  match ks,h with
  | k::ks,_=>have:=k.acI;simp only[c8];omega
 rcases eU hs with ⟨rfl,h1,_⟩|⟨rfl,⟨rfl,h1⟩|⟨rfl,h1⟩|⟨rfl,h1⟩|⟨rfl,h1⟩|⟨rfl,h1⟩|⟨rfl,h1⟩|⟨rfl,h1⟩⟩
 ·rw[ku (by omega)];simp only[depth];omega
 ·rw[ku (by omega)];simp only[depth];omega
 ·rw[ku (by omega)];simp only[depth];omega
 ·rw[wc]
  have a1:=sd.1 (NS (o:=4) (cl (c8 ks)))
  have a3:c8 (((bp 4 ks).filter fun k=>decide (k.op≠1)).foldl ep [])≤c8 ks:=sd.2 fun k h=>a1 k (oR.1 (y6.1 h)).1
  split
  ·omega
  ·exact NU (by omega) (by omega)
 ·rw[tQ]
  have a1:=sd.1 (NS (o:=5) (cl (c8 ks)))
  have a3:c8 ((bp 5 ks).filter fun k=>decide (k.op≠2))≤c8 ks:=sd.2 fun k h=>a1 k (oR.1 h).1
  split
  ·omega
  ·exact NU (by omega) (by omega)
 ·rw[yZ]
  have a1:=sd.1 (NS (o:=6) (cl (c8 ks)))
  have a3:c8 (((bp 6 ks).filter fun k=> !(univ k)).foldl ep [])≤c8 ks:=sd.2 fun k h=>a1 k (oR.1 (y6.1 h)).1
  split
  ·omega
  ·exact NU (by omega) (by omega)
 ·match ks,h1 with
  | [k],_=>
   rw[y4]
   simp only[c8] at*
   split
   ·omega
   ·split
    ·omega
    ·simp only[depth,c8];omega
 ·match ks,h1 with
  | [k],_=>
   rw[y5]
   simp only[c8] at*
   split
   ·obtain ⟨o2,l2,jV⟩:=k
    match jV with
    | []=>simp[Ex.kids,aF,depth,c8]
    | x::jV=>simp only[Ex.kids,An,depth,c8];omega
   ·simp only[depth,c8];omega
theorem mJ {o l:Int} {ks:List Ex}:aL (.node o l ks)=eg o l (ks.map aL):=by rw[aL,Vd]
theorem lR {n:Int}: ∀e:Ex,e.wf n=true→Gd n (aL e):=ind fun o l ks ih hw=>by
 obtain ⟨h1,U⟩:=ib hw
 rw[mJ]
 refine afr (fun k hk=> ?_) (by simpa using h1)
 obtain ⟨x,hx,rfl⟩:=gT.1 hk
 exact ih x hx (U x hx)
theorem y7 {n:Int}: ∀e:Ex,e.wf n=true→(aL e).size≤e.size:=ind fun o l ks ih hw=>by
 obtain ⟨h1,U⟩:=ib hw
 have: ∀ks:List Ex,(∀k∈ks,(aL k).size≤k.size)→aR (ks.map aL)≤aR ks:=by
  intro ks
  induction ks with
  | nil=>intro _;simp[aR]
  | cons k ks ih=>intro h;have a:=h k (by simp);have b:=ih fun k hk=>h k (by simp[hk]);simp only[cM,aR];omega
 have h3:=this ks fun k hk=>ih k hk (U k hk)
 rw[mJ]
 have:=afs (n:=n) (o:=o) (l:=l) (ks:=ks.map aL) (by simpa using h1)
 simp only[size]
 omega
theorem afu {n:Int}: ∀e:Ex,e.wf n=true→(aL e).depth≤e.depth:=ind fun o l ks ih hw=>by
 obtain ⟨h1,U⟩:=ib hw
 have h3:c8 (ks.map aL)≤c8 ks:=sd.2 fun x hx=>by
  obtain ⟨k,hk,rfl⟩:=gT.1 hx
  exact lX (ih k hk (U k hk)) (Vj hk)
 rw[mJ]
 have:=aft (n:=n) (o:=o) (l:=l) (ks:=ks.map aL) (by simpa using h1)
 simp only[depth]
 omega
theorem nA {n:Int} (hn:n≤6): ∀e:Ex,e.wf n=true→e.size≤1000000→e.Ok:=ind fun o l ks ih hw hs=>by
 obtain ⟨h1,U⟩:=ib hw
 have hl:=lg ks
 simp only[size] at hs
 have h3:=eU h1
 have hm:ks.length≤maxLen:=by unfold maxLen;omega
 exact .node (by omega) (by omega) hm fun k hk=>ih k hk (U k hk) (by have:=tJ hk;omega)
theorem HG {o:Int}: ∀{ks:List Ex},(∀k∈ks,k.op≠o)→bp o ks=ks
 | [],_=>rfl
 | k::ks,h=>by
  have e:bp o (k::ks)=(if k.op=o then k.kids else [k])++bp o ks:=by simp[bp]
  rw[e,an (h k (by simp)),HG fun k hk=>h k (by simp[hk])]
  rfl
theorem CD {o:Int} {l:List Ex} {z:Ex} (h:2≤l.length):iM o l z= .node o 0 l:=by
 match l,h with
 | k::k2::l,_=>rfl
theorem NY {l:List Ex} (h:kq l):l.foldl ep []=l:=NO HF h fun x=>y6
theorem y8 {α:Type} {p:α→Bool} {l:List α} (h: ∀x∈l,p x=false):l.any p=false:=by
 cases e:l.any p with
 | false=>rfl
 | true=>obtain ⟨x,h1,U⟩:=oP.1 e;rw[h x h1] at U;cases U
theorem afv {n o l:Int} {ks:List Ex} (h:Gd n (.node o l ks)):eg o l ks= .node o l ks:=by
 have hs:ee o l ks.length n=true:=h.shape
 have hk:sb o ks:=h.ok
 rcases eU hs with ⟨rfl,h1,_⟩|⟨rfl,⟨rfl,h1⟩|⟨rfl,h1⟩|⟨rfl,h1⟩|⟨rfl,h1⟩|⟨rfl,h1⟩|⟨rfl,h1⟩|⟨rfl,h1⟩⟩
 ·rw[ku (by omega)]
 ·rw[ku (by omega)]
 ·rw[ku (by omega)]
 ·have h4:=hk.2.2.2.1 rfl
  rw[wc,HG fun k hk=>(h4.2 k hk).1,y8 fun k hk=>(h4.2 k hk).2.2,oS.2 fun k hk=>cz (h4.2 k hk).2.1,NY h4.1,CD (by omega)]
  rfl
 ·have h5:=hk.2.2.1 rfl
  rw[tQ,HG fun k hk=>(h5 k hk).1,y8 fun k hk=>cI (h5 k hk).2.1,oS.2 fun k hk=>cz (h5 k hk).2.2,CD (by omega)]
  rfl
 ·have h6:=hk.2.2.2.2 rfl
  rw[yZ,HG fun k hk=>(h6.2 k hk).1,y8 fun k hk=>cI (h6.2 k hk).2.1,oS.2 fun k hk=>by rw[(h6.2 k hk).2.2];rfl,NY h6.1,CD (by omega)]
  rfl
 ·match ks,h1 with
  | [k],_=>
   have h7:=hk.2.1 rfl k (by simp)
   rw[y4,aM,an]
   rintro (h|h)
   ·exact h7.2.2.1 h
   ·rw[h7.2.2.2] at h;cases h
 ·match ks,h1 with
  | [k],_=>rw[y5,an (hk.1 rfl k (by simp))]
theorem NZ {n:Int}: ∀e:Ex,Gd n e→aL e=e:=ind fun o l ks ih h=>by
 have:ks.map aL=ks:=by
  have U: ∀k∈ks,aL k=k:=fun k hk=>ih k hk (h.kids k hk)
  calc ks.map aL=ks.map id:=sF U
   _=ks:=List.map_id ks
 rw[mJ,this,afv h]
def HH (e:Ex):List Ex:=if e.op=4 then e.kids else if e.op=1 then [] else [e]
def HI (e:Ex):List Ex:=if e.op=5 then e.kids else if e.op=2 then [] else [e]
section
variable {n:Int} {ks:List Ex} (hk: ∀k∈ks,Gd n k)
include hk
theorem ff4:(bp 4 ks).filter (fun k=>decide (k.op≠1))=ks.flatMap HH:=by
 induction ks with
 | nil=>rfl
 | cons k ks ih=>
  have e:bp 4 (k::ks)=(if k.op=4 then k.kids else [k])++bp 4 ks:=by simp[bp]
  rw[e,nS,l9,ih fun k h=>hk k (by simp[h])]
  refine congrArg (· ++_) ?_
  unfold HH
  have h:=hk k (by simp)
  by_cases h4:k.op=4
  ·rw[aj h4,aj h4]
   exact oS.2 fun x hx=>cz ((h.ok.2.2.2.1 h4).2 x hx).2.1
  ·rw[an h4,an h4]
   by_cases h1:k.op=1
   ·rw[aj h1];simp[h1]
   ·rw[an h1];simp[h1]
theorem ff5:(bp 5 ks).filter (fun k=>decide (k.op≠2))=ks.flatMap HI:=by
 induction ks with
 | nil=>rfl
 | cons k ks ih=>
  have e:bp 5 (k::ks)=(if k.op=5 then k.kids else [k])++bp 5 ks:=by simp[bp]
  rw[e,nS,l9,ih fun k h=>hk k (by simp[h])]
  refine congrArg (· ++_) ?_
  unfold HI
  have h:=hk k (by simp)
  by_cases h4:k.op=5
  ·rw[aj h4,aj h4]
   exact oS.2 fun x hx=>cz (h.ok.2.2.1 h4 x hx).2.2
  ·rw[an h4,an h4]
   by_cases h1:k.op=2
   ·rw[aj h1];simp[h1]
   ·rw[an h1];simp[h1]
theorem afw {l:Int}:eg 4 l ks=if ks.any univ then jB else iM 4 ((ks.flatMap HH).foldl ep []) eG:=by
 rw[wc,Vk hk,ff4 hk]
theorem afx {l:Int}:eg 5 l ks=if ks.any (fun k=>decide (k.op=1)) then eG else iM 5 (ks.flatMap HI) jU:=by
 rw[tQ,NX hk,ff5 hk]
end
theorem afy {n:Int} {x:Ex} (h:Gd n x):eg 4 0 [x]=x:=by
 rw[afw (n:=n) (by simpa using h)]
 simp only[List.any_cons,List.any_nil,Bool.or_false,l9,List.flatMap_nil,dr]
 by_cases hu:univ x=true
 ·rw[aj hu,afi h hu]
 ·rw[an hu]
  unfold HH
  by_cases h4:x.op=4
  ·rw[aj h4]
   have hs:=eU h.shape
   have U:=h.ok.2.2.2.1 h4
   obtain ⟨o,l,ks⟩:=x
   simp only[Ex.op,Ex.kids,Ex.bH] at*
   rw[NY U.1,CD (by omega),h4,show l=0 by omega]
  ·rw[an h4]
   by_cases h1:x.op=1
   ·rw[aj h1,empty_eq h h1];rfl
   ·rw[an h1];rfl
theorem afz {n:Int} {x:Ex} (h:Gd n x):eg 5 0 [x]=x:=by
 rw[afx (n:=n) (by simpa using h)]
 simp only[List.any_cons,List.any_nil,Bool.or_false,l9,List.flatMap_nil,dr]
 by_cases hu:x.op=1
 ·rw[cz hu,aj rfl,empty_eq h hu]
 ·rw[cI hu,an (by simp)]
  unfold HI
  by_cases h4:x.op=5
  ·rw[aj h4]
   have hs:=eU h.shape
   obtain ⟨o,l,ks⟩:=x
   simp only[Ex.op,Ex.kids,Ex.bH] at*
   rw[CD (by omega),h4,show l=0 by omega]
  ·rw[an h4]
   by_cases h1:x.op=2
   ·rw[aj h1,unit_eq h h1];rfl
   ·rw[an h1];rfl
end Go.AM
set_option maxRecDepth 100000
namespace Go.AM
open Go.Proofs
noncomputable def Vm (C:ah) (ag aq:Int) (ae:LV):Option LV:=
 some [.bool ((ag:Int)==1)]
theorem afA {ag aq:Int} {ae:LV} {r:Option LV} (h:Vm CC ag aq ae=r):CC nw [V.int .i64 ag,V.int .i64 aq,.list aa ae]=r:=aY (L:=aZ) av h
noncomputable def Vn (C:ah) (ag aq:Int) (ae:LV):Option LV:=
 some [.bool ((ag:Int)==2)]
theorem afB {ag aq:Int} {ae:LV} {r:Option LV} (h:Vn CC ag aq ae=r):CC pw [V.int .i64 ag,V.int .i64 aq,.list aa ae]=r:=aY (L:=aZ) av h
noncomputable def Vo (C:ah) (ag aq:Int) (ae:LV):Option LV:=
 bif (ag:Int)==8 then
  bif ((ae.length:Int):Int)==1 then
  (ae[0]?).bind fun x1=>
  (C nw [V.int .i64 ((x1.cell 0).toInt),V.int .i64 ((x1.cell 1).toInt),.list aa ((x1.cell 2).toList)]).bind fun r2=>
  some [.bool ((V.nth r2 0).toBool)]
  else
  some [.bool false]
 else
  some [.bool false]
theorem afC {ag aq:Int} {ae:LV} {r:Option LV} (h:Vo CC ag aq ae=r):CC nu [V.int .i64 ag,V.int .i64 aq,.list aa ae]=r:=aY (L:=aZ) av h
noncomputable def y9 (C:ah) (s:LV) (t7 t8:Int) {β:Type} (kn:Int→Option β) (kr:((Int) ⊕ (Int × Bool))→Option β):Option β:=
 bif decide ((t8:Int)<t7) then
  (idx s t8).bind fun x1=>
  (C nw [V.int .i64 ((x1.cell 0).toInt),V.int .i64 ((x1.cell 1).toInt),.list aa ((x1.cell 2).toList)]).bind fun r2=>
  bif (V.nth r2 0).toBool then
  kr (.inl t8)
  else
  kn (IntKind.wrap .i64 (t8+1))
 else
  kr (.inr (t8,decide ((t8:Int)<t7)))
noncomputable def we (C:ah) (s:LV) (t7:Int):=fun t8=>y9 C s t7 t8 (fun y=>some (Sum.inl y)) (fun r=>some (Sum.inr r))
noncomputable def afD (C:ah):cr:=cq 33 MP [false,false,true] [[0],[1,2,0,0]] (@y9 C) aZ
theorem afE (C:ah):bC C (afD C) 69 (Lp [1,0,1,0,0] 69):=cp MP [false,false,true] [[0],[1,2,0,0]] (@y9 C) (a9 av)
noncomputable def N0 (C:ah) (s:LV):Option LV:=
 (Loop (we C s (s.length:Int)) 0).bind (cf (fun (jz:Int)=>
  some [V.int .i64 jz]) (un fun (ia:Int) (mH:Bool)=>
  some [V.int .i64 (-1)]))
theorem Vp {s:LV} {r:Option LV} (h:N0 CC s=r):CC rZ [.list aa s]=r:=aY (bB (afE CC) av) h
noncomputable def Vq (C:ah) (s:LV):Option LV:=
 (C rZ [.list aa s]).bind fun r1=>
 some [.bool (decide ((((V.nth r1 0).toInt):Int)≥0))]
theorem afF {s:LV} {r:Option LV} (h:Vq CC s=r):CC tB [.list aa s]=r:=aY (L:=aZ) av h
noncomputable def za (C:ah) (i j:Int) (ss:LV) {β:Type} (kn:(Int × Int × LV)→Option β) (kr:(Int × Int × Bool × LV)→Option β):Option β:=
 bif decide ((j:Int)<(ss.length:Int)) then
  aH ss j fun x2=>
  (C nw [V.int .i64 ((x2.cell 0).toInt),V.int .i64 ((x2.cell 1).toInt),.list aa ((x2.cell 2).toList)]).bind fun r3=>
  bif !((V.nth r3 0).toBool) then
  aH ss i fun x4=>
  kn (IntKind.wrap .i64 (i+1),IntKind.wrap .i64 (j+1),ba ss i (.agg [V.int .i64 ((x2.cell 0).toInt),V.int .i64 ((x2.cell 1).toInt),.list aa ((x2.cell 2).toList)]))
  else
  kn (i,IntKind.wrap .i64 (j+1),ss)
 else
  kr (i,j,decide ((j:Int)<(ss.length:Int)),ss)
noncomputable def wg (C:ah):=un fun i=>un fun j ss=>za C i j ss (fun y=>some (Sum.inl y)) (fun r=>some (Sum.inr r))
noncomputable def afG (C:ah):cr:=cq 81 Nu [true,true,true] [[0,0,0,0]] (@za C) aZ
theorem afH (C:ah):bC C (afG C) 130 (Lp [1,1,1,0,1,0,0] 130):=cp Nu [true,true,true] [[0,0,0,0]] (@za C) (a9 av)
noncomputable def N3 (C:ah) (ss:LV):Option LV:=
 (C rZ [.list aa ss]).bind fun r1=>
 bif (((V.nth r1 0).toInt):Int)==(-1) then
  some [V.bool true,.list aa ss]
 else
  (Loop (wg C) ((V.nth r1 0).toInt,IntKind.wrap .i64 (((V.nth r1 0).toInt)+1),ss)).bind (un fun (dm:Int)=>un fun (N4:Int)=>un fun (pA:Bool) (fi:LV)=>
   bif (decide (0≤dm))&&(decide (dm≤(fi.length:Int))) then
   bif (decide (0≤dm))&&(decide (dm≤((fi.take ((dm:Int).toNat)++(List.replicate (fi.length-((dm:Int).toNat)) (V.agg [V.int .i64 0,V.int .i64 0,.list aa ([]:LV)])++fi.drop (((dm:Int).toNat)+(fi.length-((dm:Int).toNat))))).length:Int))) then
    some [V.bool false,.list aa ((fi.take ((dm:Int).toNat)++(List.replicate (fi.length-((dm:Int).toNat)) (V.agg [V.int .i64 0,V.int .i64 0,.list aa ([]:LV)])++fi.drop (((dm:Int).toNat)+(fi.length-((dm:Int).toNat))))).take ((dm:Int).toNat))]
   else none
   else none)
theorem Vr {ss:LV} {r:Option LV} (h:N3 CC ss=r):CC G4 [.list aa ss]=r:=aY (bB (afH CC) av) h
noncomputable def zb (C:ah) (s:LV) (t7 t8:Int) {β:Type} (kn:Int→Option β) (kr:((Int) ⊕ (Int × Bool))→Option β):Option β:=
 bif decide ((t8:Int)<t7) then
  (idx s t8).bind fun x1=>
  (C pw [V.int .i64 ((x1.cell 0).toInt),V.int .i64 ((x1.cell 1).toInt),.list aa ((x1.cell 2).toList)]).bind fun r2=>
  bif (V.nth r2 0).toBool then
  kr (.inl t8)
  else
  kn (IntKind.wrap .i64 (t8+1))
 else
  kr (.inr (t8,decide ((t8:Int)<t7)))
noncomputable def wh (C:ah) (s:LV) (t7:Int):=fun t8=>zb C s t7 t8 (fun y=>some (Sum.inl y)) (fun r=>some (Sum.inr r))
noncomputable def afI (C:ah):cr:=cq 33 Nt [false,false,true] [[0],[1,2,0,0]] (@zb C) aZ
theorem afJ (C:ah):bC C (afI C) 129 (Lp [1,0,1,0,0] 129):=cp Nt [false,false,true] [[0],[1,2,0,0]] (@zb C) (a9 av)
noncomputable def N5 (C:ah) (s:LV):Option LV:=
 (Loop (wh C s (s.length:Int)) 0).bind (cf (fun (jz:Int)=>
  some [V.int .i64 jz]) (un fun (ia:Int) (mH:Bool)=>
  some [V.int .i64 (-1)]))
theorem Vs {s:LV} {r:Option LV} (h:N5 CC s=r):CC G3 [.list aa s]=r:=aY (bB (afJ CC) av) h
noncomputable def zc (C:ah) (i j:Int) (ss:LV) {β:Type} (kn:(Int × Int × LV)→Option β) (kr:(Int × Int × Bool × LV)→Option β):Option β:=
 bif decide ((j:Int)<(ss.length:Int)) then
  aH ss j fun x2=>
  (C pw [V.int .i64 ((x2.cell 0).toInt),V.int .i64 ((x2.cell 1).toInt),.list aa ((x2.cell 2).toList)]).bind fun r3=>
  bif !((V.nth r3 0).toBool) then
  aH ss i fun x4=>
  kn (IntKind.wrap .i64 (i+1),IntKind.wrap .i64 (j+1),ba ss i (.agg [V.int .i64 ((x2.cell 0).toInt),V.int .i64 ((x2.cell 1).toInt),.list aa ((x2.cell 2).toList)]))
  else
  kn (i,IntKind.wrap .i64 (j+1),ss)
 else
  kr (i,j,decide ((j:Int)<(ss.length:Int)),ss)
noncomputable def wi (C:ah):=un fun i=>un fun j ss=>zc C i j ss (fun y=>some (Sum.inl y)) (fun r=>some (Sum.inr r))
noncomputable def afK (C:ah):cr:=cq 81 Ns [true,true,true] [[0,0,0,0]] (@zc C) aZ
theorem afL (C:ah):bC C (afK C) 128 (Lp [1,1,1,0,1,0,0] 128):=cp Ns [true,true,true] [[0,0,0,0]] (@zc C) (a9 av)
noncomputable def N6 (C:ah) (ss:LV):Option LV:=
 (C G3 [.list aa ss]).bind fun r1=>
 bif (((V.nth r1 0).toInt):Int)==(-1) then
  some [V.bool true,.list aa ss]
 else
  (Loop (wi C) ((V.nth r1 0).toInt,IntKind.wrap .i64 (((V.nth r1 0).toInt)+1),ss)).bind (un fun (dm:Int)=>un fun (N4:Int)=>un fun (pA:Bool) (fi:LV)=>
   bif (decide (0≤dm))&&(decide (dm≤(fi.length:Int))) then
   bif (decide (0≤dm))&&(decide (dm≤((fi.take ((dm:Int).toNat)++(List.replicate (fi.length-((dm:Int).toNat)) (V.agg [V.int .i64 0,V.int .i64 0,.list aa ([]:LV)])++fi.drop (((dm:Int).toNat)+(fi.length-((dm:Int).toNat))))).length:Int))) then
    some [V.bool false,.list aa ((fi.take ((dm:Int).toNat)++(List.replicate (fi.length-((dm:Int).toNat)) (V.agg [V.int .i64 0,V.int .i64 0,.list aa ([]:LV)])++fi.drop (((dm:Int).toNat)+(fi.length-((dm:Int).toNat))))).take ((dm:Int).toNat))]
   else none
   else none)
theorem Vt {ss:LV} {r:Option LV} (h:N6 CC ss=r):CC G2 [.list aa ss]=r:=aY (bB (afL CC) av) h
noncomputable def zd (C:ah) (s:LV) (t7 t8:Int) {β:Type} (kn:Int→Option β) (kr:((Int) ⊕ (Int × Bool))→Option β):Option β:=
 bif decide ((t8:Int)<t7) then
  (idx s t8).bind fun x1=>
  (C nu [V.int .i64 ((x1.cell 0).toInt),V.int .i64 ((x1.cell 1).toInt),.list aa ((x1.cell 2).toList)]).bind fun r2=>
  bif (V.nth r2 0).toBool then
  kr (.inl t8)
  else
  kn (IntKind.wrap .i64 (t8+1))
 else
  kr (.inr (t8,decide ((t8:Int)<t7)))
noncomputable def wj (C:ah) (s:LV) (t7:Int):=fun t8=>zd C s t7 t8 (fun y=>some (Sum.inl y)) (fun r=>some (Sum.inr r))
noncomputable def afM (C:ah):cr:=cq 33 Nr [false,false,true] [[0],[1,2,0,0]] (@zd C) aZ
theorem afN (C:ah):bC C (afM C) 127 (Lp [1,0,1,0,0] 127):=cp Nr [false,false,true] [[0],[1,2,0,0]] (@zd C) (a9 av)
noncomputable def N7 (C:ah) (s:LV):Option LV:=
 (Loop (wj C s (s.length:Int)) 0).bind (cf (fun (jz:Int)=>
  some [V.int .i64 jz]) (un fun (ia:Int) (mH:Bool)=>
  some [V.int .i64 (-1)]))
theorem Vu {s:LV} {r:Option LV} (h:N7 CC s=r):CC Cf [.list aa s]=r:=aY (bB (afN CC) av) h
noncomputable def Vv (C:ah) (s:LV):Option LV:=
 (C Cf [.list aa s]).bind fun r1=>
 some [.bool (decide ((((V.nth r1 0).toInt):Int)≥0))]
theorem afO {s:LV} {r:Option LV} (h:Vv CC s=r):CC LN [.list aa s]=r:=aY (L:=aZ) av h
noncomputable def ze (C:ah) (i j:Int) (ss:LV) {β:Type} (kn:(Int × Int × LV)→Option β) (kr:(Int × Int × Bool × LV)→Option β):Option β:=
 bif decide ((j:Int)<(ss.length:Int)) then
  aH ss j fun x2=>
  (C nu [V.int .i64 ((x2.cell 0).toInt),V.int .i64 ((x2.cell 1).toInt),.list aa ((x2.cell 2).toList)]).bind fun r3=>
  bif !((V.nth r3 0).toBool) then
  aH ss i fun x4=>
  kn (IntKind.wrap .i64 (i+1),IntKind.wrap .i64 (j+1),ba ss i (.agg [V.int .i64 ((x2.cell 0).toInt),V.int .i64 ((x2.cell 1).toInt),.list aa ((x2.cell 2).toList)]))
  else
  kn (i,IntKind.wrap .i64 (j+1),ss)
 else
  kr (i,j,decide ((j:Int)<(ss.length:Int)),ss)
noncomputable def wk (C:ah):=un fun i=>un fun j ss=>ze C i j ss (fun y=>some (Sum.inl y)) (fun r=>some (Sum.inr r))
noncomputable def afP (C:ah):cr:=cq 81 MQ [true,true,true] [[0,0,0,0]] (@ze C) aZ
theorem afQ (C:ah):bC C (afP C) 80 (Lp [1,1,1,0,1,0,0] 80):=cp MQ [true,true,true] [[0,0,0,0]] (@ze C) (a9 av)
noncomputable def N8 (C:ah) (ss:LV):Option LV:=
 (C Cf [.list aa ss]).bind fun r1=>
 bif (((V.nth r1 0).toInt):Int)==(-1) then
  some [V.bool true,.list aa ss]
 else
  (Loop (wk C) ((V.nth r1 0).toInt,IntKind.wrap .i64 (((V.nth r1 0).toInt)+1),ss)).bind (un fun (dm:Int)=>un fun (N4:Int)=>un fun (pA:Bool) (fi:LV)=>
   bif (decide (0≤dm))&&(decide (dm≤(fi.length:Int))) then
   bif (decide (0≤dm))&&(decide (dm≤((fi.take ((dm:Int).toNat)++(List.replicate (fi.length-((dm:Int).toNat)) (V.agg [V.int .i64 0,V.int .i64 0,.list aa ([]:LV)])++fi.drop (((dm:Int).toNat)+(fi.length-((dm:Int).toNat))))).length:Int))) then
    some [V.bool false,.list aa ((fi.take ((dm:Int).toNat)++(List.replicate (fi.length-((dm:Int).toNat)) (V.agg [V.int .i64 0,V.int .i64 0,.list aa ([]:LV)])++fi.drop (((dm:Int).toNat)+(fi.length-((dm:Int).toNat))))).take ((dm:Int).toNat))]
   else none
   else none)
theorem Vw {ss:LV} {r:Option LV} (h:N8 CC ss=r):CC yB [.list aa ss]=r:=aY (bB (afQ CC) av) h
end Go.AM
set_option maxRecDepth 100000
namespace Go.AM
open Go.Proofs Ex
def gh (k:Ex):Bool:=decide (k.op=1)
def gO (k:Ex):Bool:=decide (k.op=2)
theorem CE (k:Ex):CC nw (bV k [])=some [.bool (gh k)]:=by
 refine afA ?_
 unfold Vm gh
 rw[Ct]
theorem HJ (k:Ex):CC pw (bV k [])=some [.bool (gO k)]:=by
 refine afB ?_
 unfold Vn gO
 rw[Ct]
theorem CF (k:Ex):CC nu (bV k [])=some [.bool (univ k)]:=by
 obtain ⟨o,l,ks⟩:=k
 refine afC ?_
 unfold Vo univ
 simp only[Ex.op,Ex.kids,dx,aK]
 by_cases h1:o=8
 ·rw[aj h1]
  match ks with
  | []=>simp
  | [k]=>
   rw[aj (by simp)]
   simp only[cM,fJ,List.getElem?_cons_zero,Option.bind_some,bu,bE,bD]
   refine (congrArg (fun o=>Option.bind o _) (CE k)).trans ?_
   simp only[h1,gh]
   simp
   rfl
  | k::k2::ks=>
   rw[an (by simp<;>omega)]
   simp
 ·rw[an h1];simp[h1]
theorem lS {l:List Ex} {j:Nat} (h:j<l.length):l.take (j+1)=l.take j++[l.getD j aF]:=by
 rw[List.take_succ_eq_append_getElem h];simp[h]
theorem CG {l ss:List Ex} {j:Nat} (hl:ss.length=l.length) (h:ss.drop j=l.drop j) (hj:j<l.length):ss.getD j aF=l.getD j aF:=by
 have h1:=congrArg (fun x:List Ex=>x.getD 0 aF) h
 simpa[hj,hl] using h1
theorem pC {l:List Ex} {i:Nat} (h:i<l.length):(l.map enc)[i]? =some (l.getD i aF).enc:=by simp[h]
theorem HK (ss:List Ex) (m:Nat) (z:V) (hm:m≤ss.length):((((ss.map enc).take m++(List.replicate ((ss.map enc).length-m) z++(ss.map enc).drop (m+((ss.map enc).length-m)))).take m)=(ss.take m).map enc):=by
 rw[List.take_append_of_le_length (by simp;omega),Am (by simp;omega),List.map_take]
theorem afR {ks:List Ex} (hlen:ks.length≤1000000): ∀(ay pre:List Ex),ks=pre++ay→(∀k∈pre,gh k=false)→
  (ks.any gh=false∧∃t,Loop (we CC (ks.map enc) ((ks.map enc).length:Int)) ((pre.length:Nat):Int)=some (.inr t))∨
  (∃i:Nat,i<ks.length∧gh (ks.getD i aF)=true∧(∀k∈ks.take i,gh k=false)∧Loop (we CC (ks.map enc) ((ks.map enc).length:Int)) ((pre.length:Nat):Int)=some (.inl (i:Int))):=by
 intro ay
 induction ay with
 | nil=>
  intro pre bc hp
  rw[dr] at bc
  subst bc
  refine .inl ⟨y8 hp,⟨(((ks.length:Nat):Int),false),aV ?_⟩⟩
  ·simp only[we,y9,aK,aA]
   rw[aM,eP]
 | cons k ay ih=>
  intro pre bc hp
  have ch:pre.length<ks.length:=by rw[bc];simp
  have bY:idx (ks.map enc) (pre.length:Int)=some k.enc:=by rw[bc];exact gM _ _ _
  cases hk:gh k with
  | true=>
   refine .inr ⟨pre.length,ch,by rw[bc];simpa using hk,by rw[bc];simpa using hp,aV ?_⟩
   simp only[we,y9,aK,aA]
   rw[bf,bY]
   simp only[Option.bind_some,bu,bE,bD]
   refine (congrArg (fun o=>Option.bind o _) (CE k)).trans ?_
   simp only[Option.bind_some,V.aQ,V.dD]
   rw[hk,cond_true]
  | false=>
   have ca:we CC (ks.map enc) ((ks.map enc).length:Int) ((pre.length:Nat):Int)=some (.inl (((pre++[k]).length:Nat):Int)):=by
    simp only[we,y9,aK,aA]
    rw[bf,bY]
    simp only[Option.bind_some,bu,bE,bD]
    refine (congrArg (fun o=>Option.bind o _) (CE k)).trans ?_
    simp only[Option.bind_some,V.aQ,V.dD]
    rw[hk,cond_false,bP]
    simp
   rw[bQ ca]
   refine ih (pre++[k]) (by rw[bc];simp) fun x hx=> ?_
   rcases eZ.1 hx with hx|hx
   ·exact hp x hx
   ·rw[eH.1 hx];exact hk
theorem Vx {ks:List Ex} (hlen:ks.length≤1000000):
  (ks.any gh=false∧CC rZ [.list aa (ks.map enc)]=some [.int .i64 (-1)])∨
  (∃i:Nat,i<ks.length∧gh (ks.getD i aF)=true∧(∀k∈ks.take i,gh k=false)∧CC rZ [.list aa (ks.map enc)]=some [.int .i64 (i:Int)]):=by
 rcases afR hlen ks [] rfl (by simp) with ⟨h1,t,U⟩|⟨i,h1,U,h3,h4⟩
 ·refine .inl ⟨h1,Vp ?_⟩
  unfold N0
  refine (congrArg (fun o=>Option.bind o _) U).trans ?_
  rfl
 ·refine .inr ⟨i,h1,U,h3,Vp ?_⟩
  unfold N0
  refine (congrArg (fun o=>Option.bind o _) h4).trans ?_
  rfl
theorem afS {ks:List Ex} (hlen:ks.length≤1000000):CC tB [.list aa (ks.map enc)]=some [.bool (ks.any gh)]:=by
 refine afF ?_
 unfold Vq
 rcases Vx hlen with ⟨h1,U⟩|⟨i,h1,U,h3,h4⟩
 ·refine (congrArg (fun o=>Option.bind o _) U).trans ?_
  rw[h1];rfl
 ·refine (congrArg (fun o=>Option.bind o _) h4).trans ?_
  rw[oP.2 ⟨_,by rw[show ks.getD i aF=ks[i] by simp[h1]];exact List.getElem_mem h1,U⟩]
  simp
theorem afT {ks:List Ex} (hn:ks.length≤1000000): ∀(d j i:Nat) (ss:List Ex),j+d=ks.length→i≤j→ss.length=ks.length→ss.take i=(ks.take j).filter (fun k=> !(gh k))→ss.drop j=ks.drop j→
  ∃t fF,Loop (wg CC) ((i:Int),(j:Int),ss.map enc)=some (((ks.filter (fun k=> !(gh k))).length:Int),(ks.length:Int),t,List.map enc fF)∧fF.take (ks.filter (fun k=> !(gh k))).length=ks.filter (fun k=> !(gh k))∧fF.length=ks.length:=by
 intro d
 induction d with
 | zero=>
  intro j i ss hj hi hl ht hd
  obtain rfl:j=ks.length:=by omega
  rw[qQ] at ht
  have iF:i=(ks.filter (fun k=> !(gh k))).length:=by rw[←ht,eI];omega
  refine ⟨false,ss,aV ?_,by rw[←iF];exact ht,hl⟩
  simp only[wg,za,un,aK,aA]
  rw[aM,eP,iF]
 | succ d ih=>
  intro j i ss hj hi hl ht hd
  have b9:j<ks.length:=by omega
  have hg:=CG hl hd b9
  have jq:ss.drop (j+1)=ks.drop (j+1):=by rw[←qT,←qT,hd]
  have hx:(ss.map enc)[j]? =some (ks.getD j aF).enc:=by rw[pC (by omega),hg]
  have t1:((j:Nat):Int)<(ss.length:Int):=by omega
  have t2:(0:Int)≤((j:Nat):Int):=by omega
  have t3:((i:Nat):Int)<(ss.length:Int):=by omega
  have t4:(0:Int)≤((i:Nat):Int):=by omega
  have bY: ∃y,(ss.map enc)[i]? =some y:=⟨_,pC (by omega)⟩
  obtain ⟨y,hy⟩:=bY
  cases hk:gh (ks.getD j aF) with
  | true=>
   have ca:wg CC ((i:Int),(j:Int),ss.map enc)=some (.inl ((i:Int),((j+1:Nat):Int),ss.map enc)):=by
    simp only[wg,za,un,aK,aA,dk,t1,t2,c6,Int.toNat_natCast,hx,Option.bind_some,bu,bE,bD]
    refine (congrArg (fun o=>Option.bind o _) (CE (ks.getD j aF))).trans ?_
    simp only[Option.bind_some,V.aQ,V.dD]
    rw[hk,qS,cond_false,bP]
    rfl
   rw[bQ ca]
   refine ih (j+1) i ss (by omega) (by omega) hl ?_ jq
   rw[lS b9,nS,ht,p6,hk]
   simp
  | false=>
   have ca:wg CC ((i:Int),(j:Int),ss.map enc)=some (.inl (((i+1:Nat):Int),((j+1:Nat):Int),(ss.set i (ks.getD j aF)).map enc)):=by
    simp only[wg,za,un,aK,aA,dk,t1,t2,t3,t4,c6,Int.toNat_natCast,hx,hy,Option.bind_some,bu,bE,bD]
    refine (congrArg (fun o=>Option.bind o _) (CE (ks.getD j aF))).trans ?_
    simp only[Option.bind_some,V.aQ,V.dD]
    rw[hk,uz,cond_true,bP,bP,←dA,sG]
    rfl
   rw[bQ ca]
   refine ih (j+1) (i+1) (ss.set i (ks.getD j aF)) (by omega) (by omega) (by simpa using hl) ?_ ?_
   ·rw[lS (by rw[mT];omega),EG (cl i),ht,lS b9,nS,p6,hk]
    simp[show i<ss.length by omega]
   ·rw[EH (by omega),jq]
theorem afU {ks:List Ex} (hn:ks.length≤1000000): ∃b,CC G4 [.list aa (ks.map enc)]=some [.bool b,.list aa ((ks.filter (fun k=> !(gh k))).map enc)]:=by
 rcases Vx hn with ⟨h1,U⟩|⟨i,h1,U,h3,h4⟩
 ·refine ⟨true,Vr ?_⟩
  unfold N3
  refine (congrArg (fun o=>Option.bind o _) U).trans ?_
  rw[oS.2 fun k hk=>show (!(gh k))=true by rw[any_false (p:=gh) (by rw[h1];simp) k hk];rfl]
  rfl
 ·have hf:(ks.take (i+1)).filter (fun k=> !(gh k))=ks.take i:=by
   rw[lS h1,nS,p6,U,oS.2 fun k hk=>show (!(gh k))=true by rw[h3 k hk];rfl]
   simp
  obtain ⟨t,fF,e1,e2,e3⟩:=afT hn (ks.length-(i+1)) (i+1) i ks (by omega) (by omega) rfl hf.symm rfl
  refine ⟨false,Vr ?_⟩
  unfold N3
  refine (congrArg (fun o=>Option.bind o _) h4).trans ?_
  simp only[Option.bind_some,V.aQ,V.toInt_int,dx]
  rw[aM,bP]
  refine (congrArg (fun o=>Option.bind o _) e1).trans ?_
  have hm:(ks.filter (fun k=> !(gh k))).length≤fF.length:=by rw[e3];exact uA _ _
  have t1:((((ks.filter (fun k=> !(gh k))).length:Nat):Int)≤((fF.map enc).length:Int)):=by rw[aK];omega
  simp only[Option.bind_some,un,dk,aA,Int.toNat_natCast]
  rw[bf,aj t1,bf,aj (by simp only[cg,eI,ux,oM];omega),HK _ _ _ hm,e2]
theorem afV {ks:List Ex} (hlen:ks.length≤1000000): ∀(ay pre:List Ex),ks=pre++ay→(∀k∈pre,gO k=false)→
  (ks.any gO=false∧∃t,Loop (wh CC (ks.map enc) ((ks.map enc).length:Int)) ((pre.length:Nat):Int)=some (.inr t))∨
  (∃i:Nat,i<ks.length∧gO (ks.getD i aF)=true∧(∀k∈ks.take i,gO k=false)∧Loop (wh CC (ks.map enc) ((ks.map enc).length:Int)) ((pre.length:Nat):Int)=some (.inl (i:Int))):=by
 intro ay
 induction ay with
 | nil=>
  intro pre bc hp
  rw[dr] at bc
  subst bc
  refine .inl ⟨y8 hp,⟨(((ks.length:Nat):Int),false),aV ?_⟩⟩
  ·simp only[wh,zb,aK,aA]
   rw[aM,eP]
 | cons k ay ih=>
  intro pre bc hp
  have ch:pre.length<ks.length:=by rw[bc];simp
  have bY:idx (ks.map enc) (pre.length:Int)=some k.enc:=by rw[bc];exact gM _ _ _
  cases hk:gO k with
  | true=>
   refine .inr ⟨pre.length,ch,by rw[bc];simpa using hk,by rw[bc];simpa using hp,aV ?_⟩
   simp only[wh,zb,aK,aA]
   rw[bf,bY]
   simp only[Option.bind_some,bu,bE,bD]
   refine (congrArg (fun o=>Option.bind o _) (HJ k)).trans ?_
   simp only[Option.bind_some,V.aQ,V.dD]
   rw[hk,cond_true]
  | false=>
   have ca:wh CC (ks.map enc) ((ks.map enc).length:Int) ((pre.length:Nat):Int)=some (.inl (((pre++[k]).length:Nat):Int)):=by
    simp only[wh,zb,aK,aA]
    rw[bf,bY]
    simp only[Option.bind_some,bu,bE,bD]
    refine (congrArg (fun o=>Option.bind o _) (HJ k)).trans ?_
    simp only[Option.bind_some,V.aQ,V.dD]
    rw[hk,cond_false,bP]
    simp
   rw[bQ ca]
   refine ih (pre++[k]) (by rw[bc];simp) fun x hx=> ?_
   rcases eZ.1 hx with hx|hx
   ·exact hp x hx
   ·rw[eH.1 hx];exact hk
theorem afW {ks:List Ex} (hlen:ks.length≤1000000):
  (ks.any gO=false∧CC G3 [.list aa (ks.map enc)]=some [.int .i64 (-1)])∨
  (∃i:Nat,i<ks.length∧gO (ks.getD i aF)=true∧(∀k∈ks.take i,gO k=false)∧CC G3 [.list aa (ks.map enc)]=some [.int .i64 (i:Int)]):=by
 rcases afV hlen ks [] rfl (by simp) with ⟨h1,t,U⟩|⟨i,h1,U,h3,h4⟩
 ·refine .inl ⟨h1,Vs ?_⟩
  unfold N5
  refine (congrArg (fun o=>Option.bind o _) U).trans ?_
  rfl
 ·refine .inr ⟨i,h1,U,h3,Vs ?_⟩
  unfold N5
  refine (congrArg (fun o=>Option.bind o _) h4).trans ?_
  rfl
theorem afX {ks:List Ex} (hn:ks.length≤1000000): ∀(d j i:Nat) (ss:List Ex),j+d=ks.length→i≤j→ss.length=ks.length→ss.take i=(ks.take j).filter (fun k=> !(gO k))→ss.drop j=ks.drop j→
  ∃t fF,Loop (wi CC) ((i:Int),(j:Int),ss.map enc)=some (((ks.filter (fun k=> !(gO k))).length:Int),(ks.length:Int),t,List.map enc fF)∧fF.take (ks.filter (fun k=> !(gO k))).length=ks.filter (fun k=> !(gO k))∧fF.length=ks.length:=by
 intro d
 induction d with
 | zero=>
  intro j i ss hj hi hl ht hd
  obtain rfl:j=ks.length:=by omega
  rw[qQ] at ht
  have iF:i=(ks.filter (fun k=> !(gO k))).length:=by rw[←ht,eI];omega
  refine ⟨false,ss,aV ?_,by rw[←iF];exact ht,hl⟩
  simp only[wi,zc,un,aK,aA]
  rw[aM,eP,iF]
 | succ d ih=>
  intro j i ss hj hi hl ht hd
  have b9:j<ks.length:=by omega
  have hg:=CG hl hd b9
  have jq:ss.drop (j+1)=ks.drop (j+1):=by rw[←qT,←qT,hd]
  have hx:(ss.map enc)[j]? =some (ks.getD j aF).enc:=by rw[pC (by omega),hg]
  have t1:((j:Nat):Int)<(ss.length:Int):=by omega
  have t2:(0:Int)≤((j:Nat):Int):=by omega
  have t3:((i:Nat):Int)<(ss.length:Int):=by omega
  have t4:(0:Int)≤((i:Nat):Int):=by omega
  have bY: ∃y,(ss.map enc)[i]? =some y:=⟨_,pC (by omega)⟩
  obtain ⟨y,hy⟩:=bY
  cases hk:gO (ks.getD j aF) with
  | true=>
   have ca:wi CC ((i:Int),(j:Int),ss.map enc)=some (.inl ((i:Int),((j+1:Nat):Int),ss.map enc)):=by
    simp only[wi,zc,un,aK,aA,dk,t1,t2,c6,Int.toNat_natCast,hx,Option.bind_some,bu,bE,bD]
    refine (congrArg (fun o=>Option.bind o _) (HJ (ks.getD j aF))).trans ?_
    simp only[Option.bind_some,V.aQ,V.dD]
    rw[hk,qS,cond_false,bP]
    rfl
   rw[bQ ca]
   refine ih (j+1) i ss (by omega) (by omega) hl ?_ jq
   rw[lS b9,nS,ht,p6,hk]
   simp
  | false=>
   have ca:wi CC ((i:Int),(j:Int),ss.map enc)=some (.inl (((i+1:Nat):Int),((j+1:Nat):Int),(ss.set i (ks.getD j aF)).map enc)):=by
    simp only[wi,zc,un,aK,aA,dk,t1,t2,t3,t4,c6,Int.toNat_natCast,hx,hy,Option.bind_some,bu,bE,bD]
    refine (congrArg (fun o=>Option.bind o _) (HJ (ks.getD j aF))).trans ?_
    simp only[Option.bind_some,V.aQ,V.dD]
    rw[hk,uz,cond_true,bP,bP,←dA,sG]
    rfl
   rw[bQ ca]
   refine ih (j+1) (i+1) (ss.set i (ks.getD j aF)) (by omega) (by omega) (by simpa using hl) ?_ ?_
   ·rw[lS (by rw[mT];omega),EG (cl i),ht,lS b9,nS,p6,hk]
    simp[show i<ss.length by omega]
   ·rw[EH (by omega),jq]
theorem afY {ks:List Ex} (hn:ks.length≤1000000): ∃b,CC G2 [.list aa (ks.map enc)]=some [.bool b,.list aa ((ks.filter (fun k=> !(gO k))).map enc)]:=by
 rcases afW hn with ⟨h1,U⟩|⟨i,h1,U,h3,h4⟩
 ·refine ⟨true,Vt ?_⟩
  unfold N6
  refine (congrArg (fun o=>Option.bind o _) U).trans ?_
  rw[oS.2 fun k hk=>show (!(gO k))=true by rw[any_false (p:=gO) (by rw[h1];simp) k hk];rfl]
  rfl
 ·have hf:(ks.take (i+1)).filter (fun k=> !(gO k))=ks.take i:=by
   rw[lS h1,nS,p6,U,oS.2 fun k hk=>show (!(gO k))=true by rw[h3 k hk];rfl]
   simp
  obtain ⟨t,fF,e1,e2,e3⟩:=afX hn (ks.length-(i+1)) (i+1) i ks (by omega) (by omega) rfl hf.symm rfl
  refine ⟨false,Vt ?_⟩
  unfold N6
  refine (congrArg (fun o=>Option.bind o _) h4).trans ?_
  simp only[Option.bind_some,V.aQ,V.toInt_int,dx]
  rw[aM,bP]
  refine (congrArg (fun o=>Option.bind o _) e1).trans ?_
  have hm:(ks.filter (fun k=> !(gO k))).length≤fF.length:=by rw[e3];exact uA _ _
  have t1:((((ks.filter (fun k=> !(gO k))).length:Nat):Int)≤((fF.map enc).length:Int)):=by rw[aK];omega
  simp only[Option.bind_some,un,dk,aA,Int.toNat_natCast]
  rw[bf,aj t1,bf,aj (by simp only[cg,eI,ux,oM];omega),HK _ _ _ hm,e2]
theorem afZ {ks:List Ex} (hlen:ks.length≤1000000): ∀(ay pre:List Ex),ks=pre++ay→(∀k∈pre,univ k=false)→
  (ks.any univ=false∧∃t,Loop (wj CC (ks.map enc) ((ks.map enc).length:Int)) ((pre.length:Nat):Int)=some (.inr t))∨
  (∃i:Nat,i<ks.length∧univ (ks.getD i aF)=true∧(∀k∈ks.take i,univ k=false)∧Loop (wj CC (ks.map enc) ((ks.map enc).length:Int)) ((pre.length:Nat):Int)=some (.inl (i:Int))):=by
 intro ay
 induction ay with
 | nil=>
  intro pre bc hp
  rw[dr] at bc
  subst bc
  refine .inl ⟨y8 hp,⟨(((ks.length:Nat):Int),false),aV ?_⟩⟩
  ·simp only[wj,zd,aK,aA]
   rw[aM,eP]
 | cons k ay ih=>
  intro pre bc hp
  have ch:pre.length<ks.length:=by rw[bc];simp
  have bY:idx (ks.map enc) (pre.length:Int)=some k.enc:=by rw[bc];exact gM _ _ _
  cases hk:univ k with
  | true=>
   refine .inr ⟨pre.length,ch,by rw[bc];simpa using hk,by rw[bc];simpa using hp,aV ?_⟩
   simp only[wj,zd,aK,aA]
   rw[bf,bY]
   simp only[Option.bind_some,bu,bE,bD]
   refine (congrArg (fun o=>Option.bind o _) (CF k)).trans ?_
   simp only[Option.bind_some,V.aQ,V.dD]
   rw[hk,cond_true]
  | false=>
   have ca:wj CC (ks.map enc) ((ks.map enc).length:Int) ((pre.length:Nat):Int)=some (.inl (((pre++[k]).length:Nat):Int)):=by
    simp only[wj,zd,aK,aA]
    rw[bf,bY]
    simp only[Option.bind_some,bu,bE,bD]
    refine (congrArg (fun o=>Option.bind o _) (CF k)).trans ?_
    simp only[Option.bind_some,V.aQ,V.dD]
    rw[hk,cond_false,bP]
    simp
   rw[bQ ca]
   refine ih (pre++[k]) (by rw[bc];simp) fun x hx=> ?_
   rcases eZ.1 hx with hx|hx
   ·exact hp x hx
   ·rw[eH.1 hx];exact hk
theorem Vy {ks:List Ex} (hlen:ks.length≤1000000):
  (ks.any univ=false∧CC Cf [.list aa (ks.map enc)]=some [.int .i64 (-1)])∨
  (∃i:Nat,i<ks.length∧univ (ks.getD i aF)=true∧(∀k∈ks.take i,univ k=false)∧CC Cf [.list aa (ks.map enc)]=some [.int .i64 (i:Int)]):=by
 rcases afZ hlen ks [] rfl (by simp) with ⟨h1,t,U⟩|⟨i,h1,U,h3,h4⟩
 ·refine .inl ⟨h1,Vu ?_⟩
  unfold N7
  refine (congrArg (fun o=>Option.bind o _) U).trans ?_
  rfl
 ·refine .inr ⟨i,h1,U,h3,Vu ?_⟩
  unfold N7
  refine (congrArg (fun o=>Option.bind o _) h4).trans ?_
  rfl
theorem af0 {ks:List Ex} (hlen:ks.length≤1000000):CC LN [.list aa (ks.map enc)]=some [.bool (ks.any univ)]:=by
 refine afO ?_
 unfold Vv
 rcases Vy hlen with ⟨h1,U⟩|⟨i,h1,U,h3,h4⟩
 ·refine (congrArg (fun o=>Option.bind o _) U).trans ?_
  rw[h1];rfl
 ·refine (congrArg (fun o=>Option.bind o _) h4).trans ?_
  rw[oP.2 ⟨_,by rw[show ks.getD i aF=ks[i] by simp[h1]];exact List.getElem_mem h1,U⟩]
  simp
theorem af1 {ks:List Ex} (hn:ks.length≤1000000): ∀(d j i:Nat) (ss:List Ex),j+d=ks.length→i≤j→ss.length=ks.length→ss.take i=(ks.take j).filter (fun k=> !(univ k))→ss.drop j=ks.drop j→
  ∃t fF,Loop (wk CC) ((i:Int),(j:Int),ss.map enc)=some (((ks.filter (fun k=> !(univ k))).length:Int),(ks.length:Int),t,List.map enc fF)∧fF.take (ks.filter (fun k=> !(univ k))).length=ks.filter (fun k=> !(univ k))∧fF.length=ks.length:=by
 intro d
 induction d with
 | zero=>
  intro j i ss hj hi hl ht hd
  obtain rfl:j=ks.length:=by omega
  rw[qQ] at ht
  have iF:i=(ks.filter (fun k=> !(univ k))).length:=by rw[←ht,eI];omega
  refine ⟨false,ss,aV ?_,by rw[←iF];exact ht,hl⟩
  simp only[wk,ze,un,aK,aA]
  rw[aM,eP,iF]
 | succ d ih=>
  intro j i ss hj hi hl ht hd
  have b9:j<ks.length:=by omega
  have hg:=CG hl hd b9
  have jq:ss.drop (j+1)=ks.drop (j+1):=by rw[←qT,←qT,hd]
  have hx:(ss.map enc)[j]? =some (ks.getD j aF).enc:=by rw[pC (by omega),hg]
  have t1:((j:Nat):Int)<(ss.length:Int):=by omega
  have t2:(0:Int)≤((j:Nat):Int):=by omega
  have t3:((i:Nat):Int)<(ss.length:Int):=by omega
  have t4:(0:Int)≤((i:Nat):Int):=by omega
  have bY: ∃y,(ss.map enc)[i]? =some y:=⟨_,pC (by omega)⟩
  obtain ⟨y,hy⟩:=bY
  cases hk:univ (ks.getD j aF) with
  | true=>
   have ca:wk CC ((i:Int),(j:Int),ss.map enc)=some (.inl ((i:Int),((j+1:Nat):Int),ss.map enc)):=by
    simp only[wk,ze,un,aK,aA,dk,t1,t2,c6,Int.toNat_natCast,hx,Option.bind_some,bu,bE,bD]
    refine (congrArg (fun o=>Option.bind o _) (CF (ks.getD j aF))).trans ?_
    simp only[Option.bind_some,V.aQ,V.dD]
    rw[hk,qS,cond_false,bP]
    rfl
   rw[bQ ca]
   refine ih (j+1) i ss (by omega) (by omega) hl ?_ jq
   rw[lS b9,nS,ht,p6,hk]
   simp
  | false=>
   have ca:wk CC ((i:Int),(j:Int),ss.map enc)=some (.inl (((i+1:Nat):Int),((j+1:Nat):Int),(ss.set i (ks.getD j aF)).map enc)):=by
    simp only[wk,ze,un,aK,aA,dk,t1,t2,t3,t4,c6,Int.toNat_natCast,hx,hy,Option.bind_some,bu,bE,bD]
    refine (congrArg (fun o=>Option.bind o _) (CF (ks.getD j aF))).trans ?_
    simp only[Option.bind_some,V.aQ,V.dD]
    rw[hk,uz,cond_true,bP,bP,←dA,sG]
    rfl
   rw[bQ ca]
   refine ih (j+1) (i+1) (ss.set i (ks.getD j aF)) (by omega) (by omega) (by simpa using hl) ?_ ?_
   ·rw[lS (by rw[mT];omega),EG (cl i),ht,lS b9,nS,p6,hk]
    simp[show i<ss.length by omega]
   ·rw[EH (by omega),jq]
theorem af2 {ks:List Ex} (hn:ks.length≤1000000): ∃b,CC yB [.list aa (ks.map enc)]=some [.bool b,.list aa ((ks.filter (fun k=> !(univ k))).map enc)]:=by
 rcases Vy hn with ⟨h1,U⟩|⟨i,h1,U,h3,h4⟩
 ·refine ⟨true,Vw ?_⟩
  unfold N8
  refine (congrArg (fun o=>Option.bind o _) U).trans ?_
  rw[oS.2 fun k hk=>show (!(univ k))=true by rw[any_false (p:=univ) (by rw[h1];simp) k hk];rfl]
  rfl
 ·have hf:(ks.take (i+1)).filter (fun k=> !(univ k))=ks.take i:=by
   rw[lS h1,nS,p6,U,oS.2 fun k hk=>show (!(univ k))=true by rw[h3 k hk];rfl]
   simp
  obtain ⟨t,fF,e1,e2,e3⟩:=af1 hn (ks.length-(i+1)) (i+1) i ks (by omega) (by omega) rfl hf.symm rfl
  refine ⟨false,Vw ?_⟩
  unfold N8
  refine (congrArg (fun o=>Option.bind o _) h4).trans ?_
  simp only[Option.bind_some,V.aQ,V.toInt_int,dx]
  rw[aM,bP]
  refine (congrArg (fun o=>Option.bind o _) e1).trans ?_
  have hm:(ks.filter (fun k=> !(univ k))).length≤fF.length:=by rw[e3];exact uA _ _
  have t1:((((ks.filter (fun k=> !(univ k))).length:Nat):Int)≤((fF.map enc).length:Int)):=by rw[aK];omega
  simp only[Option.bind_some,un,dk,aA,Int.toNat_natCast]
  rw[bf,aj t1,bf,aj (by simp only[cg,eI,ux,oM];omega),HK _ _ _ hm,e2]
end Go.AM
set_option maxRecDepth 100000
namespace Go.AM
open Go.Proofs Go.Sort
section
variable {α:Type} {enc:α→V}
def qF (enc:α→V) (d:Array α):List V:=d.toList.map enc
theorem gP (d:Array α):(qF enc d).length=d.size:=by simp[qF]
theorem gr (d:Array α) (i:Nat) (x:α):(qF enc d).set i (enc x)=qF enc (d.setIfInBounds i x):=by
 unfold qF;rw[Array.toList_setIfInBounds,sG]
variable [Inhabited α]
theorem gQ {d:Array α} {i:Nat} (h:i<d.size):(qF enc d)[i]? =some (enc d[i]!):=by
 unfold qF;rw[e7,lq,lp h,getElem!_pos d i h];rfl
theorem jc {d:Array α} {i j:Nat} {x:α} (h:i<d.size):(qF enc (d.setIfInBounds j x))[i]? =some (enc (d.setIfInBounds j x)[i]!):=gQ (by rw[il];exact h)
theorem gu (a b:Nat):(a:Int)+(b:Int)=((a+b:Nat):Int):=(Int.natCast_add a b).symm
theorem eh (a:Nat):(a:Int)+1=((a+1:Nat):Int):=rfl
theorem wm (a:Nat):((a+1:Nat):Int)-1=(a:Int):=by omega
theorem CH (a:Nat):(a:Int)*2=((a*2:Nat):Int):=by omega
theorem nB {a b:Nat} (h:b≤a):(a:Int)-(b:Int)=((a-b:Nat):Int):=by omega
theorem lh {a:Nat} (h:1≤a):(a:Int)-1=((a-1:Nat):Int):=by omega
theorem divC (a b:Nat):Int.tdiv (a:Int) (b:Int)=((a/b:Nat):Int):=by rw[Int.tdiv_eq_ediv_of_nonneg (by omega)];rfl
theorem oA {p:Prop} [Decidable p] (h:p):decide p=true:=cz h
theorem tR {p:Prop} [Decidable p] (h: ¬p):decide p=false:=cI h
theorem zf (p:α→Bool) (d:Array α) (j i:Nat):scanUp p d j i=if i≤j then (if p d[i]! =true then scanUp p d j (i+1) else i) else i:=by
 conv=>lhs;rw[scanUp]
 by_cases h:i≤j
 ·rw[aj h];simp only[h,sB,mU]
 ·rw[an h,an (by simp[h])]
theorem N9 (p:α→Bool) (d:Array α) (i j:Nat):scanDown p d i (j+1)=if i≤j+1 then (if p d[j+1]! =true then scanDown p d i j else j+1) else j+1:=by
 conv=>lhs;rw[scanDown]
 by_cases h:i≤j+1
 ·rw[aj h];simp only[h,sB,mU]
 ·rw[an h,an (by simp[h])]
variable {lt:α→α→Bool}
theorem Vz (a j:Nat) (d:Array α):insInner lt a (j+1) d=if j+1>a&&lt d[j+1]! d[j]! then insInner lt a j (swp d (j+1) j) else d:=rfl
theorem Oa {a:Nat}: ∀(j:Nat) (d:Array α),(insInner lt a j d).size=d.size
 | 0,d=>rfl
 | j+1,d=>by
  rw[Vz]
  split
  ·rw[Oa j,size_swp]
  ·rfl
theorem CI (hi first:Nat): ∀(n root:Nat) (d:Array α),hi-root≤n→(siftDown lt hi first root d).size=d.size:=by
 intro n
 induction n with
 | zero=>intro root d h;rw[siftDown,sA (by omega)]
 | succ n ih=>
  intro root d h
  rw[siftDown]
  split
  ·rfl
  ·split
   ·split
    ·rfl
    ·split
     ·rw[ih _ _ (by omega),size_swp]
     ·rfl
   ·split
    ·rfl
    ·rw[ih _ _ (by omega),size_swp]
theorem Ob (hi first:Nat): ∀(k:Nat) (d:Array α),(heapBuild lt hi first k d).size=d.size
 | 0,d=>rfl
 | k+1,d=>by rw[heapBuild,Ob,CI _ _ _ _ _ (cl _)]
end
end Go.AM
set_option maxRecDepth 100000
namespace Go.AM
open Go.Proofs
noncomputable def zg (E:SE) (C:ah) (a b' i j:Int) (ao:LV) {β:Type} (kn:(Int × LV)→Option β) (kr:(Int × Bool × LV)→Option β):Option β:=
 bif decide ((j:Int)>a) then
  aH ao j fun x1=>
  aH ao (IntKind.wrap .i64 (j-1)) fun x2=>
  (C E.cmp (E.ex x1++E.ex x2)).bind fun r3=>
  bif decide ((((V.nth r3 0).toInt):Int)<0) then
  aH ao (IntKind.wrap .i64 (j-1)) fun x4=>
  aH ao j fun x5=>
  aH ao j fun x6=>
  aH (ba ao j (.agg (E.ex x4))) (IntKind.wrap .i64 (j-1)) fun x7=>
  kn (IntKind.wrap .i64 (j-1),ba (ba ao j (.agg (E.ex x4))) (IntKind.wrap .i64 (j-1)) (.agg (E.ex x5)))
  else
  kr (j,decide ((((V.nth r3 0).toInt):Int)<0),ao)
 else
  kr (j,false,ao)
noncomputable def zh (E:SE) (C:ah) (a b' i:Int):=un fun j ao=>zg E C a b' i j ao (fun y=>some (Sum.inl y)) (fun r=>some (Sum.inr r))
noncomputable def CJ (E:SE) (C:ah) (a b' i:Int) (ao:LV) {β:Type} (kn:(Int × LV)→Option β) (kr:(Int × Bool × LV)→Option β):Option β:=
 bif decide ((i:Int)<b') then
  (Loop (zh E C a b' i) (i,ao)).bind (un fun (j_8:Int)=>un fun (tH:Bool) (pD:LV)=>
   kn (IntKind.wrap .i64 (i+1),pD))
 else
  kr (i,decide ((i:Int)<b'),ao)
noncomputable def HL (E:SE) (C:ah) (a b':Int):=un fun i ao=>CJ E C a b' i ao (fun y=>some (Sum.inl y)) (fun r=>some (Sum.inr r))
noncomputable def Oc (E:SE) (C:ah) (a b':Int) (ao:LV):Option LV:=
 (Loop (HL E C a b') (IntKind.wrap .i64 (a+1),ao)).bind (un fun (am3:Int)=>un fun (Hq:Bool) (Od:LV)=>
  some [.list E.T Od])
end Go.AM
