/-
  Functions of the program, lifted to plain data.
-/
import Derived.Test.YtbbgbkiefjilcaaGreatDoorProg
import Derived.Tactics
import Derived.Tactics2
import Derived.StillTactics
import Derived.Laws.Pointers
import Derived.Lib.LazyBuf
import Derived.RegionTactic
import Derived.LoopTactic
import Derived.WalkKit
import Derived.Recover
import Derived.Laws.Externs
import Derived.Lib.Builder
import Derived.Test.YtbbgbkiefjilcaaGreatDoorRows
import Derived.Lib.LaidTab
import Derived.LaidHandle
import Derived.MakeChecks
import Derived.Lay
import Derived.Test.YtbbgbkiefjilcaaGreatDoorP3
set_option linter.unusedVariables false
set_option linter.unusedSimpArgs false
set_option maxRecDepth 100000
namespace Go.AM
open Go.Proofs
abbrev MN:FuncId:=3
abbrev Cl:FuncId:=6
abbrev HO:FuncId:=7
abbrev Cm:FuncId:=8
abbrev yA:FuncId:=9
abbrev yB:FuncId:=10
abbrev yC:FuncId:=11
abbrev HP:FuncId:=15
abbrev ae0:FuncId:=16
abbrev ae1:FuncId:=18
abbrev HQ:FuncId:=19
abbrev HR:FuncId:=20
abbrev yD:FuncId:=21
abbrev vN:FuncId:=22
abbrev ae2:FuncId:=23
abbrev HS:FuncId:=24
abbrev HT:FuncId:=25
abbrev tP:FuncId:=26
abbrev pS:FuncId:=27
abbrev vO:FuncId:=28
abbrev bu:FuncId:=29
abbrev kD:FuncId:=30
abbrev HU:FuncId:=31
abbrev bE:FuncId:=32
abbrev HV:FuncId:=33
abbrev tQ:FuncId:=34
abbrev yE:FuncId:=35
abbrev HW:FuncId:=36
abbrev sx:FuncId:=37
abbrev qS:FuncId:=38
abbrev HX:FuncId:=39
abbrev HY:FuncId:=44
abbrev ae3:FuncId:=45
abbrev yF:FuncId:=50
abbrev ae4:FuncId:=51
abbrev ae5:FuncId:=52
abbrev ae6:FuncId:=53
abbrev ae7:FuncId:=54
abbrev ae8:FuncId:=55
abbrev ae9:FuncId:=56
abbrev Cn:FuncId:=57
abbrev qT:FuncId:=58
abbrev yG:FuncId:=59
abbrev Co:FuncId:=60
abbrev qU:FuncId:=61
abbrev vP:FuncId:=62
abbrev pT:FuncId:=63
abbrev Cp:FuncId:=64
abbrev qV:FuncId:=65
abbrev HZ:FuncId:=66
abbrev vQ:FuncId:=67
abbrev iJ:FuncId:=68
abbrev vR:FuncId:=69
abbrev H0:FuncId:=70
abbrev yH:FuncId:=71
abbrev yI:FuncId:=72
abbrev yJ:FuncId:=73
abbrev Cq:FuncId:=74
abbrev vS:FuncId:=75
abbrev yK:FuncId:=76
abbrev H2:FuncId:=77
abbrev H3:FuncId:=79
abbrev yL:FuncId:=88
abbrev afa:FuncId:=89
abbrev afb:FuncId:=90
abbrev afc:FuncId:=91
abbrev afd:FuncId:=92
abbrev afe:FuncId:=93
abbrev yM:FuncId:=94
abbrev iK:FuncId:=95
abbrev yN:FuncId:=96
abbrev Cr:FuncId:=97
abbrev Cs:FuncId:=98
abbrev H4:FuncId:=99
abbrev Ct:FuncId:=100
abbrev H5:FuncId:=101
abbrev H6:FuncId:=102
abbrev vT:FuncId:=103
abbrev oS:FuncId:=104
abbrev Cu:FuncId:=106
abbrev yO:FuncId:=111
abbrev nx:FuncId:=116
abbrev H7:FuncId:=123
abbrev H8:FuncId:=124
abbrev H9:FuncId:=125
abbrev vU:FuncId:=126
abbrev Cv:FuncId:=127
abbrev Cw:FuncId:=128
abbrev Ia:FuncId:=129
abbrev Cx:FuncId:=130
abbrev Ib:FuncId:=131
abbrev Ic:FuncId:=132
abbrev vV:FuncId:=133
abbrev oT:FuncId:=134
abbrev Cy:FuncId:=135
abbrev yP:FuncId:=136
abbrev yQ:FuncId:=137
abbrev yR:FuncId:=138
abbrev Cz:FuncId:=139
abbrev ny:FuncId:=145
abbrev tR:FuncId:=146
abbrev yS:FuncId:=147
abbrev nz:FuncId:=148
abbrev vW:FuncId:=149
abbrev qW:FuncId:=150
abbrev pU:FuncId:=151
abbrev CA:FuncId:=152
abbrev yT:FuncId:=153
abbrev CB:FuncId:=154
abbrev yU:FuncId:=155
abbrev qX:FuncId:=159
abbrev yV:FuncId:=160
abbrev nA:TypeId:=3
abbrev VW:TypeId:=22
abbrev ab:TypeId:=24
abbrev sy:TypeId:=29
abbrev aS:TypeId:=52
abbrev Ie:TypeId:=62
abbrev CD:Nat:=187
abbrev CE:Nat:=188
abbrev MO:Nat:=189
abbrev CF:Nat:=190
abbrev Ig:Nat:=192
abbrev Ih:Nat:=193
abbrev Ii:Nat:=194
abbrev Ij:Nat:=195
abbrev Ik:Nat:=196
abbrev MP:Nat:=203
abbrev Il:Nat:=206
abbrev Im:Nat:=207
abbrev MQ:Nat:=208
def Io:List V:=[.int .u8 0,.int .u8 1,.int .u8 56,.int .u8 2,.int .u8 57,.int .u8 49,.int .u8 28,.int .u8 3,.int .u8 61,.int .u8 58,.int .u8 42,.int .u8 50,.int .u8 38,.int .u8 29,.int .u8 17,.int .u8 4,.int .u8 62,.int .u8 47,.int .u8 59,.int .u8 36,.int .u8 45,.int .u8 43,.int .u8 51,.int .u8 22,.int .u8 53,.int .u8 39,.int .u8 33,.int .u8 30,.int .u8 24,.int .u8 18,.int .u8 12,.int .u8 5,.int .u8 63,.int .u8 55,.int .u8 48,.int .u8 27,.int .u8 60,.int .u8 41,.int .u8 37,.int .u8 16,.int .u8 46,.int .u8 35,.int .u8 44,.int .u8 21,.int .u8 52,.int .u8 32,.int .u8 23,.int .u8 11,.int .u8 54,.int .u8 26,.int .u8 40,.int .u8 15,.int .u8 34,.int .u8 20,.int .u8 31,.int .u8 10,.int .u8 25,.int .u8 14,.int .u8 19,.int .u8 9,.int .u8 13,.int .u8 8,.int .u8 7,.int .u8 6]
abbrev aa:VS:= .one (.int .i64)
abbrev aB:VS:= .one (.bool)
abbrev eF:VS:= .one (.int .u64)
abbrev bx:VS:= .one (.list ab)
abbrev bV:VS:= .one (.mi 0 0 0)
abbrev bz:VS:= .one (.whole ab 0)
abbrev cl:VS:= .one (.whole aS 0)
abbrev gG:VS:= .one (.mi 2 0 0)
abbrev j9:VS:= .one (.whole ab 1)
abbrev kE:VS:= .one (.mi 1 0 0)
abbrev nB:VS:= .one (.list aS)
abbrev aff:VS:= .one (.whole aS 4)
abbrev nC:VS:= .one (.mi 3 0 0)
abbrev afg:VS:= .one (.whole aS 3)
abbrev afh:VS:= .one (.whole aS 5)
abbrev afi:VS:= .one (.whole aS 1)
abbrev yW:VS:= .one (.whole nA 0)
abbrev CG:VS:= .one (.list sy)
abbrev Ip:VS:= .one (.whole ab 4)
abbrev MR:VS:= .one (.whole ab 3)
abbrev Iq:VS:= .one (.whole nA 1)
abbrev afj:VS:= .one (.whole sy 5)
abbrev Ir:VS:= .one (.whole sy 3)
abbrev Is:VS:= .one (.str)
abbrev afk:VS:= .one (.whole ab 5)
abbrev afl:VS:= .one (.whole ab 6)
abbrev afm:VS:= .one (.whole aS 6)
abbrev VX:VS:= .one (.whole ab 2)
abbrev afn:VS:= .one (.whole sy 4)
abbrev MS:VS:= .one (.mi 4 0 0)
abbrev It:VS:= .one (.sub ab 0)
abbrev VY:VS:= .one (.list Ie)
abbrev VZ:VS:= .one (.list nA)
abbrev qY:VS:= .agg [.int .i64,.int .i64,.list ab]
abbrev CH:VS:= .agg [.int .i64,.int .i64,.int .u64,.int .u64,.list aS]
abbrev Iu:VS:= .agg [.int .i64,.int .i64,.int .i64]
abbrev Iv:VS:= .agg [.int .i64,.int .i64,.whole ab 0]
abbrev afo:VS:= .agg [.int .i64,.int .i64,.int .u64,.int .u64,.whole aS 0]
abbrev jI:BS:= .var 24 [aa,aa,bx]
abbrev afp:BS:= .var 3 [aa]
abbrev vX:BS:= .var 32 [aa,aa,eF,eF,aff]
abbrev CI:BS:= .var 73 [eF,eF,aB]
abbrev afq:BS:= .var 32 [aa,aa,eF,eF,afg]
abbrev vY:BS:= .var 32 [aa,aa,eF,eF,afh]
abbrev qZ:BS:= .var 32 [aa,aa,eF,eF,nB]
abbrev Iw:BS:= .var 143 [eF]
abbrev afr:BS:= .var 32 [aa,aa,eF,eF,afi]
abbrev MT:BS:= .var 71 [aa,afj]
abbrev yX:BS:= .var 24 [aa,aa,afk]
abbrev yY:BS:= .var 24 [aa,aa,afl]
abbrev CJ:BS:= .var 32 [aa,aa,eF,eF,afm]
abbrev afs:BS:= .var 24 [aa,aa,MR]
abbrev aft:BS:= .var 71 [aa,afn]
abbrev ew:BS:= .arr ab false
abbrev gH:BS:= .arr aS false
abbrev mH:BS:= .arr sy false
abbrev ka:BS:= .arr nA false
abbrev Ix:BS:= .nest Ie
abbrev ba:List BS:=[ew]
abbrev bP:List BS:=[gH]
abbrev gI:List BS:=[afp]
abbrev iL:List BS:=[jI]
abbrev nD:List BS:=[afq,ew,vX,gH,gH]
abbrev ra:List BS:=[.dead,ew]
abbrev tS:List BS:=[afr,gH]
abbrev yZ:List BS:=[jI,jI]
abbrev CK:List BS:=[ew,jI]
abbrev Iy:List BS:=[jI,afs,ew,ew]
abbrev Iz:List BS:=[aft,.dead,CI,CI,mH]
abbrev IA:List BS:=[MT,.dead,CI,CI,CI,mH]
abbrev IB:List BS:=[gH,Iw]
abbrev IC:List BS:=[ew,Iw]
abbrev MU:List BS:=[vX,ew,vY,ew,gH,gH]
abbrev MV:List BS:=[vX,ew,vY,jI,gH,gH]
abbrev ey:List (Nat × VS):=[(0,aa)]
abbrev eG:List (Nat × VS):=[(0,aB)]
abbrev g9:List (Nat × VS):=[(0,qY)]
abbrev mI:List (Nat × VS):=[(0,qY),(1,aa)]
abbrev mJ:List (Nat × VS):=[(0,bz)]
abbrev rb:List (Nat × VS):=[(0,eF)]
abbrev tT:List (Nat × VS):=[(4,bV),(5,aa)]
abbrev tU:List (Nat × VS):=[(4,aa)]
abbrev tV:List (Nat × VS):=[(0,j9)]
abbrev y4:List (Nat × VS):=[(0,aa),(1,aa)]
abbrev y5:List (Nat × VS):=[(0,bx)]
abbrev ID:List (Nat × VS):=[(0,qY),(1,qY)]
abbrev MW:List (Nat × VS):=[(1,aa),(4,bV),(7,j9),(8,gG),(9,aa)]
abbrev MX:List (Nat × VS):=[(0,aa),(1,bx)]
abbrev MY:List (Nat × VS):=[(0,afo),(1,aa)]
abbrev V0:List (Nat × VS):=[(1,aa),(2,bV),(8,j9),(51,bx),(52,aa),(53,aa)]
abbrev V1:List (Nat × VS):=[(0,bV),(4,gG),(9,nC),(12,MS),(74,bx),(75,aa),(76,aa)]
abbrev V2:List (Nat × VS):=[(0,aa),(5,bz),(8,bx),(9,aa),(10,aa),(11,aB)]
def MZ:Shape × List (Out × Shape):=(⟨[(1,aa),(4,bV),(7,j9),(8,gG),(9,aa),(10,aa),(12,nC),(13,aa),(32,aa),(33,aa),(42,Ip),(43,aa),(44,aa),(52,aB)],[vY,ew,CJ,jI,ew,gH,gH]⟩,[(.ret,⟨tT,tS⟩),(.norm,⟨[(1,aa),(4,bV),(7,j9),(8,gG),(9,aa),(10,aa),(13,aa),(32,aa),(33,aa),(42,MR),(43,aa),(44,aa)],MU⟩)])
abbrev V3:List (Nat × VS):=[(1,aa),(4,bV),(7,j9),(8,gG),(9,aa),(10,aa),(32,aa),(33,aa),(42,MR),(43,aa),(44,aa)]
def M0:Shape × List (Out × Shape):=(⟨V3,MU⟩,[(.ret,⟨tT,tS⟩),(.exit 4,⟨V3++[(45,aB)],MU⟩)])
abbrev V4:List (Nat × VS):=[(1,aa),(4,bV),(7,j9),(8,gG),(9,aa),(32,aa),(33,aa)]
def M1:Shape × List (Out × Shape):=(⟨V4,nD⟩,[(.ret,⟨tT,tS⟩),(.exit 2,⟨V4++[(34,aB)],nD⟩)])
def M3:Shape × List (Out × Shape):=(⟨MW,nD⟩,[(.ret,⟨tT,tS⟩),(.exit 0,⟨[(1,aa),(4,bV),(7,j9),(8,gG),(9,aa),(29,aB)],nD⟩)])
def M4:Shape × List (Out × Shape):=(⟨[(1,aa),(4,bV),(7,j9),(8,gG),(9,aa),(37,aB)],nD⟩,[(.norm,⟨MW,nD⟩)])
abbrev V5:List (Nat × VS):=[(1,aa),(4,bV),(7,j9),(8,gG),(9,aa),(10,aa),(12,nC),(13,aa),(54,bx),(55,aa),(56,aa),(61,aa),(62,aa)]
def M5:Shape × List (Out × Shape):=(⟨V5,MV⟩,[(.exit 6,⟨V5++[(63,aB)],MV⟩)])
def M6:Shape × List (Out × Shape):=(⟨[(1,aa),(4,bV),(7,j9),(8,gG),(9,aa),(10,aa),(12,nC),(13,aa),(54,bx),(55,aa),(56,aa),(75,aB)],MV⟩,[(.ret,⟨tT,tS⟩),(.norm,⟨[(1,aa),(4,bV),(7,j9),(8,gG),(9,aa),(10,aa),(13,aa),(54,bx),(55,aa),(56,aa)],nD⟩)])
abbrev V6:List (Nat × VS):=[(1,aa),(4,bV),(7,j9),(8,gG),(9,aa),(10,aa),(54,bx),(55,aa),(56,aa)]
def M7:Shape × List (Out × Shape):=(⟨V6,nD⟩,[(.ret,⟨tT,tS⟩),(.exit 4,⟨V6++[(57,aB)],nD⟩)])
abbrev V7:List (Nat × VS):=[(1,aa),(4,bV),(7,j9),(8,gG),(9,aa),(10,aa)]
def M8:Shape × List (Out × Shape):=(⟨V7,nD⟩,[(.ret,⟨tT,tS⟩),(.exit 2,⟨V7++[(46,aB)],nD⟩)])
def M9:Shape × List (Out × Shape):=(⟨MW,nD⟩,[(.ret,⟨tT,tS⟩),(.exit 0,⟨[(1,aa),(4,bV),(7,j9),(8,gG),(9,aa),(30,aB)],nD⟩)])
abbrev V8:List (Nat × VS):=[(2,bV),(3,kE),(43,aa),(44,aa)]
def Na:Shape × List (Out × Shape):=(⟨V8,[qZ,qZ]⟩,[(.ret,⟨[(4,aB)],[]⟩),(.exit 0,⟨V8++[(45,aB)],[qZ,qZ]⟩)])
def afu:Shape × List (Out × Shape):=(⟨[(4,bV),(7,Iq),(8,gG),(10,nC),(48,aB)],[vX,ka,MT,CJ,gH,mH,gH]⟩,[(.norm,⟨[(4,bV),(7,Iq),(8,gG),(10,nC)],[vX,ka,MT,CJ,gH,mH,gH]⟩)])
abbrev V9:List (Nat × VS):=[(4,bV),(7,Iq),(10,gG),(11,aa),(54,Ir),(55,aa),(56,aa),(62,.one (.whole nA 4)),(63,aa),(64,aa)]
def afv:Shape × List (Out × Shape):=(⟨V9,[vY,ka,CJ,mH,ka,gH,gH]⟩,[(.exit 2,⟨V9++[(65,aB)],[vY,ka,CJ,mH,ka,gH,gH]⟩)])
abbrev Wa:List (Nat × VS):=[(4,bV),(7,Iq),(10,gG),(54,Ir),(55,aa),(56,aa)]
def afw:Shape × List (Out × Shape):=(⟨Wa,[vX,ka,vY,mH,gH,gH]⟩,[(.exit 0,⟨Wa++[(57,aB)],[vX,ka,vY,mH,gH,gH]⟩)])
abbrev Wb:List (Nat × VS):=[(1,Is),(2,bV),(5,VY),(6,eF),(23,aa),(24,aa)]
def afx:Shape × List (Out × Shape):=(⟨Wb,[qZ]⟩,[(.exit 0,⟨Wb++[(25,aB)],[qZ]⟩)])
def Nb:Shape × List (Out × Shape):=(⟨[(1,aa),(2,bV),(5,aa),(6,aB),(39,aB)],iL⟩,[(.norm,⟨[(1,aa),(2,bV),(5,aa),(6,aB)],iL⟩)])
abbrev Wc:List (Nat × VS):=[(1,aa),(2,bV),(5,aa),(6,aB),(7,aa)]
def Nc:Shape × List (Out × Shape):=(⟨Wc,iL⟩,[(.exit 1,⟨Wc++[(63,aB)],iL⟩)])
abbrev Wd:List (Nat × VS):=[(1,aa),(2,bV),(6,aa),(7,aa),(8,aa)]
def Nd:Shape × List (Out × Shape):=(⟨Wd,iL⟩,[(.exit 0,⟨Wd++[(20,aB)],iL⟩)])
abbrev We:List (Nat × VS):=[(1,aa),(5,bz),(24,bx),(25,aa),(26,aa)]
def Ng:Shape × List (Out × Shape):=(⟨We,ba⟩,[(.exit 1,⟨We++[(27,aB)],ba⟩)])
def Nh:Shape × List (Out × Shape):=(⟨V0,[jI,ew]⟩,[(.exit 3,⟨V0,[jI,ew]⟩)])
def Ni:Shape × List (Out × Shape):=(⟨[(0,bx),(1,.fn qT [] []),(7,aa),(8,aa)],[]⟩,[(.ret,⟨tU,[]⟩),(.exit 0,⟨[(0,bx),(1,.fn qT [] []),(7,aa),(8,aa),(9,aB)],[]⟩)])
abbrev Wf:List (Nat × VS):=[(19,bx),(20,aa),(21,aa)]
def Nj:Shape × List (Out × Shape):=(⟨Wf,[]⟩,[(.ret,⟨[(2,aB)],[]⟩),(.exit 1,⟨Wf++[(22,aB)],[]⟩)])
abbrev Wg:List (Nat × VS):=[(1,bV),(2,kE),(3,VX),(19,bx),(20,aa),(21,aa)]
def Nk:Shape × List (Out × Shape):=(⟨Wg,Iy⟩,[(.exit 0,⟨Wg++[(22,aB)],Iy⟩)])
abbrev Wh:List (Nat × VS):=[(2,bV),(6,kE),(9,gG),(10,nC),(94,Ip),(95,aa),(96,aa)]
def Nl:Shape × List (Out × Shape):=(⟨Wh,[yX,jI,yY,.var 24 [aa,aa,.one (.whole ab 7)],ew,ew,ew,ew]⟩,[(.ret,⟨[(2,bV)],iL⟩),(.exit 4,⟨Wh++[(97,aB)],[yX,jI,yY,.var 24 [aa,aa,.one (.whole ab 7)],ew,ew,ew,ew]⟩)])
abbrev Wi:List (Nat × VS):=[(2,bV),(8,kE),(9,gG),(10,nC),(119,Ip),(120,aa),(121,aa)]
def Nn:Shape × List (Out × Shape):=(⟨Wi,[yX,yY,jI,jI,ew,ew,ew]⟩,[(.ret,⟨[(2,bV)],[.var 24 [aa,aa,j9],ew]⟩),(.exit 6,⟨Wi++[(122,aB)],[yX,yY,jI,jI,ew,ew,ew]⟩)])
abbrev Wj:List (Nat × VS):=[(2,bV),(6,kE),(9,gG),(10,nC),(143,Ip),(144,aa),(145,aa)]
def No:Shape × List (Out × Shape):=(⟨Wj,[yX,jI,jI,yY,ew,ew,ew]⟩,[(.ret,⟨[(2,bV)],iL⟩),(.exit 8,⟨Wj++[(146,aB)],[yX,jI,jI,yY,ew,ew,ew]⟩)])
abbrev Wk:List (Nat × VS):=[(1,bV),(3,aB),(4,aB),(9,bx),(10,aa),(11,aa)]
def Np:Shape × List (Out × Shape):=(⟨Wk,iL⟩,[(.exit 0,⟨Wk++[(12,aB)],iL⟩)])
abbrev Wl:List (Nat × VS):=[(1,aa),(5,bx),(30,bx),(31,aa),(32,aa),(38,bx),(39,aa),(40,aa)]
def Nq:Shape × List (Out × Shape):=(⟨Wl,[]⟩,[(.exit 3,⟨Wl++[(41,aB)],[]⟩)])
abbrev Wm:List (Nat × VS):=[(1,aa),(5,bx),(30,bx),(31,aa),(32,aa)]
def Nr:Shape × List (Out × Shape):=(⟨Wm,[]⟩,[(.exit 1,⟨Wm++[(33,aB)],[]⟩)])
abbrev Wn:List (Nat × VS):=[(2,bV),(5,bx),(56,bx),(57,aa),(58,aa)]
def Ns:Shape × List (Out × Shape):=(⟨Wn,iL⟩,[(.exit 5,⟨Wn++[(59,aB)],iL⟩)])
def Nt:Shape × List (Out × Shape):=(⟨[(1,aa),(2,bV),(5,bx),(12,kE),(79,aB)],yZ⟩,[(.norm,⟨[(1,aa),(2,bV),(5,bx),(12,kE)],yZ⟩)])
abbrev Wo:List (Nat × VS):=[(1,aa),(2,bV),(5,bx),(12,kE),(89,bx),(90,aa),(91,aa)]
def Nu:Shape × List (Out × Shape):=(⟨Wo,yZ⟩,[(.exit 7,⟨Wo++[(92,aB)],yZ⟩)])
abbrev Wp:List (Nat × VS):=[(5,bx),(110,bx),(111,aa),(112,aa)]
def Nv:Shape × List (Out × Shape):=(⟨Wp,[]⟩,[(.exit 9,⟨Wp++[(113,aB)],[]⟩)])
def Nw:Shape × List (Out × Shape):=(⟨[(1,aa),(2,bV),(5,bx),(70,aB)],iL⟩,[(.norm,⟨[(5,bx)],[]⟩)])
def Nx:Shape × List (Out × Shape):=(⟨[(1,aa),(2,bV),(5,bx),(18,aa),(49,aB)],iL⟩,[(.norm,⟨[(5,bx)],[]⟩)])
def Ny:Shape × List (Out × Shape):=(⟨[(1,aa),(2,bV),(5,bx),(18,aa),(27,aB)],iL⟩,[(.norm,⟨[(5,bx)],[]⟩)])
def Nz:Shape × List (Out × Shape):=(⟨[(1,aa),(2,bV),(5,bx),(18,aa),(19,aB)],iL⟩,[(.norm,⟨[(5,bx)],[]⟩)])
abbrev Wq:List (Nat × VS):=[(2,bV),(3,kE),(5,aa)]
def NA:Shape × List (Out × Shape):=(⟨Wq,yZ⟩,[(.ret,⟨tU,[]⟩),(.exit 1,⟨Wq++[(42,aB)],yZ⟩)])
abbrev Wr:List (Nat × VS):=[(3,cl),(5,kE),(6,aa),(7,nB),(8,aa),(9,aa)]
def NB:Shape × List (Out × Shape):=(⟨Wr,[gH,.var 52 [aa,aa,aa]]⟩,[(.exit 2,⟨Wr++[(25,aB)],[gH,.var 52 [aa,aa,aa]]⟩)])
abbrev Ws:List (Nat × VS):=[(3,cl),(7,nB),(8,aa),(9,aa)]
def NC:Shape × List (Out × Shape):=(⟨Ws,bP⟩,[(.exit 0,⟨Ws++[(10,aB)],bP⟩)])
abbrev Wt:List (Nat × VS):=[(0,Is),(1,aa),(18,aa),(19,aa)]
def afy:Shape × List (Out × Shape):=(⟨Wt,[]⟩,[(.ret,⟨[(4,aB)],[]⟩),(.exit 0,⟨Wt++[(20,aB)],[]⟩)])
abbrev Wu:List (Nat × VS):=[(1,bV),(2,kE),(3,VX),(20,bx),(21,aa),(22,aa)]
def ND:Shape × List (Out × Shape):=(⟨Wu,Iy⟩,[(.exit 0,⟨Wu++[(23,aB)],Iy⟩)])
abbrev Wv:List (Nat × VS):=[(3,yW),(13,bx),(14,aa),(15,aa)]
def afz:Shape × List (Out × Shape):=(⟨Wv,[ka]⟩,[(.exit 0,⟨Wv++[(16,aB)],[ka]⟩)])
abbrev Ww:List (Nat × VS):=[(0,bV),(4,gG),(5,nC),(42,bx),(43,aa),(44,aa)]
def afA:Shape × List (Out × Shape):=(⟨Ww,Iz⟩,[(.exit 1,⟨Ww++[(45,aB)],Iz⟩)])
def afB:Shape × List (Out × Shape):=(⟨[(0,bV),(4,gG),(9,nC),(12,MS),(74,bx),(75,aa),(76,aa),(90,aB)],IA⟩,[(.norm,⟨V1,IA⟩)])
def afC:Shape × List (Out × Shape):=(⟨[(0,bV),(4,gG),(9,nC),(12,MS),(74,bx),(75,aa),(76,aa),(99,aB)],IA⟩,[(.norm,⟨V1,IA⟩)])
abbrev Wx:List (Nat × VS):=[(0,bV),(4,gG),(9,nC),(74,bx),(75,aa),(76,aa)]
def afD:Shape × List (Out × Shape):=(⟨Wx,Iz⟩,[(.exit 3,⟨Wx++[(77,aB)],Iz⟩)])
def afE:Shape × List (Out × Shape):=(⟨[(0,eF),(3,yW)],[ka]⟩,[(.exit 0,⟨[(0,eF),(3,yW),(5,aB)],[ka]⟩)])
abbrev Wy:List (Nat × VS):=[(1,bV),(34,nB),(35,aa),(36,aa)]
def afF:Shape × List (Out × Shape):=(⟨Wy,[qZ]⟩,[(.ret,⟨[(2,aa)],[]⟩),(.exit 0,⟨Wy++[(37,aB)],[qZ]⟩)])
abbrev Wz:List (Nat × VS):=[(1,bV),(3,.one (.whole Ie 1)),(11,aa),(12,aa)]
def afG:Shape × List (Out × Shape):=(⟨Wz,[qZ,Ix]⟩,[(.exit 0,⟨Wz++[(13,aB)],[qZ,Ix]⟩)])
abbrev WA:List (Nat × VS):=[(3,.one (.whole Ie 0)),(23,nB),(24,aa),(25,aa)]
def afH:Shape × List (Out × Shape):=(⟨WA,[Ix]⟩,[(.exit 2,⟨WA++[(26,aB)],[Ix]⟩)])
abbrev WB:List (Nat × VS):=[(0,CG),(5,eF),(16,yW),(17,aa),(18,aa)]
def afI:Shape × List (Out × Shape):=(⟨WB,[ka]⟩,[(.exit 0,⟨WB++[(19,aB)],[ka]⟩)])
def NF:Shape × List (Out × Shape):=(⟨[(0,bz),(1,.fn qU [] []),(5,aa),(6,It),(7,aa)],ba⟩,[(.exit 2,⟨[(0,bz),(1,.fn qU [] []),(5,aa),(6,It),(7,aa),(35,aB)],ba⟩)])
def NG:Shape × List (Out × Shape):=(⟨[(0,bz),(1,.fn qU [] []),(5,aa)],ba⟩,[(.ret,⟨[(4,j9)],ra⟩),(.exit 0,⟨[(0,bz),(1,.fn qU [] []),(5,aa),(15,aB)],ba⟩)])
def NH:Shape × List (Out × Shape):=(⟨[(0,bz),(1,.fn nx [] []),(5,aa),(6,aa)],ba⟩,[(.exit 0,⟨[(0,bz),(1,.fn nx [] []),(5,aa),(6,aa),(19,aB)],ba⟩)])
abbrev WC:List (Nat × VS):=[(1,bx),(5,bz),(11,bx),(12,aa),(13,aa)]
def NI:Shape × List (Out × Shape):=(⟨WC,ba⟩,[(.exit 0,⟨WC++[(14,aB)],ba⟩)])
def NJ:Shape × List (Out × Shape):=(⟨[(0,bx),(1,bx),(2,.fn bu [] []),(11,bx),(12,aa),(13,aa)],[]⟩,[(.ret,⟨[(6,aa)],[]⟩),(.exit 0,⟨[(0,bx),(1,bx),(2,.fn bu [] []),(11,bx),(12,aa),(13,aa),(14,aB)],[]⟩)])
def NK:Shape × List (Out × Shape):=(⟨[(0,cl),(1,aa),(2,aa),(3,aa),(4,.fn bE [] []),(10,aB),(11,aB),(12,aa),(39,aB)],bP⟩,[(.norm,⟨[(0,cl),(1,aa),(2,aa),(3,aa),(4,.fn bE [] []),(10,aB),(11,aB),(12,aa)],bP⟩)])
def NL:Shape × List (Out × Shape):=(⟨[(0,cl),(1,aa),(2,aa),(3,aa),(4,.fn bE [] []),(10,aB),(11,aB),(12,aa),(13,aa),(14,aa),(56,aB)],bP⟩,[(.norm,⟨[(0,cl),(1,aa),(2,aa),(3,aa),(4,.fn bE [] []),(10,aB),(11,aB),(12,aa),(13,aa),(14,aa)],bP⟩)])
def NM:Shape × List (Out × Shape):=(⟨[(0,cl),(1,aa),(2,aa),(3,aa),(4,.fn bE [] []),(10,aB),(11,aB),(12,aa),(13,aa),(75,aB)],bP⟩,[(.ret,⟨[(0,cl),(1,aa),(2,aa),(3,aa),(4,.fn bE [] []),(10,aB),(11,aB),(12,aa),(13,aa),(80,aB)],bP⟩),(.norm,⟨[(0,cl),(1,aa),(2,aa),(3,aa),(4,.fn bE [] []),(10,aB),(11,aB),(12,aa),(13,aa)],bP⟩)])
def NN:Shape × List (Out × Shape):=(⟨[(0,cl),(1,aa),(2,aa),(3,aa),(4,.fn bE [] []),(10,aB),(11,aB)],bP⟩,[(.ret,⟨[],bP⟩)])
abbrev WD:List (Nat × VS):=[(3,aa),(6,VZ),(7,aa),(8,aa)]
def NO:Shape × List (Out × Shape):=(⟨WD,[]⟩,[(.ret,⟨[(2,aa)],[]⟩),(.exit 0,⟨WD++[(9,aB)],[]⟩)])
abbrev WE:List (Nat × VS):=[(1,aa),(12,bx),(13,aa),(14,aa)]
def NP:Shape × List (Out × Shape):=(⟨WE,[]⟩,[(.ret,⟨[(4,aB)],[]⟩),(.exit 0,⟨WE++[(15,aB)],[]⟩)])
def NQ:Shape × List (Out × Shape):=(⟨[(0,aa),(5,bz),(8,bx),(9,aa),(10,aa)],ba⟩,[(.exit 0,⟨V2,ba⟩)])
abbrev WG:List (Nat × VS):=[(0,bx),(3,bV),(5,aa)]
def NR:Shape × List (Out × Shape):=(⟨WG,iL⟩,[(.exit 0,⟨WG++[(19,aB)],iL⟩)])
abbrev WH:List (Nat × VS):=[(0,bx),(3,bV),(5,aa)]
def NS:Shape × List (Out × Shape):=(⟨WH,iL⟩,[(.exit 0,⟨WH++[(19,aB)],iL⟩)])
abbrev WI:List (Nat × VS):=[(0,bV),(2,eF),(9,.one (.whole nA 2)),(10,aa),(11,aa)]
def afJ:Shape × List (Out × Shape):=(⟨WI,[.var 71 [aa,Ir],.dead,ka,mH]⟩,[(.exit 0,⟨WI++[(12,aB)],[.var 71 [aa,Ir],.dead,ka,mH]⟩)])
abbrev WJ:List (Nat × VS):=[(0,CG),(8,CG),(9,aa),(10,aa)]
def afK:Shape × List (Out × Shape):=(⟨WJ,[]⟩,[(.ret,⟨[(2,aB)],[]⟩),(.exit 0,⟨WJ++[(11,aB)],[]⟩)])
abbrev WK:List (Nat × VS):=[(1,aa),(53,bx),(54,aa),(55,aa)]
def NT:Shape × List (Out × Shape):=(⟨WK,[]⟩,[(.ret,⟨[(4,aB)],[]⟩),(.exit 1,⟨WK++[(56,aB)],[]⟩)])
def NU:Shape × List (Out × Shape):=(⟨[(0,bz),(1,aa),(2,aa),(3,aa),(4,.fn bu [] []),(10,aB),(11,aB),(12,aa),(39,aB)],ba⟩,[(.norm,⟨[(0,bz),(1,aa),(2,aa),(3,aa),(4,.fn bu [] []),(10,aB),(11,aB),(12,aa)],ba⟩)])
def NV:Shape × List (Out × Shape):=(⟨[(0,bz),(1,aa),(2,aa),(3,aa),(4,.fn bu [] []),(10,aB),(11,aB),(12,aa),(13,aa),(14,aa),(56,aB)],ba⟩,[(.norm,⟨[(0,bz),(1,aa),(2,aa),(3,aa),(4,.fn bu [] []),(10,aB),(11,aB),(12,aa),(13,aa),(14,aa)],ba⟩)])
def NW:Shape × List (Out × Shape):=(⟨[(0,bz),(1,aa),(2,aa),(3,aa),(4,.fn bu [] []),(10,aB),(11,aB),(12,aa),(13,aa),(75,aB)],ba⟩,[(.ret,⟨[(0,bz),(1,aa),(2,aa),(3,aa),(4,.fn bu [] []),(10,aB),(11,aB),(12,aa),(13,aa),(80,aB)],ba⟩),(.norm,⟨[(0,bz),(1,aa),(2,aa),(3,aa),(4,.fn bu [] []),(10,aB),(11,aB),(12,aa),(13,aa)],ba⟩)])
def NX:Shape × List (Out × Shape):=(⟨[(0,bz),(1,aa),(2,aa),(3,aa),(4,.fn bu [] []),(10,aB),(11,aB)],ba⟩,[(.ret,⟨[],ba⟩)])
def NY:Shape × List (Out × Shape):=(⟨[(0,cl),(1,aa),(2,aa),(3,.fn bE [] []),(8,aa),(9,aa)],bP⟩,[(.exit 2,⟨[(0,cl),(1,aa),(2,aa),(3,.fn bE [] []),(8,aa),(9,aa),(34,aB)],bP⟩)])
def NZ:Shape × List (Out × Shape):=(⟨[(0,cl),(1,aa),(2,aa),(3,.fn bE [] []),(8,aa)],bP⟩,[(.exit 0,⟨[(0,cl),(1,aa),(2,aa),(3,.fn bE [] []),(8,aa),(14,aB)],bP⟩)])
def N0:Shape × List (Out × Shape):=(⟨[(0,cl),(3,.fn bE [] []),(8,aa),(9,aa),(10,aa),(11,aa)],bP⟩,[(.exit 0,⟨[(0,cl),(3,.fn bE [] []),(8,aa),(9,aa),(10,aa),(11,aa),(21,aB)],bP⟩)])
def N3:Shape × List (Out × Shape):=(⟨[(0,cl),(3,.fn bE [] []),(8,aa),(9,aa),(12,aa)],bP⟩,[(.exit 2,⟨[(0,cl),(3,.fn bE [] []),(8,aa),(9,aa),(12,aa),(33,aB)],bP⟩)])
def N4:Shape × List (Out × Shape):=(⟨[(0,cl),(1,aa),(8,aa),(9,kE),(10,eF),(11,aa),(12,aa),(45,aB)],IB⟩,[(.norm,⟨[(0,cl),(1,aa),(8,aa),(9,kE),(10,eF),(11,aa),(12,aa)],IB⟩)])
abbrev WL:List (Nat × VS):=[(0,cl),(1,aa),(8,aa),(9,kE),(10,eF),(11,aa)]
def N5:Shape × List (Out × Shape):=(⟨WL,IB⟩,[(.exit 0,⟨WL++[(35,aB)],IB⟩)])
def N6:Shape × List (Out × Shape):=(⟨[(0,nB),(3,.fn bE [] []),(11,bV),(12,aa),(13,aa),(14,aa),(36,aB)],gI⟩,[(.norm,⟨[(0,nB),(3,.fn bE [] []),(11,bV),(12,aa),(13,aa),(14,aa)],gI⟩)])
def N7:Shape × List (Out × Shape):=(⟨[(0,nB),(3,.fn bE [] []),(10,aa),(11,bV),(12,aa),(13,aa),(14,aa),(34,aB)],gI⟩,[(.norm,⟨[(11,bV),(13,aa)],gI⟩)])
abbrev WM:List (Nat × VS):=[(0,cl),(8,aa),(9,aa)]
def N8:Shape × List (Out × Shape):=(⟨WM,bP⟩,[(.exit 0,⟨WM++[(15,aB)],bP⟩)])
def N9:Shape × List (Out × Shape):=(⟨[(0,cl),(1,aa),(2,aa),(3,.fn bE [] []),(9,aa),(10,aa)],bP⟩,[(.exit 2,⟨[(0,cl),(1,aa),(2,aa),(3,.fn bE [] []),(9,aa),(10,aa),(36,aB)],bP⟩)])
def Oa:Shape × List (Out × Shape):=(⟨[(0,cl),(1,aa),(2,aa),(3,.fn bE [] []),(9,aa),(10,aa),(11,aa)],bP⟩,[(.exit 4,⟨[(0,cl),(1,aa),(2,aa),(3,.fn bE [] []),(9,aa),(10,aa),(11,aa)],bP⟩)])
def Ob:Shape × List (Out × Shape):=(⟨[(0,cl),(1,aa),(2,aa),(3,.fn bE [] []),(9,aa),(10,aa),(65,aB)],bP⟩,[(.norm,⟨[(0,cl),(1,aa),(2,aa),(3,.fn bE [] []),(9,aa),(10,aa)],bP⟩)])
def Oc:Shape × List (Out × Shape):=(⟨[(0,cl),(1,aa),(2,aa),(3,.fn bE [] []),(9,aa),(10,aa),(12,aa)],bP⟩,[(.exit 6,⟨[(0,cl),(1,aa),(2,aa),(3,.fn bE [] []),(9,aa),(10,aa),(12,aa)],bP⟩)])
def Od:Shape × List (Out × Shape):=(⟨[(0,cl),(1,aa),(2,aa),(3,.fn bE [] []),(9,aa),(10,aa)],bP⟩,[(.ret,⟨[(8,aB)],bP⟩),(.exit 0,⟨[(0,cl),(1,aa),(2,aa),(3,.fn bE [] []),(9,aa),(10,aa),(16,aB)],bP⟩)])
def Oe:Shape × List (Out × Shape):=(⟨[(0,cl),(1,aa),(4,.fn bE [] []),(11,aa),(12,aa)],bP⟩,[(.exit 2,⟨[(0,cl),(1,aa),(4,.fn bE [] []),(11,aa),(12,aa),(47,aB)],bP⟩)])
def Of:Shape × List (Out × Shape):=(⟨[(0,cl),(1,aa),(4,.fn bE [] []),(11,aa),(12,aa)],bP⟩,[(.exit 4,⟨[(0,cl),(1,aa),(4,.fn bE [] []),(11,aa),(12,aa),(65,aB)],bP⟩)])
def Og:Shape × List (Out × Shape):=(⟨[(0,cl),(1,aa),(4,.fn bE [] []),(11,aa),(12,aa)],bP⟩,[(.exit 0,⟨[(0,cl),(1,aa),(4,.fn bE [] []),(11,aa),(12,aa),(70,aB)],bP⟩)])
def Oh:Shape × List (Out × Shape):=(⟨[(0,cl),(1,aa),(4,.fn bE [] []),(12,aa),(13,aa)],bP⟩,[(.exit 0,⟨[(0,cl),(1,aa),(4,.fn bE [] []),(12,aa),(13,aa),(47,aB)],bP⟩)])
def Oi:Shape × List (Out × Shape):=(⟨[(0,cl),(1,aa),(4,.fn bE [] []),(12,aa),(13,aa)],bP⟩,[(.exit 2,⟨[(0,cl),(1,aa),(4,.fn bE [] []),(12,aa),(13,aa),(66,aB)],bP⟩)])
def Oj:Shape × List (Out × Shape):=(⟨[(0,cl),(1,aa),(4,.fn bE [] []),(12,aa),(13,aa)],bP⟩,[(.exit 6,⟨[(0,cl),(1,aa),(4,.fn bE [] []),(12,aa),(13,aa),(120,aB)],bP⟩)])
def Ol:Shape × List (Out × Shape):=(⟨[(0,cl),(1,aa),(4,.fn bE [] []),(12,aa),(13,aa)],bP⟩,[(.exit 8,⟨[(0,cl),(1,aa),(4,.fn bE [] []),(12,aa),(13,aa),(139,aB)],bP⟩)])
def Om:Shape × List (Out × Shape):=(⟨[(0,cl),(1,aa),(4,.fn bE [] []),(12,aa),(13,aa)],bP⟩,[(.exit 4,⟨[(0,cl),(1,aa),(4,.fn bE [] []),(12,aa),(13,aa),(144,aB)],bP⟩)])
def On:Shape × List (Out × Shape):=(⟨[(0,eF),(2,aa),(4,aB)],[]⟩,[(.norm,⟨[(0,eF),(2,aa)],[]⟩)])
def Oo:Shape × List (Out × Shape):=(⟨[(0,eF),(2,aa),(8,aB)],[]⟩,[(.norm,⟨[(0,eF),(2,aa)],[]⟩)])
abbrev WN:List (Nat × VS):=[(1,aa),(2,bV),(23,bx),(24,aa),(25,aa)]
def Oq:Shape × List (Out × Shape):=(⟨WN,gI⟩,[(.ret,⟨[(6,aB)],gI⟩),(.exit 0,⟨WN++[(26,aB)],gI⟩)])
def Ot:Shape × List (Out × Shape):=(⟨[(0,bz),(1,aa),(2,aa),(3,.fn bu [] []),(8,aa),(9,aa)],ba⟩,[(.exit 2,⟨[(0,bz),(1,aa),(2,aa),(3,.fn bu [] []),(8,aa),(9,aa),(34,aB)],ba⟩)])
def Ou:Shape × List (Out × Shape):=(⟨[(0,bz),(1,aa),(2,aa),(3,.fn bu [] []),(8,aa)],ba⟩,[(.exit 0,⟨[(0,bz),(1,aa),(2,aa),(3,.fn bu [] []),(8,aa),(14,aB)],ba⟩)])
def Ov:Shape × List (Out × Shape):=(⟨[(0,bz),(3,.fn bu [] []),(8,aa),(9,aa),(10,aa),(11,aa)],ba⟩,[(.exit 0,⟨[(0,bz),(3,.fn bu [] []),(8,aa),(9,aa),(10,aa),(11,aa),(21,aB)],ba⟩)])
def Ow:Shape × List (Out × Shape):=(⟨[(0,bz),(3,.fn bu [] []),(8,aa),(9,aa),(12,aa)],ba⟩,[(.exit 2,⟨[(0,bz),(3,.fn bu [] []),(8,aa),(9,aa),(12,aa),(33,aB)],ba⟩)])
def Ox:Shape × List (Out × Shape):=(⟨[(0,bz),(1,aa),(8,aa),(9,kE),(10,eF),(11,aa),(12,aa),(45,aB)],IC⟩,[(.norm,⟨[(0,bz),(1,aa),(8,aa),(9,kE),(10,eF),(11,aa),(12,aa)],IC⟩)])
abbrev WO:List (Nat × VS):=[(0,bz),(1,aa),(8,aa),(9,kE),(10,eF),(11,aa)]
def Oy:Shape × List (Out × Shape):=(⟨WO,IC⟩,[(.exit 0,⟨WO++[(35,aB)],IC⟩)])
def Oz:Shape × List (Out × Shape):=(⟨[(0,bx),(3,.fn bu [] []),(11,bV),(12,aa),(13,aa),(14,aa),(36,aB)],gI⟩,[(.norm,⟨[(0,bx),(3,.fn bu [] []),(11,bV),(12,aa),(13,aa),(14,aa)],gI⟩)])
def OA:Shape × List (Out × Shape):=(⟨[(0,bx),(3,.fn bu [] []),(10,aa),(11,bV),(12,aa),(13,aa),(14,aa),(34,aB)],gI⟩,[(.norm,⟨[(11,bV),(13,aa)],gI⟩)])
abbrev WQ:List (Nat × VS):=[(0,bz),(8,aa),(9,aa)]
def OB:Shape × List (Out × Shape):=(⟨WQ,ba⟩,[(.exit 0,⟨WQ++[(15,aB)],ba⟩)])
def OC:Shape × List (Out × Shape):=(⟨[(0,bz),(1,aa),(2,aa),(3,.fn bu [] []),(9,aa),(10,aa)],ba⟩,[(.exit 2,⟨[(0,bz),(1,aa),(2,aa),(3,.fn bu [] []),(9,aa),(10,aa),(36,aB)],ba⟩)])
def OD:Shape × List (Out × Shape):=(⟨[(0,bz),(1,aa),(2,aa),(3,.fn bu [] []),(9,aa),(10,aa),(11,aa)],ba⟩,[(.exit 4,⟨[(0,bz),(1,aa),(2,aa),(3,.fn bu [] []),(9,aa),(10,aa),(11,aa)],ba⟩)])
def OE:Shape × List (Out × Shape):=(⟨[(0,bz),(1,aa),(2,aa),(3,.fn bu [] []),(9,aa),(10,aa),(65,aB)],ba⟩,[(.norm,⟨[(0,bz),(1,aa),(2,aa),(3,.fn bu [] []),(9,aa),(10,aa)],ba⟩)])
def OF:Shape × List (Out × Shape):=(⟨[(0,bz),(1,aa),(2,aa),(3,.fn bu [] []),(9,aa),(10,aa),(12,aa)],ba⟩,[(.exit 6,⟨[(0,bz),(1,aa),(2,aa),(3,.fn bu [] []),(9,aa),(10,aa),(12,aa)],ba⟩)])
def OG:Shape × List (Out × Shape):=(⟨[(0,bz),(1,aa),(2,aa),(3,.fn bu [] []),(9,aa),(10,aa)],ba⟩,[(.ret,⟨[(8,aB)],ba⟩),(.exit 0,⟨[(0,bz),(1,aa),(2,aa),(3,.fn bu [] []),(9,aa),(10,aa),(16,aB)],ba⟩)])
def OH:Shape × List (Out × Shape):=(⟨[(0,bz),(1,aa),(4,.fn bu [] []),(11,aa),(12,aa)],ba⟩,[(.exit 2,⟨[(0,bz),(1,aa),(4,.fn bu [] []),(11,aa),(12,aa),(47,aB)],ba⟩)])
def OI:Shape × List (Out × Shape):=(⟨[(0,bz),(1,aa),(4,.fn bu [] []),(11,aa),(12,aa)],ba⟩,[(.exit 4,⟨[(0,bz),(1,aa),(4,.fn bu [] []),(11,aa),(12,aa),(65,aB)],ba⟩)])
def OJ:Shape × List (Out × Shape):=(⟨[(0,bz),(1,aa),(4,.fn bu [] []),(11,aa),(12,aa)],ba⟩,[(.exit 0,⟨[(0,bz),(1,aa),(4,.fn bu [] []),(11,aa),(12,aa),(70,aB)],ba⟩)])
def OK:Shape × List (Out × Shape):=(⟨[(0,bz),(1,aa),(4,.fn bu [] []),(12,aa),(13,aa)],ba⟩,[(.exit 0,⟨[(0,bz),(1,aa),(4,.fn bu [] []),(12,aa),(13,aa),(47,aB)],ba⟩)])
def OL:Shape × List (Out × Shape):=(⟨[(0,bz),(1,aa),(4,.fn bu [] []),(12,aa),(13,aa)],ba⟩,[(.exit 2,⟨[(0,bz),(1,aa),(4,.fn bu [] []),(12,aa),(13,aa),(66,aB)],ba⟩)])
def OM:Shape × List (Out × Shape):=(⟨[(0,bz),(1,aa),(4,.fn bu [] []),(12,aa),(13,aa)],ba⟩,[(.exit 6,⟨[(0,bz),(1,aa),(4,.fn bu [] []),(12,aa),(13,aa),(120,aB)],ba⟩)])
def ON:Shape × List (Out × Shape):=(⟨[(0,bz),(1,aa),(4,.fn bu [] []),(12,aa),(13,aa)],ba⟩,[(.exit 8,⟨[(0,bz),(1,aa),(4,.fn bu [] []),(12,aa),(13,aa),(139,aB)],ba⟩)])
def OO:Shape × List (Out × Shape):=(⟨[(0,bz),(1,aa),(4,.fn bu [] []),(12,aa),(13,aa)],ba⟩,[(.exit 4,⟨[(0,bz),(1,aa),(4,.fn bu [] []),(12,aa),(13,aa),(144,aB)],ba⟩)])
def OP:Shape × List (Out × Shape):=(⟨[(0,cl),(2,aa),(3,aa),(4,.fn bE [] []),(10,aa),(11,aa),(40,aB)],bP⟩,[(.norm,⟨[(0,cl),(2,aa),(3,aa),(4,.fn bE [] []),(10,aa),(11,aa)],bP⟩)])
def OQ:Shape × List (Out × Shape):=(⟨[(0,cl),(2,aa),(3,aa),(4,.fn bE [] []),(10,aa)],bP⟩,[(.exit 0,⟨[(0,cl),(2,aa),(3,aa),(4,.fn bE [] []),(10,aa),(11,aa),(18,aB)],bP⟩),(.ret,⟨[(0,cl),(2,aa),(3,aa),(4,.fn bE [] []),(10,aa),(11,aa),(58,aB)],bP⟩)])
def OR:Shape × List (Out × Shape):=(⟨[(0,aa),(5,bz),(8,bx),(9,aa),(10,aa)],ba⟩,[(.exit 0,⟨V2,ba⟩)])
def OS:Shape × List (Out × Shape):=(⟨[(0,bz),(2,aa),(3,aa),(4,.fn bu [] []),(10,aa),(11,aa),(40,aB)],ba⟩,[(.norm,⟨[(0,bz),(2,aa),(3,aa),(4,.fn bu [] []),(10,aa),(11,aa)],ba⟩)])
def OT:Shape × List (Out × Shape):=(⟨[(0,bz),(2,aa),(3,aa),(4,.fn bu [] []),(10,aa)],ba⟩,[(.exit 0,⟨[(0,bz),(2,aa),(3,aa),(4,.fn bu [] []),(10,aa),(11,aa),(18,aB)],ba⟩),(.ret,⟨[(0,bz),(2,aa),(3,aa),(4,.fn bu [] []),(10,aa),(11,aa),(58,aB)],ba⟩)])
def OU:Shape × List (Out × Shape):=(⟨[(0,bx),(1,.fn ny [] []),(7,aa),(8,aa)],[]⟩,[(.ret,⟨tU,[]⟩),(.exit 0,⟨[(0,bx),(1,.fn ny [] []),(7,aa),(8,aa),(9,aB)],[]⟩)])
def OV:Shape × List (Out × Shape):=(⟨[(0,bx),(1,.fn nx [] []),(7,aa),(8,aa)],[]⟩,[(.ret,⟨tU,[]⟩),(.exit 0,⟨[(0,bx),(1,.fn nx [] []),(7,aa),(8,aa),(9,aB)],[]⟩)])
def OW:Shape × List (Out × Shape):=(⟨[(0,bx),(1,.fn kD [] []),(7,aa),(8,aa)],[]⟩,[(.ret,⟨tU,[]⟩),(.exit 0,⟨[(0,bx),(1,.fn kD [] []),(7,aa),(8,aa),(9,aB)],[]⟩)])
def OX:Shape × List (Out × Shape):=(⟨[(0,bz),(1,.fn pU [] []),(5,aa),(6,aa)],ba⟩,[(.exit 0,⟨[(0,bz),(1,.fn pU [] []),(5,aa),(6,aa),(19,aB)],ba⟩)])
def OY:Shape × List (Out × Shape):=(⟨[(0,bx),(1,.fn pU [] []),(7,aa),(8,aa)],[]⟩,[(.ret,⟨tU,[]⟩),(.exit 0,⟨[(0,bx),(1,.fn pU [] []),(7,aa),(8,aa),(9,aB)],[]⟩)])
def OZ:Shape × List (Out × Shape):=(⟨[(0,bz),(1,.fn ny [] []),(5,aa),(6,aa)],ba⟩,[(.exit 0,⟨[(0,bz),(1,.fn ny [] []),(5,aa),(6,aa),(19,aB)],ba⟩)])
def O0:Shape × List (Out × Shape):=(⟨[(0,bz),(1,.fn qX [] []),(5,aa),(6,It),(7,aa)],ba⟩,[(.exit 2,⟨[(0,bz),(1,.fn qX [] []),(5,aa),(6,It),(7,aa),(35,aB)],ba⟩)])
def O1:Shape × List (Out × Shape):=(⟨[(0,bz),(1,.fn qX [] []),(5,aa)],ba⟩,[(.ret,⟨[(4,j9)],ra⟩),(.exit 0,⟨[(0,bz),(1,.fn qX [] []),(5,aa),(15,aB)],ba⟩)])
def O2:Shape × List (Out × Shape):=(⟨[(0,bz),(1,.fn pT [] []),(5,aa),(6,aa)],ba⟩,[(.exit 0,⟨[(0,bz),(1,.fn pT [] []),(5,aa),(6,aa),(19,aB)],ba⟩)])
def O3:Shape × List (Out × Shape):=(⟨[(0,bx),(1,.fn pT [] []),(7,aa),(8,aa)],[]⟩,[(.ret,⟨tU,[]⟩),(.exit 0,⟨[(0,bx),(1,.fn pT [] []),(7,aa),(8,aa),(9,aB)],[]⟩)])
def O4:Shape × List (Out × Shape):=(⟨[(0,bz),(1,.fn vO [] [.mi 1 0 0]),(7,aa),(8,aa)],CK⟩,[(.ret,⟨tU,CK⟩),(.exit 0,⟨[(0,bz),(1,.fn vO [] [.mi 1 0 0]),(7,aa),(8,aa),(9,aB)],CK⟩)])
def afL:List (Nat × FuncId):=[(3,MN),
 (6,Cl),
 (7,HO),
 (8,Cm),
 (9,yA),
 (10,yB),
 (11,yC),
 (15,HP),
 (16,ae0),
 (18,ae1),
 (19,HQ),
 (20,HR),
 (21,yD),
 (22,vN),
 (23,ae2),
 (24,HS),
 (25,HT),
 (26,tP),
 (27,pS),
 (28,vO),
 (29,bu),
 (30,kD),
 (31,HU),
 (32,bE),
 (33,HV),
 (34,tQ),
 (35,yE),
 (36,HW),
 (37,sx),
 (38,qS),
 (39,HX),
 (44,HY),
 (45,ae3),
 (50,yF),
 (51,ae4),
 (52,ae5),
 (53,ae6),
 (54,ae7),
 (55,ae8),
 (56,ae9),
 (57,Cn),
 (58,qT),
 (59,yG),
 (60,Co),
 (61,qU),
 (62,vP),
 (63,pT),
 (64,Cp),
 (65,qV),
 (66,HZ),
 (67,vQ),
 (68,iJ),
 (69,vR),
 (70,H0),
 (71,yH),
 (72,yI),
 (73,yJ),
 (74,Cq),
 (75,vS),
 (76,yK),
 (77,H2),
 (79,H3),
 (88,yL),
 (89,afa),
 (90,afb),
 (91,afc),
 (92,afd),
 (93,afe),
 (94,yM),
 (95,iK),
 (96,yN),
 (97,Cr),
 (98,Cs),
 (99,H4),
 (100,Ct),
 (101,H5),
 (102,H6),
 (103,vT),
 (104,oS),
 (106,Cu),
 (111,yO),
 (116,nx),
 (123,H7),
 (124,H8),
 (125,H9),
 (126,vU),
 (127,Cv),
 (128,Cw),
 (129,Ia),
 (130,Cx),
 (131,Ib),
 (132,Ic),
 (133,vV),
 (134,oT),
 (135,Cy),
 (136,yP),
 (137,yQ),
 (138,yR),
 (139,Cz),
 (145,ny),
 (146,tR),
 (147,yS),
 (148,nz),
 (149,vW),
 (150,qW),
 (151,pU),
 (152,CA),
 (153,yT),
 (154,CB),
 (155,yU),
 (159,qX),
 (160,yV),
 (187,vQ),
 (188,pS),
 (189,vQ),
 (190,pS),
 (192,vQ),
 (193,pS),
 (194,vP),
 (195,pS),
 (196,vP),
 (203,Co),
 (206,vP),
 (207,pS),
 (208,pS)]
def afM:List (Nat × Shape):=[(3,⟨mI,[]⟩),
 (6,⟨mI,[]⟩),
 (7,⟨g9,[]⟩),
 (8,⟨[],[]⟩),
 (9,⟨mI,[]⟩),
 (10,⟨mI,[]⟩),
 (11,⟨[(0,CH),(1,CH)],[]⟩),
 (15,⟨g9,[]⟩),
 (16,⟨mI,[]⟩),
 (18,⟨[(0,CH),(1,Is)],[]⟩),
 (19,⟨ey,[]⟩),
 (20,⟨g9,[]⟩),
 (21,⟨mI,[]⟩),
 (22,⟨mI,[]⟩),
 (23,⟨[],[]⟩),
 (24,⟨mI,[]⟩),
 (25,⟨mJ,ba⟩),
 (26,⟨mI,[]⟩),
 (27,⟨[(0,bx),(1,.fn qT [] [])],[]⟩),
 (28,⟨[(0,qY),(1,bV)],iL⟩),
 (29,⟨ID,[]⟩),
 (30,⟨g9,[]⟩),
 (31,⟨[(0,cl),(1,.fn bE [] [])],bP⟩),
 (32,⟨[(0,Iu),(1,Iu)],[]⟩),
 (33,⟨mI,[]⟩),
 (34,⟨g9,[]⟩),
 (35,⟨g9,[]⟩),
 (36,⟨ey,[]⟩),
 (37,⟨mI,[]⟩),
 (38,⟨ID,[]⟩),
 (39,⟨[(0,nB)],[]⟩),
 (44,⟨g9,[]⟩),
 (45,⟨[(0,Is),(1,aa)],[]⟩),
 (50,⟨g9,[]⟩),
 (51,⟨g9,[]⟩),
 (52,⟨[(0,bV),(1,qY)],[.var 71 [aa,.one (.whole sy 1)],mH]⟩),
 (53,⟨rb,[]⟩),
 (54,⟨[(0,CH)],[]⟩),
 (55,⟨[(0,CH)],[]⟩),
 (56,⟨[(0,CG),(1,eF)],[]⟩),
 (57,⟨mI,[]⟩),
 (58,⟨g9,[]⟩),
 (59,⟨[(0,bz),(1,.fn bu [] [])],ba⟩),
 (60,⟨[(0,bz),(1,.fn qU [] [])],ba⟩),
 (61,⟨ID,[]⟩),
 (62,⟨[(0,bz),(1,.fn nx [] [])],ba⟩),
 (63,⟨g9,[]⟩),
 (64,⟨[(0,bx),(1,bx)],[]⟩),
 (65,⟨y4,[]⟩),
 (66,⟨[(0,bx),(1,bx),(2,.fn bu [] [])],[]⟩),
 (67,⟨[(0,bx),(1,.fn qT [] [])],[]⟩),
 (68,⟨[(0,cl),(1,aa),(2,aa),(3,aa),(4,.fn bE [] [])],bP⟩),
 (69,⟨rb,[]⟩),
 (70,⟨[(0,VZ)],[]⟩),
 (71,⟨mI,[]⟩),
 (72,⟨g9,[]⟩),
 (73,⟨MX,[]⟩),
 (74,⟨[(0,bx),(1,qY)],[]⟩),
 (75,⟨[(0,bx),(1,qY)],[]⟩),
 (76,⟨eG,[]⟩),
 (77,⟨[(0,Iu),(1,Iu)],[]⟩),
 (79,⟨g9,[]⟩),
 (88,⟨MX,[]⟩),
 (89,⟨[(0,bV),(1,eF),(2,eF)],[.var 71 [aa,.one (.whole sy 1)],mH]⟩),
 (90,⟨rb,[]⟩),
 (91,⟨ey,[]⟩),
 (92,⟨[(0,CG)],[]⟩),
 (93,⟨ey,[]⟩),
 (94,⟨mI,[]⟩),
 (95,⟨[(0,bz),(1,aa),(2,aa),(3,aa),(4,.fn bu [] [])],ba⟩),
 (96,⟨ey,[]⟩),
 (97,⟨[(0,cl),(1,aa),(2,aa),(3,.fn bE [] [])],bP⟩),
 (98,⟨[(0,cl),(1,aa),(2,aa),(3,.fn bE [] [])],bP⟩),
 (99,⟨[(0,cl),(1,aa),(2,aa),(3,.fn bE [] [])],bP⟩),
 (100,⟨[(0,nB),(1,aa),(2,aa),(3,.fn bE [] [])],[]⟩),
 (101,⟨[(0,cl),(1,aa),(2,aa),(3,.fn bE [] [])],bP⟩),
 (102,⟨[(0,cl),(1,aa),(2,aa),(3,.fn bE [] [])],bP⟩),
 (103,⟨[(0,cl),(1,aa),(2,aa),(3,aa),(4,.fn bE [] [])],bP⟩),
 (104,⟨[(0,cl),(1,aa),(2,aa),(3,aa),(4,.fn bE [] [])],bP⟩),
 (106,⟨rb,[]⟩),
 (111,⟨[(0,qY),(1,aa),(2,bV)],gI⟩),
 (116,⟨g9,[]⟩),
 (123,⟨y5,[]⟩),
 (124,⟨y5,[]⟩),
 (125,⟨y5,[]⟩),
 (126,⟨[],[]⟩),
 (127,⟨[(0,bz),(1,aa),(2,aa),(3,.fn bu [] [])],ba⟩),
 (128,⟨[(0,bz),(1,aa),(2,aa),(3,.fn bu [] [])],ba⟩),
 (129,⟨[(0,bz),(1,aa),(2,aa),(3,.fn bu [] [])],ba⟩),
 (130,⟨[(0,bx),(1,aa),(2,aa),(3,.fn bu [] [])],[]⟩),
 (131,⟨[(0,bz),(1,aa),(2,aa),(3,.fn bu [] [])],ba⟩),
 (132,⟨[(0,bz),(1,aa),(2,aa),(3,.fn bu [] [])],ba⟩),
 (133,⟨[(0,bz),(1,aa),(2,aa),(3,aa),(4,.fn bu [] [])],ba⟩),
 (134,⟨[(0,bz),(1,aa),(2,aa),(3,aa),(4,.fn bu [] [])],ba⟩),
 (135,⟨[(0,cl),(1,aa),(2,aa),(3,aa),(4,.fn bE [] [])],bP⟩),
 (136,⟨ey,[]⟩),
 (137,⟨[(0,bV)],[Iw]⟩),
 (138,⟨[(0,nB),(1,aa),(2,bV),(3,.fn bE [] [])],gI⟩),
 (139,⟨[(0,nB),(1,aa),(2,aa),(3,aa),(4,bV),(5,.fn bE [] [])],gI⟩),
 (145,⟨g9,[]⟩),
 (146,⟨[],[]⟩),
 (147,⟨MX,[]⟩),
 (148,⟨[(0,aa),(1,bx),(2,qY)],[]⟩),
 (149,⟨mJ,ba⟩),
 (150,⟨[],[]⟩),
 (151,⟨g9,[]⟩),
 (152,⟨[(0,bz),(1,aa),(2,aa),(3,aa),(4,.fn bu [] [])],ba⟩),
 (153,⟨[(0,bx),(1,aa),(2,bV),(3,.fn bu [] [])],gI⟩),
 (154,⟨[(0,bx),(1,aa),(2,aa),(3,aa),(4,bV),(5,.fn bu [] [])],gI⟩),
 (155,⟨[(0,nB),(1,aa),(2,aa),(3,bV),(4,.fn bE [] [])],gI⟩),
 (159,⟨ID,[]⟩),
 (160,⟨[(0,bx),(1,aa),(2,aa),(3,bV),(4,.fn bu [] [])],gI⟩),
 (187,⟨[(0,bx),(1,.fn ny [] [])],[]⟩),
 (188,⟨[(0,bx),(1,.fn ny [] [])],[]⟩),
 (189,⟨[(0,bx),(1,.fn nx [] [])],[]⟩),
 (190,⟨[(0,bx),(1,.fn nx [] [])],[]⟩),
 (192,⟨[(0,bx),(1,.fn kD [] [])],[]⟩),
 (193,⟨[(0,bx),(1,.fn kD [] [])],[]⟩),
 (194,⟨[(0,bz),(1,.fn pU [] [])],ba⟩),
 (195,⟨[(0,bx),(1,.fn pU [] [])],[]⟩),
 (196,⟨[(0,bz),(1,.fn ny [] [])],ba⟩),
 (203,⟨[(0,bz),(1,.fn qX [] [])],ba⟩),
 (206,⟨[(0,bz),(1,.fn pT [] [])],ba⟩),
 (207,⟨[(0,bx),(1,.fn pT [] [])],[]⟩),
 (208,⟨[(0,bz),(1,.fn vO [] [.mi 1 0 0])],CK⟩)]
def afN:List (Nat × Shape):=[(3,⟨eG,[]⟩),
 (6,⟨ey,[]⟩),
 (7,⟨ey,[]⟩),
 (8,⟨eG,[]⟩),
 (9,⟨MY,bP⟩),
 (10,⟨MY,bP⟩),
 (11,⟨eG,[]⟩),
 (15,⟨g9,[]⟩),
 (16,⟨MY,bP⟩),
 (18,⟨eG,[]⟩),
 (19,⟨eG,[]⟩),
 (20,⟨eG,[]⟩),
 (21,⟨eG,[]⟩),
 (22,⟨y4,[]⟩),
 (23,⟨[(0,Iv)],ba⟩),
 (24,⟨ey,[]⟩),
 (25,⟨tV,ra⟩),
 (26,⟨mJ,ba⟩),
 (27,⟨ey,[]⟩),
 (28,⟨eG,iL⟩),
 (29,⟨ey,[]⟩),
 (30,⟨eG,[]⟩),
 (31,⟨[],bP⟩),
 (32,⟨ey,[]⟩),
 (33,⟨ey,[]⟩),
 (34,⟨g9,[]⟩),
 (35,⟨eG,[]⟩),
 (36,⟨rb,[]⟩),
 (37,⟨y5,[]⟩),
 (38,⟨ey,[]⟩),
 (39,⟨[(0,cl)],bP⟩),
 (44,⟨eG,[]⟩),
 (45,⟨eG,[]⟩),
 (50,⟨g9,[]⟩),
 (51,⟨[(0,yW)],[ka]⟩),
 (52,⟨[(0,.agg [.int .u64,.int .u64,.bool])],[.var 71 [aa,.one (.whole sy 2)],.dead,mH]⟩),
 (53,⟨[(0,yW)],[ka]⟩),
 (54,⟨ey,[]⟩),
 (55,⟨[(0,VY)],[]⟩),
 (56,⟨rb,[]⟩),
 (57,⟨ey,[]⟩),
 (58,⟨eG,[]⟩),
 (59,⟨[],ba⟩),
 (60,⟨tV,ra⟩),
 (61,⟨eG,[]⟩),
 (62,⟨tV,ra⟩),
 (63,⟨eG,[]⟩),
 (64,⟨mJ,ba⟩),
 (65,⟨ey,[]⟩),
 (66,⟨ey,[]⟩),
 (67,⟨eG,[]⟩),
 (68,⟨[],bP⟩),
 (69,⟨ey,[]⟩),
 (70,⟨ey,[]⟩),
 (71,⟨eG,[]⟩),
 (72,⟨eG,[]⟩),
 (73,⟨mJ,ba⟩),
 (74,⟨y5,[]⟩),
 (75,⟨y5,[]⟩),
 (76,⟨ey,[]⟩),
 (77,⟨eG,[]⟩),
 (79,⟨eG,[]⟩),
 (88,⟨g9,[]⟩),
 (89,⟨[],[.var 71 [aa,.one (.whole sy 2)],.dead,mH]⟩),
 (90,⟨ey,[]⟩),
 (91,⟨rb,[]⟩),
 (92,⟨eG,[]⟩),
 (93,⟨rb,[]⟩),
 (94,⟨eG,[]⟩),
 (95,⟨[],ba⟩),
 (96,⟨eG,[]⟩),
 (97,⟨[],bP⟩),
 (98,⟨[],bP⟩),
 (99,⟨[],bP⟩),
 (100,⟨y4,[]⟩),
 (101,⟨[],bP⟩),
 (102,⟨eG,bP⟩),
 (103,⟨ey,bP⟩),
 (104,⟨[(0,aa),(1,aB)],bP⟩),
 (106,⟨ey,[]⟩),
 (111,⟨eG,gI⟩),
 (116,⟨eG,[]⟩),
 (123,⟨g9,[]⟩),
 (124,⟨g9,[]⟩),
 (125,⟨g9,[]⟩),
 (126,⟨[(0,Iv)],ba⟩),
 (127,⟨[],ba⟩),
 (128,⟨[],ba⟩),
 (129,⟨[],ba⟩),
 (130,⟨y4,[]⟩),
 (131,⟨[],ba⟩),
 (132,⟨eG,ba⟩),
 (133,⟨ey,ba⟩),
 (134,⟨[(0,aa),(1,aB)],ba⟩),
 (135,⟨[],bP⟩),
 (136,⟨rb,[]⟩),
 (137,⟨rb,[Iw]⟩),
 (138,⟨ey,gI⟩),
 (139,⟨ey,gI⟩),
 (145,⟨eG,[]⟩),
 (146,⟨[(0,Iv)],ba⟩),
 (147,⟨mJ,ba⟩),
 (148,⟨g9,[]⟩),
 (149,⟨tV,ra⟩),
 (150,⟨[(0,Iv)],ba⟩),
 (151,⟨eG,[]⟩),
 (152,⟨[],ba⟩),
 (153,⟨ey,gI⟩),
 (154,⟨ey,gI⟩),
 (155,⟨y4,gI⟩),
 (159,⟨eG,[]⟩),
 (160,⟨y4,gI⟩),
 (187,⟨eG,[]⟩),
 (188,⟨ey,[]⟩),
 (189,⟨eG,[]⟩),
 (190,⟨ey,[]⟩),
 (192,⟨eG,[]⟩),
 (193,⟨ey,[]⟩),
 (194,⟨tV,ra⟩),
 (195,⟨ey,[]⟩),
 (196,⟨tV,ra⟩),
 (203,⟨tV,ra⟩),
 (206,⟨tV,ra⟩),
 (207,⟨ey,[]⟩),
 (208,⟨ey,CK⟩)]
def afO:List (Nat × Shape):=[(25,⟨mJ,ba⟩),
 (60,⟨mJ,ba⟩),
 (62,⟨mJ,ba⟩),
 (149,⟨mJ,ba⟩),
 (194,⟨mJ,ba⟩),
 (196,⟨mJ,ba⟩),
 (203,⟨mJ,ba⟩),
 (206,⟨mJ,ba⟩)]
def afP:List (Nat × List (Nat × List Nat)):=[(3,[(0,[1,2]),(1,[1,2,17]),(2,[4]),(3,[1,2,5,6]),(4,[5,6,7,8]),(5,[4])]),
 (6,[(0,[1,2]),(1,[1,2,5]),(2,[4]),(3,[1,2,9]),(4,[4]),(5,[13]),(6,[4]),(7,[4])]),
 (7,[(0,[1]),(1,[3]),(2,[2])]),
 (8,[(0,[]),(1,[1,2]),(2,[0])]),
 (9,[(0,[1,2,4]),(1,[1,2,4,6]),(2,[1,2,4,6,18]),(3,[4,5]),(4,[1,4,7]),(5,[1,4,7,8]),(6,[1,4,7,8,9]),(7,[1,4,7,8,9,29]),(8,[1,4,7,8,9]),(9,[1,4,7,8,9,32,33]),(10,[1,4,7,8,9,32,33,34]),(11,[1,4,7,8,9,10,32,33]),(12,[1,4,7,8,9,10,32,33,42,43,44]),(13,[1,4,7,8,9,10,32,33,42,43,44,45]),(14,[1,4,7,8,9,10,12,32,33,42,43,44]),(15,[1,4,7,8,9,10,12,13,32,33,42,43,44]),(16,[1,4,7,8,9,10,12,13,32,33,42,43,44,52]),(17,[1,4,7,8,9,10,12,32,33,42,43,44,55]),(18,[4,5]),(19,[1,4,7,8,9,10,12,13,32,33,42,43,44]),(20,[1,4,7,8,9,10,13,32,33,42,43,44]),(21,[1,4,7,8,9,10,32,33,42,43,44]),(22,[1,4,7,8,9,10,32,33,42,43,44]),(23,[1,4,7,8,9,32,33]),(24,[1,4,7,8,9,78]),(25,[1,4,7,8,9]),(26,[4,8]),(27,[4,8]),(28,[4,5])]),
 (10,[(0,[1,2,4]),(1,[1,2,4,6]),(2,[1,2,4,6,19]),(3,[4,5]),(4,[1,4,7]),(5,[1,4,7,8]),(6,[1,4,7,8,9]),(7,[1,4,7,8,9,30]),(8,[1,4,7,8,9]),(9,[1,4,7,8,9,37]),(10,[1,4,7,8,9]),(11,[1,4,7,8,9,10]),(12,[1,4,7,8,9,10,46]),(13,[1,4,7,8,9,10]),(14,[1,4,7,8,9,10,54,55,56]),(15,[1,4,7,8,9,10,54,55,56,57]),(16,[1,4,7,8,9,10,12,54,55,56]),(17,[1,4,7,8,9,10,12,13,54,55,56]),(18,[1,4,7,8,9,10,12,13,54,55,56,61,62]),(19,[1,4,7,8,9,10,12,13,54,55,56,61,62,63]),(20,[1,4,7,8,9,10,12,13,14,54,55,56,61,62]),(21,[1,4,7,8,9,10,12,13,14,54,55,56,61,62,71]),(22,[1,4,7,8,9,10,12,13,54,55,56,61,62]),(23,[1,4,7,8,9,10,12,13,54,55,56,61,62]),(24,[1,4,7,8,9,10,12,13,54,55,56,75]),(25,[1,4,7,8,9,10,12,54,55,56,78]),(26,[4,5]),(27,[1,4,7,8,9,10,12,13,54,55,56]),(28,[1,4,7,8,9,10,13,54,55,56]),(29,[1,4,7,8,9,10,54,55,56]),(30,[1,4,7,8,9,10,54,55,56]),(31,[4,8]),(32,[4,5])]),
 (11,[(0,[2,3]),(1,[2,3,40]),(2,[4]),(3,[2,3,43,44]),(4,[2,3,43,44,45]),(5,[2,3,5,43,44]),(6,[2,3,43,44,57]),(7,[4]),(8,[2,3,43,44]),(9,[4])]),
 (15,[(0,[1,2]),(1,[1,2,5]),(2,[2]),(3,[2])]),
 (16,[(0,[1,2,4]),(1,[1,2,4,6]),(2,[1,2,4,6,19]),(3,[4,5]),(4,[1,2,4,7]),(5,[1,2,4,7,28]),(6,[4,5]),(7,[1,2,4,7,8]),(8,[1,4,7,8,9]),(9,[1,4,7,8,9]),(10,[4,7,8,9,10]),(11,[4,7,8,10,48]),(12,[4,7,8,10]),(13,[4,7,10,54,55,56]),(14,[4,7,10,54,55,56,57]),(15,[4,7,10,11,12,54,55,56]),(16,[4,7,10,11,54,55,56,62,63,64]),(17,[4,7,10,11,54,55,56,62,63,64,65]),(18,[4,7,10,11,14,54,55,56,62,63,64]),(19,[4,7,10,11,54,55,56,62,63,64]),(20,[4,7,10,11,54,55,56,62,63,64]),(21,[4,7,10,54,55,56]),(22,[4,10]),(23,[4,5])]),
 (18,[(0,[1,2]),(1,[1,2,17]),(2,[4]),(3,[1,2,5,6]),(4,[1,2,5,6,23,24]),(5,[1,2,5,6,23,24,25]),(6,[1,2,5,6,7,23,24]),(7,[1,2,5,6,23,24]),(8,[1,2,5,6,23,24]),(9,[4])]),
 (19,[(0,[0]),(1,[2])]),
 (20,[(0,[1]),(1,[3,4]),(2,[2])]),
 (21,[(0,[1,2]),(1,[1,2,5]),(2,[1,2,5,6]),(3,[1,2,5,6,20]),(4,[1,2,5,6]),(5,[1,2,5,6,20,26]),(6,[1,2,5,6,20,26]),(7,[1,2,5,6,20,26]),(8,[1,2,5,6]),(9,[1,2,5,6,20,32]),(10,[1,2,5,6,32]),(11,[1,2,5,6]),(12,[1,2,5,6,39]),(13,[1,2,5,6]),(14,[1,2,5,6]),(15,[1,2,5,6,7]),(16,[1,2,5,6,7,63]),(17,[1,2,5,6,7]),(18,[1,2,5,6,7]),(19,[4])]),
 (22,[(0,[1,2]),(1,[1,2,6,7]),(2,[1,2,6,7,8]),(3,[1,2,6,7,8,20]),(4,[1,2,6,7,8]),(5,[1,2,6,7,8,9,10]),(6,[1,2,6,7,8]),(7,[4,5])]),
 (23,[(0,[0]),(1,[0,1,2]),(2,[0])]),
 (24,[(0,[1,2]),(1,[2,5]),(2,[2,5,10]),(3,[4]),(4,[13]),(5,[4]),(6,[4])]),
 (25,[(0,[0]),(1,[0]),(2,[0]),(3,[2])]),
 (26,[(0,[1,2]),(1,[1,2,12]),(2,[1,2,12,13]),(3,[18]),(4,[4]),(5,[1,2,12,21]),(6,[1,2,5]),(7,[1,5,24,25,26]),(8,[1,5,24,25,26,27]),(9,[1,5,7,24,25,26]),(10,[1,5,24,25,26]),(11,[1,5,24,25,26]),(12,[4]),(13,[1,2,12,37]),(14,[4]),(15,[1,2,48]),(16,[1,2,8]),(17,[1,2,8,51,52,53]),(18,[1,2,8,51,52,53,54]),(19,[1,2,8,9,10,51,52,53]),(20,[1,2,8,10,51,52,53]),(21,[1,2,8,51,52,53,71]),(22,[1,2,8,51,52,53]),(23,[4]),(24,[4])]),
 (27,[(0,[0,1]),(1,[0,1,7,8]),(2,[0,1,7,8,9]),(3,[0,1,5,7,8]),(4,[0,1,5,7,8,16]),(5,[4]),(6,[0,1,7,8]),(7,[4])]),
 (28,[(0,[1,2]),(1,[3])]),
 (29,[(0,[2,3]),(1,[2,3,9]),(2,[4]),(3,[2,3,19]),(4,[4]),(5,[4])]),
 (30,[(0,[1]),(1,[1,6]),(2,[1,6,7]),(3,[1,6,7]),(4,[2]),(5,[1,6,10]),(6,[2]),(7,[1,6,15]),(8,[1,6,15]),(9,[19,20,21]),(10,[19,20,21,22]),(11,[4,19,20,21]),(12,[19,20,21,27]),(13,[2]),(14,[19,20,21]),(15,[2]),(16,[1,29]),(17,[2]),(18,[2])]),
 (31,[(0,[0,1,4]),(1,[])]),
 (32,[(0,[2,3]),(1,[4])]),
 (33,[(0,[1,2]),(1,[2,5]),(2,[2,5,10]),(3,[4]),(4,[17]),(5,[4]),(6,[4])]),
 (34,[(0,[1,2]),(1,[1,2,3]),(2,[1,2,3,19,20,21]),(3,[1,2,3,19,20,21,22]),(4,[1,2,3,5,19,20,21]),(5,[1,2,3,19,20,21]),(6,[1,2,3,19,20,21]),(7,[1,2,3,6,7]),(8,[1,2,3,6,7,8]),(9,[1,2,3,6,7,8,9]),(10,[1,2,3,6,7,8,9,10]),(11,[1,2,3,6,7,8,9,10,43]),(12,[2]),(13,[1,2,3,6,7,8,9,10,43,45]),(14,[2,3,9,51]),(15,[2]),(16,[2,9]),(17,[2]),(18,[1,2,3,6,7,8,9,10,43,61]),(19,[2,3,7,9,11]),(20,[2,3,7,9,11,66]),(21,[2]),(22,[2,3,9,11,76]),(23,[2]),(24,[2,9]),(25,[2]),(26,[1,2,3,6,7,8,9,10,43,88]),(27,[1,2,3,6,9,10]),(28,[2,6,9,10,94,95,96]),(29,[2,6,9,10,94,95,96,97]),(30,[2,6,9,10,13,94,95,96]),(31,[2,6,9,10,13,94,95,96,102]),(32,[2]),(33,[2,6,9,10,13,94,95,96,106]),(34,[2,6,9,10,94,95,96]),(35,[2,6,9,10,94,95,96]),(36,[1,2,3,6,8,9,10,43,114]),(37,[2,8,9,10,119,120,121]),(38,[2,8,9,10,119,120,121,122]),(39,[2,8,9,10,15,119,120,121]),(40,[2,8,9,10,15,119,120,121,126]),(41,[2]),(42,[2,8,9,10,15,119,120,121,130]),(43,[2,8,9,10,119,120,121]),(44,[2,8,9,10,119,120,121]),(45,[1,2,3,6,8,9,10,137]),(46,[1,2,3,6,9,10]),(47,[2,6,9,10,143,144,145]),(48,[2,6,9,10,143,144,145,146]),(49,[2,6,9,10,17,143,144,145]),(50,[2,6,9,10,17,143,144,145,151]),(51,[2]),(52,[2,6,9,10,17,143,144,145,155]),(53,[2,6,9,10,143,144,145]),(54,[2,6,9,10,143,144,145]),(55,[2,9,10,164]),(56,[2,9,10,164,165]),(57,[2]),(58,[2,9,168]),(59,[2]),(60,[2])]),
 (35,[(0,[1]),(1,[1,3,4]),(2,[1,3,4,9,10,11]),(3,[1,3,4,9,10,11,12]),(4,[1,3,4,6,9,10,11]),(5,[1,3,4,7,9,10,11]),(6,[1,3,4,9,10,11]),(7,[1,3,4,9,10,11]),(8,[3,4,27]),(9,[3,4,27,28]),(10,[3,4,27,28]),(11,[2]),(12,[3,4,27,31]),(13,[2]),(14,[3,4,27,34]),(15,[3,4,27,34]),(16,[2]),(17,[4,38]),(18,[2]),(19,[2])]),
 (36,[(0,[0]),(1,[2])]),
 (37,[(0,[1,2]),(1,[1,2,5]),(2,[1,2,5,18]),(3,[1,2,5,18,19]),(4,[5,24]),(5,[5]),(6,[1,2,5,18,27]),(7,[1,5,30,31,32]),(8,[1,5,30,31,32,33]),(9,[1,5,7,30,31,32]),(10,[1,5,30,31,32,38,39,40]),(11,[1,5,30,31,32,38,39,40,41]),(12,[1,5,9,30,31,32,38,39,40]),(13,[1,5,30,31,32,38,39,40]),(14,[1,5,30,31,32,38,39,40]),(15,[1,5,30,31,32]),(16,[1,2,5,18,49]),(17,[2,5,56,57,58]),(18,[2,5,56,57,58,59]),(19,[2,5,11,56,57,58]),(20,[2,5,56,57,58]),(21,[2,5,56,57,58]),(22,[1,2,5,70]),(23,[1,2,5,12]),(24,[1,2,5,12,79]),(25,[1,2,5,12]),(26,[1,2,5,12,89,90,91]),(27,[1,2,5,12,89,90,91,92]),(28,[1,2,5,12,14,89,90,91]),(29,[1,2,5,12,89,90,91]),(30,[1,2,5,12,89,90,91]),(31,[1,5,12,107]),(32,[5,110,111,112]),(33,[5,110,111,112,113]),(34,[5,16,110,111,112]),(35,[5,110,111,112]),(36,[5,110,111,112]),(37,[4])]),
 (38,[(0,[2,3]),(1,[2,3,7]),(2,[4]),(3,[2,3,19]),(4,[4]),(5,[2,3,5]),(6,[2,3,5,42]),(7,[2,3,5]),(8,[2,3,5,6]),(9,[2,3,5,6,57]),(10,[4]),(11,[2,3,65]),(12,[4]),(13,[4])]),
 (39,[(0,[0]),(1,[0,3]),(2,[3,7,8,9]),(3,[3,7,8,9,10]),(4,[3,5,7,8,9]),(5,[3,5,6,7,8,9]),(6,[3,5,6,7,8,9,25]),(7,[3,5,6,7,8,9]),(8,[3,5,6,7,8,9,38]),(9,[3,7,8,9]),(10,[3,7,8,9]),(11,[2])]),
 (44,[(0,[1]),(1,[2])]),
 (45,[(0,[0,1]),(1,[0,1,16]),(2,[4]),(3,[0,1,18,19]),(4,[0,1,18,19,20]),(5,[0,1,5,18,19]),(6,[0,1,18,19,34]),(7,[4]),(8,[0,1,18,19]),(9,[4])]),
 (50,[(0,[1,2]),(1,[1,2,9]),(2,[2]),(3,[1,2,3]),(4,[1,2,3,20,21,22]),(5,[1,2,3,20,21,22,23]),(6,[1,2,3,4,5,20,21,22]),(7,[1,2,3,20,21,22]),(8,[1,2,3,20,21,22]),(9,[2])]),
 (51,[(0,[1]),(1,[1,8]),(2,[2]),(3,[1,3]),(4,[3,13,14,15]),(5,[3,13,14,15,16]),(6,[3,5,13,14,15]),(7,[3,13,14,15]),(8,[3,13,14,15]),(9,[2])]),
 (52,[(0,[0,3,4]),(1,[0,3,4,15]),(2,[0,3,4,15,16]),(3,[4]),(4,[0,3,4,15,19]),(5,[0,4]),(6,[4]),(7,[0,3,4,15,39]),(8,[0,3,4,5]),(9,[0,4,5,42,43,44]),(10,[0,4,5,42,43,44,45]),(11,[0,4,5,7,42,43,44]),(12,[0,4,5,8,42,43,44]),(13,[0,4,5,42,43,44]),(14,[0,4,5,42,43,44]),(15,[4]),(16,[0,3,4,15,70]),(17,[0,3,4,9]),(18,[0,4,9,74,75,76]),(19,[0,4,9,74,75,76,77]),(20,[0,4,9,11,74,75,76]),(21,[0,4,9,12,74,75,76]),(22,[0,4,9,12,74,75,76]),(23,[0,4,9,12,74,75,76,90]),(24,[0,4,9,12,74,75,76]),(25,[0,4,9,12,74,75,76,99]),(26,[0,4,9,12,74,75,76]),(27,[0,4,9,12,74,75,76]),(28,[0,4,9,74,75,76]),(29,[0,4,9,74,75,76]),(30,[4]),(31,[0,3,4,116]),(32,[0,4,13]),(33,[4,13]),(34,[4,13]),(35,[4]),(36,[4])]),
 (53,[(0,[0]),(1,[0,3]),(2,[0,3,5]),(3,[0,3]),(4,[0,3]),(5,[2])]),
 (54,[(0,[1]),(1,[1,22]),(2,[2]),(3,[1,32]),(4,[2]),(5,[1,34,35,36]),(6,[1,34,35,36,37]),(7,[1,3,4,34,35,36]),(8,[1,3,4,34,35,36,65]),(9,[2]),(10,[1,34,35,36,88]),(11,[2]),(12,[1,34,35,36]),(13,[2])]),
 (55,[(0,[1]),(1,[1,3]),(2,[1,3,11,12]),(3,[1,3,11,12,13]),(4,[1,3,4,11,12]),(5,[1,3,11,12]),(6,[1,3,11,12]),(7,[3,23,24,25]),(8,[3,23,24,25,26]),(9,[3,6,23,24,25]),(10,[3,23,24,25]),(11,[3,23,24,25]),(12,[2])]),
 (56,[(0,[0,1]),(1,[0,1,10]),(2,[4]),(3,[0,1,5]),(4,[0,5,16,17,18]),(5,[0,5,16,17,18,19]),(6,[0,5,7,16,17,18]),(7,[0,5,16,17,18]),(8,[0,5,16,17,18]),(9,[4])]),
 (57,[(0,[1,2]),(1,[1,2,10]),(2,[4]),(3,[1,2,13]),(4,[4]),(5,[17]),(6,[4]),(7,[4])]),
 (58,[(0,[1]),(1,[2])]),
 (59,[(0,[0,1,4]),(1,[])]),
 (60,[(0,[0,1]),(1,[0,1,10]),(2,[4]),(3,[0,1,5]),(4,[0,1,5,15]),(5,[0,1,5]),(6,[0,1,5,28]),(7,[0,1,5,6]),(8,[0,1,5,6,7]),(9,[0,1,5,6,7,35]),(10,[0,1,5,6,7]),(11,[0,1,5,6,7,49]),(12,[0,1,5,6,7]),(13,[0,1,5,6,7]),(14,[0,5]),(15,[4]),(16,[4])]),
 (61,[(0,[2,3]),(1,[4])]),
 (62,[(0,[0,1]),(1,[0,1,5]),(2,[0,1,5,12]),(3,[4]),(4,[0,1,5,6]),(5,[0,1,5,6,19]),(6,[0,1,5,6]),(7,[0,1,5,6,7]),(8,[0,1,5,6,7,29]),(9,[0,1,5,6]),(10,[0,1,5,6]),(11,[0,5]),(12,[4])]),
 (63,[(0,[1]),(1,[2])]),
 (64,[(0,[0,1]),(1,[0,1,5]),(2,[1,5,11,12,13]),(3,[1,5,11,12,13,14]),(4,[1,5,6,7,11,12,13]),(5,[1,5,11,12,13]),(6,[1,5,11,12,13]),(7,[4])]),
 (65,[(0,[0,1]),(1,[0,1,5]),(2,[0,1,5,6]),(3,[0,1,6,11]),(4,[12]),(5,[4]),(6,[4]),(7,[0,1,13]),(8,[4]),(9,[0,1,16]),(10,[4]),(11,[19]),(12,[4]),(13,[4])]),
 (66,[(0,[0,1,2]),(1,[0,1,2,11,12,13]),(2,[0,1,2,11,12,13,14]),(3,[0,1,2,7,8,11,12,13]),(4,[0,1,2,7,8,11,12,13,21]),(5,[6]),(6,[0,1,2,8,9,11,12,13]),(7,[0,1,2,10,11,12,13]),(8,[0,1,2,10,11,12,13,31]),(9,[6]),(10,[0,1,2,11,12,13]),(11,[38]),(12,[6]),(13,[6])]),
 (67,[(0,[0,1]),(1,[4])]),
 (68,[(0,[0,1,2,3,4,10]),(1,[0,1,2,3,4,10,11]),(2,[0,1,2,3,4,10,11,12]),(3,[0,1,2,3,4,10,11,12,25]),(4,[]),(5,[0,1,2,3,4,10,11,12,32]),(6,[]),(7,[0,1,2,3,4,10,11,12,39]),(8,[0,1,2,3,4,10,11,12]),(9,[0,1,2,3,4,10,11,12]),(10,[0,1,2,3,4,10,11,12,13,14]),(11,[0,1,2,3,4,10,11,12,13,14,56]),(12,[0,1,2,3,4,10,11,12,13]),(13,[0,1,2,3,4,10,11,12,13]),(14,[0,1,2,3,4,10,11,12,13,14]),(15,[0,1,2,3,4,10,11,12,13,75]),(16,[0,1,2,3,4,10,11,12,13,80]),(17,[0,1,2,3,4,10,11,12,13,97]),(18,[0,2,3,4,10,11,15]),(19,[0,1,2,3,4,10,11]),(20,[0,1,2,3,4,12,16,17]),(21,[0,1,2,3,4,11,12,16]),(22,[0,1,2,3,4,11,12,16,18,19]),(23,[0,1,2,3,4,11,16,18,19,20]),(24,[0,1,2,3,4,11,16,18,19,20,125]),(25,[0,1,2,3,4,10,11,16]),(26,[0,2,3,4,10,11,16]),(27,[0,1,2,3,4,10,11]),(28,[0,1,2,3,4,10,11,16]),(29,[0,1,3,4,10,11,16]),(30,[0,1,2,3,4,10,11])]),
 (69,[(0,[0]),(1,[2]),(2,[2])]),
 (70,[(0,[0]),(1,[0,3]),(2,[3,6,7,8]),(3,[3,6,7,8,9]),(4,[3,5,6,7,8]),(5,[3,5,6,7,8,14]),(6,[2]),(7,[3,6,7,8]),(8,[2])]),
 (71,[(0,[1,2]),(1,[1,2,10]),(2,[4]),(3,[1,12,13,14]),(4,[1,12,13,14,15]),(5,[1,6,12,13,14]),(6,[1,12,13,14,20]),(7,[4]),(8,[1,12,13,14]),(9,[4])]),
 (72,[(0,[1]),(1,[2])]),
 (73,[(0,[0,1]),(1,[0,1,5]),(2,[0,5,8,9,10]),(3,[0,5,8,9,10,11]),(4,[0,5,7,8,9,10]),(5,[0,5,7,8,9,10,17]),(6,[0,5,8,9,10]),(7,[0,5,8,9,10]),(8,[0,5,8,9,10]),(9,[4])]),
 (74,[(0,[0,3]),(1,[0,3,5]),(2,[0,3,5,19]),(3,[0,3,5]),(4,[0,3,5,33]),(5,[4]),(6,[4])]),
 (75,[(0,[0,3]),(1,[0,3,5]),(2,[0,3,5,19]),(3,[0,3,5]),(4,[0,3,5,38]),(5,[4]),(6,[4])]),
 (76,[(0,[0]),(1,[3]),(2,[2]),(3,[2])]),
 (77,[(0,[2,3]),(1,[2,3,9]),(2,[4]),(3,[2,3,19]),(4,[4]),(5,[4])]),
 (79,[(0,[1]),(1,[1,3]),(2,[2])]),
 (88,[(0,[0,1,4]),(1,[0,1,4,6]),(2,[0,1,4,6,7]),(3,[4]),(4,[0,1,4,6,11]),(5,[4]),(6,[0,1,4,15]),(7,[4]),(8,[0,1,4,21]),(9,[4]),(10,[0,4,5]),(11,[4,5,26]),(12,[4,5,26,27]),(13,[4,5,37]),(14,[4]),(15,[4]),(16,[4,5,45]),(17,[4,5,47]),(18,[4]),(19,[4,5,57]),(20,[4]),(21,[4]),(22,[4])]),
 (89,[(0,[0,2,9,10,11]),(1,[0,2,9,10,11,12]),(2,[0,2,7,9,10,11]),(3,[0,2,9,10,11]),(4,[0,2,9,10,11])]),
 (90,[(0,[0]),(1,[0,4]),(2,[2]),(3,[2])]),
 (91,[(0,[0]),(1,[2])]),
 (92,[(0,[0]),(1,[0,7]),(2,[2]),(3,[0,8,9,10]),(4,[0,8,9,10,11]),(5,[0,4,8,9,10]),(6,[0,8,9,10,19]),(7,[2]),(8,[0,8,9,10]),(9,[2])]),
 (93,[(0,[0]),(1,[2])]),
 (94,[(0,[1,2]),(1,[1,2,9]),(2,[4]),(3,[1,2,27]),(4,[4]),(5,[1,2,29]),(6,[4]),(7,[1,2,29,30]),(8,[1,2,29,30]),(9,[4]),(10,[1,2,29,37]),(11,[1,2,29,37]),(12,[1,2,29,37]),(13,[1,2,44]),(14,[4]),(15,[1,2,29,45]),(16,[1,2,45]),(17,[1,2,51]),(18,[4]),(19,[1,53,54,55]),(20,[1,53,54,55,56]),(21,[1,6,53,54,55]),(22,[1,53,54,55,62]),(23,[4]),(24,[1,53,54,55]),(25,[4])]),
 (95,[(0,[0,1,2,3,4,10]),(1,[0,1,2,3,4,10,11]),(2,[0,1,2,3,4,10,11,12]),(3,[0,1,2,3,4,10,11,12,25]),(4,[]),(5,[0,1,2,3,4,10,11,12,32]),(6,[]),(7,[0,1,2,3,4,10,11,12,39]),(8,[0,1,2,3,4,10,11,12]),(9,[0,1,2,3,4,10,11,12]),(10,[0,1,2,3,4,10,11,12,13,14]),(11,[0,1,2,3,4,10,11,12,13,14,56]),(12,[0,1,2,3,4,10,11,12,13]),(13,[0,1,2,3,4,10,11,12,13]),(14,[0,1,2,3,4,10,11,12,13,14]),(15,[0,1,2,3,4,10,11,12,13,75]),(16,[0,1,2,3,4,10,11,12,13,80]),(17,[0,1,2,3,4,10,11,12,13,97]),(18,[0,2,3,4,10,11,15]),(19,[0,1,2,3,4,10,11]),(20,[0,1,2,3,4,12,16,17]),(21,[0,1,2,3,4,11,12,16]),(22,[0,1,2,3,4,11,12,16,18,19]),(23,[0,1,2,3,4,11,16,18,19,20]),(24,[0,1,2,3,4,11,16,18,19,20,125]),(25,[0,1,2,3,4,10,11,16]),(26,[0,2,3,4,10,11,16]),(27,[0,1,2,3,4,10,11]),(28,[0,1,2,3,4,10,11,16]),(29,[0,1,3,4,10,11,16]),(30,[0,1,2,3,4,10,11])]),
 (96,[(0,[0]),(1,[2])]),
 (97,[(0,[0,1,2,3,8]),(1,[0,1,2,3,8,14]),(2,[0,1,2,3,8]),(3,[0,1,2,3,8,9]),(4,[0,1,2,3,8,9,34]),(5,[0,1,2,3,8,9]),(6,[0,1,2,3,8,9])]),
 (98,[(0,[0,1,2,3,8]),(1,[0,1,2,3,8,9]),(2,[0,3,8,9,10]),(3,[0,3,8,9,10,11]),(4,[0,3,8,9,10,11,21]),(5,[0,3,8,9,10,11]),(6,[0,3,8,9,10,11]),(7,[0,3,8,9,12]),(8,[0,3,8,9,12,33]),(9,[0,3,8,9,12]),(10,[0,3,8,9,12]),(11,[0,3,8,9,12])]),
 (99,[(0,[0,1,8]),(1,[0,1,8,17]),(2,[0,1,8,9]),(3,[0,1,8,9,10]),(4,[0,1,8,9,10,11]),(5,[0,1,8,9,10,11,35]),(6,[0,1,8,9,10,11]),(7,[0,1,8,9,10,11,12]),(8,[0,1,8,9,10,11,12,45]),(9,[0,1,8,9,10,11,12]),(10,[0,1,8,9,10,11])]),
 (100,[(0,[0,1,2,3]),(1,[0,1,3,10]),(2,[0,1,3,10,11]),(3,[0,1,3,10,11,12]),(4,[0,1,3,10,11,12,13]),(5,[0,3,10,11,12,13,14]),(6,[0,3,10,11,12,13,14,34]),(7,[0,3,11,12,13,14,36]),(8,[0,3,11,12,13,14]),(9,[0,3,11,12,13,14]),(10,[0,3,11,12,13,14]),(11,[11,13]),(12,[13,55]),(13,[8,9]),(14,[13,55,57]),(15,[8,9]),(16,[13,60]),(17,[8,9])]),
 (101,[(0,[0,2,8]),(1,[0,8,9]),(2,[0,8,9,15]),(3,[0,8,9]),(4,[0,8,9]),(5,[0,8,9])]),
 (102,[(0,[0,1,2,3]),(1,[0,1,2,3,9]),(2,[0,1,2,3,9,10]),(3,[0,1,2,3,9,10,16]),(4,[0,1,2,3,9,10]),(5,[0,1,2,3,9,10,36]),(6,[0,1,2,3,9,10]),(7,[0,1,2,3,9,10,41]),(8,[8]),(9,[0,1,2,3,9,10,45]),(10,[8]),(11,[0,1,2,3,9,10]),(12,[0,1,2,3,9,10,65]),(13,[0,1,2,3,9,10,11]),(14,[0,1,2,3,9,10,11,69]),(15,[0,1,2,3,9,10,11]),(16,[0,1,2,3,9,10,11,84]),(17,[0,1,2,3,9,10,11]),(18,[0,1,2,3,9,10,104]),(19,[0,1,2,3,9,10,12]),(20,[0,1,2,3,9,10,12,109]),(21,[0,1,2,3,9,10,12]),(22,[0,1,2,3,9,10,12,124]),(23,[0,1,2,3,9,10,12]),(24,[8])]),
 (103,[(0,[0,1,2,3,4]),(1,[0,1,2,4]),(2,[0,1,4,11,12]),(3,[0,1,4,11,12,47]),(4,[0,1,4,11,12]),(5,[0,1,4,11,12,65]),(6,[0,1,4,11,12]),(7,[0,1,4,11,12,70]),(8,[0,1,4,11,12]),(9,[0,1,4,11,12]),(10,[0,1,4,11,12]),(11,[10])]),
 (104,[(0,[0,1,2,3,4]),(1,[0,1,2,4]),(2,[0,1,4,12,13]),(3,[0,1,4,12,13,47]),(4,[0,1,4,12,13]),(5,[0,1,4,12,13,66]),(6,[0,1,4,12,13]),(7,[0,1,4,12,13,71]),(8,[13]),(9,[10,11]),(10,[0,1,4,12,13]),(11,[0,1,4,12,13]),(12,[0,1,4,12,13]),(13,[0,1,4,12,13,120]),(14,[0,1,4,12,13]),(15,[0,1,4,12,13,139]),(16,[0,1,4,12,13]),(17,[0,1,4,12,13,144]),(18,[0,1,4,12,13]),(19,[0,1,4,12,13]),(20,[0,1,4,12,13]),(21,[13]),(22,[10,11])]),
 (106,[(0,[0,2]),(1,[0,2,4]),(2,[0]),(3,[0,2]),(4,[0,2,8]),(5,[0,2]),(6,[0,2]),(7,[0,2,14]),(8,[0,2]),(9,[0,2]),(10,[2])]),
 (111,[(0,[1,2,3]),(1,[1,2,3,16]),(2,[6]),(3,[1,2,3]),(4,[1,2,23,24,25]),(5,[1,2,23,24,25,26]),(6,[1,2,8,23,24,25]),(7,[1,2,23,24,25,34]),(8,[6]),(9,[1,2,23,24,25]),(10,[6])]),
 (116,[(0,[1]),(1,[2])]),
 (123,[(0,[0,2]),(1,[0,2,5]),(2,[2]),(3,[2,3]),(4,[2])]),
 (124,[(0,[0,2]),(1,[0,2,5]),(2,[2]),(3,[2,3]),(4,[2])]),
 (125,[(0,[0,2]),(1,[0,2,5]),(2,[2]),(3,[2,3]),(4,[2])]),
 (126,[(0,[0]),(1,[0])]),
 (127,[(0,[0,1,2,3,8]),(1,[0,1,2,3,8,14]),(2,[0,1,2,3,8]),(3,[0,1,2,3,8,9]),(4,[0,1,2,3,8,9,34]),(5,[0,1,2,3,8,9]),(6,[0,1,2,3,8,9])]),
 (128,[(0,[0,1,2,3,8]),(1,[0,1,2,3,8,9]),(2,[0,3,8,9,10]),(3,[0,3,8,9,10,11]),(4,[0,3,8,9,10,11,21]),(5,[0,3,8,9,10,11]),(6,[0,3,8,9,10,11]),(7,[0,3,8,9,12]),(8,[0,3,8,9,12,33]),(9,[0,3,8,9,12]),(10,[0,3,8,9,12]),(11,[0,3,8,9,12])]),
 (129,[(0,[0,1,8]),(1,[0,1,8,17]),(2,[0,1,8,9]),(3,[0,1,8,9,10]),(4,[0,1,8,9,10,11]),(5,[0,1,8,9,10,11,35]),(6,[0,1,8,9,10,11]),(7,[0,1,8,9,10,11,12]),(8,[0,1,8,9,10,11,12,45]),(9,[0,1,8,9,10,11,12]),(10,[0,1,8,9,10,11])]),
 (130,[(0,[0,1,2,3]),(1,[0,1,3,10]),(2,[0,1,3,10,11]),(3,[0,1,3,10,11,12]),(4,[0,1,3,10,11,12,13]),(5,[0,3,10,11,12,13,14]),(6,[0,3,10,11,12,13,14,34]),(7,[0,3,11,12,13,14,36]),(8,[0,3,11,12,13,14]),(9,[0,3,11,12,13,14]),(10,[0,3,11,12,13,14]),(11,[11,13]),(12,[13,55]),(13,[8,9]),(14,[13,55,57]),(15,[8,9]),(16,[13,60]),(17,[8,9])]),
 (131,[(0,[0,2,8]),(1,[0,8,9]),(2,[0,8,9,15]),(3,[0,8,9]),(4,[0,8,9]),(5,[0,8,9])]),
 (132,[(0,[0,1,2,3]),(1,[0,1,2,3,9]),(2,[0,1,2,3,9,10]),(3,[0,1,2,3,9,10,16]),(4,[0,1,2,3,9,10]),(5,[0,1,2,3,9,10,36]),(6,[0,1,2,3,9,10]),(7,[0,1,2,3,9,10,41]),(8,[8]),(9,[0,1,2,3,9,10,45]),(10,[8]),(11,[0,1,2,3,9,10]),(12,[0,1,2,3,9,10,65]),(13,[0,1,2,3,9,10,11]),(14,[0,1,2,3,9,10,11,69]),(15,[0,1,2,3,9,10,11]),(16,[0,1,2,3,9,10,11,84]),(17,[0,1,2,3,9,10,11]),(18,[0,1,2,3,9,10,104]),(19,[0,1,2,3,9,10,12]),(20,[0,1,2,3,9,10,12,109]),(21,[0,1,2,3,9,10,12]),(22,[0,1,2,3,9,10,12,124]),(23,[0,1,2,3,9,10,12]),(24,[8])]),
 (133,[(0,[0,1,2,3,4]),(1,[0,1,2,4]),(2,[0,1,4,11,12]),(3,[0,1,4,11,12,47]),(4,[0,1,4,11,12]),(5,[0,1,4,11,12,65]),(6,[0,1,4,11,12]),(7,[0,1,4,11,12,70]),(8,[0,1,4,11,12]),(9,[0,1,4,11,12]),(10,[0,1,4,11,12]),(11,[10])]),
 (134,[(0,[0,1,2,3,4]),(1,[0,1,2,4]),(2,[0,1,4,12,13]),(3,[0,1,4,12,13,47]),(4,[0,1,4,12,13]),(5,[0,1,4,12,13,66]),(6,[0,1,4,12,13]),(7,[0,1,4,12,13,71]),(8,[13]),(9,[10,11]),(10,[0,1,4,12,13]),(11,[0,1,4,12,13]),(12,[0,1,4,12,13]),(13,[0,1,4,12,13,120]),(14,[0,1,4,12,13]),(15,[0,1,4,12,13,139]),(16,[0,1,4,12,13]),(17,[0,1,4,12,13,144]),(18,[0,1,4,12,13]),(19,[0,1,4,12,13]),(20,[0,1,4,12,13]),(21,[13]),(22,[10,11])]),
 (135,[(0,[0,2,3,4,10]),(1,[0,2,3,4,10,11]),(2,[0,2,3,4,10,11,18]),(3,[0,2,3,4,10,11,40]),(4,[0,2,3,4,10,11]),(5,[0,2,3,4,10,11,58]),(6,[0,2,3,4,11]),(7,[0,2,3,4,10])]),
 (136,[(0,[0]),(1,[2])]),
 (137,[(0,[0]),(1,[0]),(2,[0]),(3,[0]),(4,[2])]),
 (138,[(0,[0,1,2,3]),(1,[8])]),
 (139,[(0,[0,1,2,3,4,5]),(1,[0,1,2,3,4,5]),(2,[0,1,2,4,5]),(3,[2]),(4,[12])]),
 (145,[(0,[1]),(1,[2])]),
 (146,[(0,[0]),(1,[0])]),
 (147,[(0,[0,1]),(1,[0,1,5]),(2,[0,5,8,9,10]),(3,[0,5,8,9,10,11]),(4,[0,5,7,8,9,10]),(5,[0,5,7,8,9,10,17]),(6,[0,5,8,9,10]),(7,[0,5,8,9,10]),(8,[0,5,8,9,10]),(9,[4])]),
 (148,[(0,[0,1,5,6]),(1,[0,1,5,6,8]),(2,[0,1,5,6,8,9]),(3,[6]),(4,[0,1,6,12]),(5,[6]),(6,[6])]),
 (149,[(0,[0]),(1,[0]),(2,[2])]),
 (150,[(0,[0]),(1,[0])]),
 (151,[(0,[1]),(1,[2])]),
 (152,[(0,[0,2,3,4,10]),(1,[0,2,3,4,10,11]),(2,[0,2,3,4,10,11,18]),(3,[0,2,3,4,10,11,40]),(4,[0,2,3,4,10,11]),(5,[0,2,3,4,10,11,58]),(6,[0,2,3,4,11]),(7,[0,2,3,4,10])]),
 (153,[(0,[0,1,2,3]),(1,[8])]),
 (154,[(0,[0,1,2,3,4,5]),(1,[0,1,2,3,4,5]),(2,[0,1,2,4,5]),(3,[2]),(4,[12])]),
 (155,[(0,[0,1,2,3,4]),(1,[1,2,3,22]),(2,[1,2]),(3,[10,11]),(4,[10,11])]),
 (159,[(0,[2,3]),(1,[4])]),
 (160,[(0,[0,1,2,3,4]),(1,[1,2,3,22]),(2,[1,2]),(3,[10,11]),(4,[10,11])])]
def afQ:List (Nat × List (Nat × List Nat)):=[(3,[(17,[1,2])]),
 (6,[(5,[]),(9,[]),(13,[])]),
 (7,[]),
 (8,[]),
 (9,[(18,[1,2,4]),(29,[1,4,7,8,9]),(34,[1,4,7,8,9,32,33]),(45,[1,4,7,8,9,10,32,33,42,43,44]),(52,[1,4,7,8,9,10,13,32,33,42,43,44]),(55,[1,4,7,8,9,10,12,32,33,42,43,44]),(78,[1,4,7,8,9])]),
 (10,[(19,[1,2,4]),(30,[1,4,7,8,9]),(37,[1,4,7,8,9]),(46,[1,4,7,8,9,10]),(57,[1,4,7,8,9,10,54,55,56]),(63,[1,4,7,8,9,10,12,13,54,55,56,61,62]),(71,[1,4,7,8,9,10,12,13,54,55,56,61,62]),(75,[1,4,7,8,9,10,13,54,55,56]),(78,[1,4,7,8,9,10,12,54,55,56])]),
 (11,[(40,[2,3]),(45,[2,3,43,44]),(57,[2,3,43,44])]),
 (15,[(5,[1,2])]),
 (16,[(19,[1,2,4]),(28,[1,2,4,7]),(48,[4,7,8,10]),(57,[4,7,10,54,55,56]),(65,[4,7,10,11,54,55,56,62,63,64])]),
 (18,[(17,[1,2]),(25,[1,2,5,6,23,24])]),
 (19,[]),
 (20,[]),
 (21,[(26,[1,2,5,6,20,26]),(32,[1,2,5,6,32]),(39,[1,2,5,6]),(63,[1,2,5,7])]),
 (22,[(20,[1,2,6,7,8])]),
 (23,[]),
 (24,[(10,[2]),(13,[])]),
 (25,[]),
 (26,[(13,[]),(18,[]),(21,[]),(27,[1,5,24,25,26]),(37,[]),(48,[]),(54,[1,2,8,51,52,53]),(71,[1,2,8,51,52,53])]),
 (27,[(9,[0,1,7,8]),(16,[0,1,7,8])]),
 (28,[]),
 (29,[(9,[2,3]),(19,[2,3])]),
 (30,[(7,[1,6,7]),(10,[]),(15,[1,6,15]),(22,[19,20,21]),(27,[19,20,21]),(29,[])]),
 (31,[]),
 (32,[]),
 (33,[(10,[2]),(17,[])]),
 (34,[(22,[1,2,3,19,20,21]),(45,[2,9,10]),(51,[2,3,9]),(61,[2,9,10]),(66,[2,3,9]),(76,[2,3,9]),(88,[2,9,10]),(97,[2,6,9,10,94,95,96]),(102,[2,6,9,10,13,94,95,96]),(106,[2,6,9,10,94,95,96]),(114,[2,9,10]),(122,[2,8,9,10,119,120,121]),(126,[2,8,9,10,15,119,120,121]),(130,[2,8,9,10,119,120,121]),(137,[2,9,10]),(146,[2,6,9,10,143,144,145]),(151,[2,6,9,10,17,143,144,145]),(155,[2,6,9,10,143,144,145]),(165,[2,9]),(168,[2,9])]),
 (35,[(12,[1,3,4,9,10,11]),(28,[3,4,27,28]),(31,[]),(34,[3,4,27,34]),(38,[])]),
 (36,[]),
 (37,[(19,[5]),(24,[5]),(27,[5]),(33,[1,5,30,31,32]),(41,[1,5,30,31,32,38,39,40]),(49,[5]),(59,[2,5,56,57,58]),(70,[5]),(79,[1,2,5,12]),(92,[1,2,5,12,89,90,91]),(107,[5]),(113,[5,110,111,112])]),
 (38,[(7,[2,3]),(19,[2,3]),(42,[2,3,5]),(57,[2,3,5]),(65,[2,3])]),
 (39,[(10,[3,7,8,9]),(25,[3,5,6,7,8,9]),(38,[3,7,8,9])]),
 (44,[]),
 (45,[(16,[0,1]),(20,[0,1,18,19]),(34,[0,1,18,19])]),
 (50,[(9,[1,2]),(23,[1,2,3,20,21,22])]),
 (51,[(8,[1]),(16,[3,13,14,15])]),
 (52,[(16,[4]),(19,[4]),(39,[4]),(45,[0,4,5,42,43,44]),(70,[4]),(77,[0,4,9,74,75,76]),(90,[0,4,9,12,74,75,76]),(99,[0,4,9,12,74,75,76]),(116,[4])]),
 (53,[(5,[0,3])]),
 (54,[(22,[1]),(32,[1]),(37,[1,34,35,36]),(65,[1,3,4,34,35,36]),(88,[1,34,35,36])]),
 (55,[(13,[1,3,11,12]),(26,[3,23,24,25])]),
 (56,[(10,[0,1]),(19,[0,5,16,17,18])]),
 (57,[(10,[1,2]),(13,[1,2]),(17,[])]),
 (58,[]),
 (59,[]),
 (60,[(10,[0,1]),(15,[0,1,5]),(28,[0,1,5]),(35,[0,1,5,6,7]),(49,[0,1,5,6,7])]),
 (61,[]),
 (62,[(12,[0,1,5]),(19,[0,1,5,6]),(29,[0,1,5,6])]),
 (63,[]),
 (64,[(14,[1,5,11,12,13])]),
 (65,[(11,[0,1,6]),(12,[]),(13,[0,1]),(16,[0,1]),(19,[])]),
 (66,[(14,[0,1,2,11,12,13]),(21,[0,1,2,7,8,11,12,13]),(31,[0,1,2,11,12,13]),(38,[])]),
 (67,[]),
 (68,[(25,[0,1,2,3,4,10,11,12]),(32,[0,1,2,3,4,10,11,12]),(39,[0,1,2,3,4,10,11,12]),(56,[0,1,2,3,4,10,11,12,13,14]),(75,[0,1,2,3,4,10,11,12,13]),(80,[0,1,2,3,4,10,11,12,13]),(97,[0,1,2,3,4,12,13]),(125,[0,1,2,3,4,10,11])]),
 (69,[]),
 (70,[(9,[3,6,7,8]),(14,[3,6,7,8])]),
 (71,[(10,[1,2]),(15,[1,12,13,14]),(20,[1,12,13,14])]),
 (72,[]),
 (73,[(11,[0,5,8,9,10]),(17,[0,5,8,9,10])]),
 (74,[(19,[0,3,5]),(33,[0,3,5])]),
 (75,[(19,[0,3,5]),(38,[0,3,5])]),
 (76,[(3,[])]),
 (77,[(9,[2,3]),(19,[2,3])]),
 (79,[]),
 (88,[(7,[0,1,4]),(11,[0,1,4]),(15,[0,1,4]),(21,[0,1,4]),(27,[4]),(37,[4,5]),(45,[4]),(47,[4,5]),(57,[4,5])]),
 (89,[(12,[0,2,9,10,11])]),
 (90,[(4,[0])]),
 (91,[]),
 (92,[(7,[0]),(11,[0,8,9,10]),(19,[0,8,9,10])]),
 (93,[]),
 (94,[(9,[1,2]),(27,[1,2]),(30,[1,2,29,30]),(37,[1,2,29,37]),(44,[1,2]),(45,[1,2,45]),(51,[1,2]),(56,[1,53,54,55]),(62,[1,53,54,55])]),
 (95,[(25,[0,1,2,3,4,10,11,12]),(32,[0,1,2,3,4,10,11,12]),(39,[0,1,2,3,4,10,11,12]),(56,[0,1,2,3,4,10,11,12,13,14]),(75,[0,1,2,3,4,10,11,12,13]),(80,[0,1,2,3,4,10,11,12,13]),(97,[0,1,2,3,4,12,13]),(125,[0,1,2,3,4,10,11])]),
 (96,[]),
 (97,[(14,[0,1,2,3,8]),(34,[0,1,2,3,8,9])]),
 (98,[(21,[0,3,8,9,10,11]),(33,[0,3,8,9,12])]),
 (99,[(17,[]),(35,[0,1,8,9,10,11]),(45,[0,1,8,9,10,11,12])]),
 (100,[(34,[11,13]),(36,[0,3,11,12,13,14]),(57,[8,9]),(60,[8,9])]),
 (101,[(15,[0,8,9])]),
 (102,[(16,[0,1,2,3,9,10]),(36,[0,1,2,3,9,10]),(41,[0,1,2,3,9,10]),(45,[0,1,2,3,9,10]),(65,[0,1,2,3,9,10]),(69,[0,1,2,3,9,10,11]),(84,[0,1,2,3,9,10,11]),(104,[0,1,2,3,9,10]),(109,[0,1,2,3,9,10,12]),(124,[0,1,2,3,9,10,12])]),
 (103,[(47,[0,1,4,11,12]),(65,[0,1,4,11,12]),(70,[0,1,4,11,12])]),
 (104,[(47,[0,1,4,12,13]),(66,[0,1,4,12,13]),(71,[0,1,4,12,13]),(120,[0,1,4,12,13]),(139,[0,1,4,12,13]),(144,[0,1,4,12,13])]),
 (106,[(4,[0,2]),(8,[0,2]),(14,[0,2])]),
 (111,[(16,[1,2,3]),(26,[1,2,23,24,25]),(34,[1,2,23,24,25])]),
 (116,[]),
 (123,[(5,[0,2])]),
 (124,[(5,[0,2])]),
 (125,[(5,[0,2])]),
 (126,[]),
 (127,[(14,[0,1,2,3,8]),(34,[0,1,2,3,8,9])]),
 (128,[(21,[0,3,8,9,10,11]),(33,[0,3,8,9,12])]),
 (129,[(17,[]),(35,[0,1,8,9,10,11]),(45,[0,1,8,9,10,11,12])]),
 (130,[(34,[11,13]),(36,[0,3,11,12,13,14]),(57,[8,9]),(60,[8,9])]),
 (131,[(15,[0,8,9])]),
 (132,[(16,[0,1,2,3,9,10]),(36,[0,1,2,3,9,10]),(41,[0,1,2,3,9,10]),(45,[0,1,2,3,9,10]),(65,[0,1,2,3,9,10]),(69,[0,1,2,3,9,10,11]),(84,[0,1,2,3,9,10,11]),(104,[0,1,2,3,9,10]),(109,[0,1,2,3,9,10,12]),(124,[0,1,2,3,9,10,12])]),
 (133,[(47,[0,1,4,11,12]),(65,[0,1,4,11,12]),(70,[0,1,4,11,12])]),
 (134,[(47,[0,1,4,12,13]),(66,[0,1,4,12,13]),(71,[0,1,4,12,13]),(120,[0,1,4,12,13]),(139,[0,1,4,12,13]),(144,[0,1,4,12,13])]),
 (135,[(18,[0,2,3,4,10,11]),(40,[0,2,3,4,10,11]),(58,[0,2,3,4,10,11])]),
 (136,[]),
 (137,[]),
 (138,[]),
 (139,[]),
 (145,[]),
 (146,[]),
 (147,[(11,[0,5,8,9,10]),(17,[0,5,8,9,10])]),
 (148,[(9,[0,1,6]),(12,[0,1,6])]),
 (149,[]),
 (150,[]),
 (151,[]),
 (152,[(18,[0,2,3,4,10,11]),(40,[0,2,3,4,10,11]),(58,[0,2,3,4,10,11])]),
 (153,[]),
 (154,[]),
 (155,[(22,[1,2])]),
 (159,[]),
 (160,[(22,[1,2])])]
def afR:List (Nat × List (Nat × List Nat)):=[(3,[]),
 (6,[(0,[])]),
 (7,[]),
 (8,[]),
 (9,[(0,[4,7,8]),(1,[1,4,7,8,9]),(2,[1,4,7,8,9]),(3,[1,4,7,8,9,32,33]),(4,[1,4,7,8,9,32,33]),(5,[1,4,7,8,9,10,32,33,42,43,44])]),
 (10,[(0,[4,7,8]),(1,[1,4,7,8,9]),(2,[1,4,7,8,9]),(3,[1,4,7,8,9,10]),(4,[1,4,7,8,9,10]),(5,[1,4,7,8,9,10,54,55,56]),(6,[1,4,7,8,9,10,12,13,54,55,56]),(7,[1,4,7,8,9,10,12,13,54,55,56,61,62])]),
 (11,[(0,[]),(1,[2,3,43,44])]),
 (15,[]),
 (16,[(0,[4,10]),(1,[4,7,10,54,55,56]),(2,[4,7,10,54,55,56]),(3,[4,7,10,11,54,55,56,62,63,64])]),
 (18,[(0,[2,6]),(1,[1,2,5,6,23,24])]),
 (19,[]),
 (20,[]),
 (21,[(0,[1,2,5,6]),(1,[6]),(2,[1,2,5,6,7])]),
 (22,[(0,[6,7]),(1,[1,2,6,7,8])]),
 (23,[]),
 (24,[]),
 (25,[]),
 (26,[(0,[]),(1,[5]),(2,[1,5,24,25,26]),(3,[8]),(4,[1,2,8,51,52,53])]),
 (27,[(0,[]),(1,[0,1,7,8])]),
 (28,[]),
 (29,[]),
 (30,[(0,[]),(1,[]),(2,[19,20,21])]),
 (31,[]),
 (32,[]),
 (33,[]),
 (34,[(0,[1,2,3]),(1,[1,2,3,19,20,21]),(2,[2,9,10]),(3,[2,3,9]),(4,[2,9,10]),(5,[2,6,9,10,94,95,96]),(6,[2,9,10]),(7,[2,8,9,10,119,120,121]),(8,[2,9,10]),(9,[2,6,9,10,143,144,145]),(10,[2,9])]),
 (35,[(0,[1,3,4]),(1,[1,3,4,9,10,11]),(2,[])]),
 (36,[]),
 (37,[(0,[5]),(1,[5]),(2,[1,5,30,31,32]),(3,[1,5,30,31,32]),(4,[1,5,30,31,32,38,39,40]),(5,[5]),(6,[2,5,56,57,58]),(7,[1,2,5,12]),(8,[1,2,5,12,89,90,91]),(9,[5]),(10,[5,110,111,112])]),
 (38,[(0,[2,3]),(1,[2,3]),(2,[2,3,5])]),
 (39,[(0,[3]),(1,[3,7,8,9]),(2,[3,5,6,7,8,9]),(3,[3,5,6,7,8,9])]),
 (44,[]),
 (45,[(0,[]),(1,[0,1,18,19])]),
 (50,[(0,[1,2,3]),(1,[1,2,3,20,21,22])]),
 (51,[(0,[3]),(1,[3,13,14,15])]),
 (52,[(0,[4]),(1,[4,5]),(2,[0,4,5,42,43,44]),(3,[4,9]),(4,[0,4,9,74,75,76])]),
 (53,[(0,[3]),(1,[0,3])]),
 (54,[(0,[]),(1,[1,34,35,36])]),
 (55,[(0,[1,3]),(1,[1,3,11,12]),(2,[3]),(3,[3,23,24,25])]),
 (56,[(0,[5]),(1,[0,5,16,17,18])]),
 (57,[]),
 (58,[]),
 (59,[]),
 (60,[(0,[0]),(1,[0,1,5]),(2,[0,5]),(3,[0,1,5,6,7])]),
 (61,[]),
 (62,[(0,[0,5]),(1,[0,1,5,6])]),
 (63,[]),
 (64,[(0,[5]),(1,[1,5,11,12,13])]),
 (65,[]),
 (66,[(0,[0,1]),(1,[0,1,2,11,12,13])]),
 (67,[]),
 (68,[(0,[]),(1,[0,1,2,3,4,10,11])]),
 (69,[]),
 (70,[(0,[3]),(1,[3,6,7,8])]),
 (71,[(0,[]),(1,[1,12,13,14])]),
 (72,[]),
 (73,[(0,[5]),(1,[0,5,8,9,10])]),
 (74,[(0,[0,3,5]),(1,[0,3,5])]),
 (75,[(0,[0,3,5]),(1,[0,3,5])]),
 (76,[]),
 (77,[]),
 (79,[]),
 (88,[(0,[0,1,4]),(1,[4]),(2,[4,5])]),
 (89,[(0,[]),(1,[0,2,9,10,11])]),
 (90,[]),
 (91,[]),
 (92,[(0,[]),(1,[0,8,9,10])]),
 (93,[]),
 (94,[(0,[1,2]),(1,[]),(2,[1,53,54,55])]),
 (95,[(0,[]),(1,[0,1,2,3,4,10,11])]),
 (96,[]),
 (97,[(0,[]),(1,[0,1,2,3,8]),(2,[0,1,2,3,8]),(3,[0,1,2,3,8,9])]),
 (98,[(0,[0,3,8,9,10]),(1,[0,3,8,9,10,11]),(2,[]),(3,[0,3,8,9,12])]),
 (99,[(0,[]),(1,[0,1,8,9,10,11])]),
 (100,[(0,[8,9])]),
 (101,[(0,[]),(1,[0,8,9])]),
 (102,[(0,[]),(1,[0,1,2,3,9,10]),(2,[0,1,2,3,9,10]),(3,[0,1,2,3,9,10]),(4,[0,1,2,3,9,10]),(5,[0,1,2,3,9,10,11]),(6,[0,1,2,3,9,10]),(7,[0,1,2,3,9,10,12])]),
 (103,[(0,[11]),(1,[0,1,4,11,12]),(2,[0,1,4,11,12]),(3,[0,1,4,11,12]),(4,[0,1,4,11,12]),(5,[0,1,4,11,12])]),
 (104,[(0,[0,1,4,12,13]),(1,[0,1,4,12,13]),(2,[0,1,4,12,13]),(3,[0,1,4,12,13]),(4,[0,1,13]),(5,[0,1,4,12,13]),(6,[0,1,4,12,13]),(7,[0,1,4,12,13]),(8,[0,1,4,12,13]),(9,[0,1,4,12,13])]),
 (106,[]),
 (111,[(0,[]),(1,[1,2,23,24,25])]),
 (116,[]),
 (123,[]),
 (124,[]),
 (125,[]),
 (126,[]),
 (127,[(0,[]),(1,[0,1,2,3,8]),(2,[0,1,2,3,8]),(3,[0,1,2,3,8,9])]),
 (128,[(0,[0,3,8,9,10]),(1,[0,3,8,9,10,11]),(2,[]),(3,[0,3,8,9,12])]),
 (129,[(0,[]),(1,[0,1,8,9,10,11])]),
 (130,[(0,[8,9])]),
 (131,[(0,[]),(1,[0,8,9])]),
 (132,[(0,[]),(1,[0,1,2,3,9,10]),(2,[0,1,2,3,9,10]),(3,[0,1,2,3,9,10]),(4,[0,1,2,3,9,10]),(5,[0,1,2,3,9,10,11]),(6,[0,1,2,3,9,10]),(7,[0,1,2,3,9,10,12])]),
 (133,[(0,[11]),(1,[0,1,4,11,12]),(2,[0,1,4,11,12]),(3,[0,1,4,11,12]),(4,[0,1,4,11,12]),(5,[0,1,4,11,12])]),
 (134,[(0,[0,1,4,12,13]),(1,[0,1,4,12,13]),(2,[0,1,4,12,13]),(3,[0,1,4,12,13]),(4,[0,1,13]),(5,[0,1,4,12,13]),(6,[0,1,4,12,13]),(7,[0,1,4,12,13]),(8,[0,1,4,12,13]),(9,[0,1,4,12,13])]),
 (135,[(0,[]),(1,[0,2,3,4,10])]),
 (136,[]),
 (137,[]),
 (138,[]),
 (139,[]),
 (145,[]),
 (146,[]),
 (147,[(0,[5]),(1,[0,5,8,9,10])]),
 (148,[(0,[0,1,6])]),
 (149,[]),
 (150,[]),
 (151,[]),
 (152,[(0,[]),(1,[0,2,3,4,10])]),
 (153,[]),
 (154,[]),
 (155,[]),
 (159,[]),
 (160,[])]
def afS:List (Nat × List (Nat × List Nat)):=[(34,[(37,[9]),(47,[9]),(55,[9])]),
 (37,[(1,[5]),(2,[5]),(3,[5]),(4,[5]),(5,[5]),(6,[5]),(7,[5]),(8,[5]),(9,[5]),(10,[5]),(11,[5]),(12,[5]),(13,[5]),(14,[5]),(15,[5]),(16,[5]),(17,[5]),(18,[5]),(19,[5]),(20,[5]),(21,[5]),(22,[5]),(23,[5]),(24,[5]),(25,[5]),(26,[5]),(27,[5]),(28,[5]),(29,[5]),(30,[5]),(31,[5]),(32,[5]),(33,[5]),(34,[5]),(35,[5]),(36,[5])])]
def afT:List (Nat × List Nat):=[(15,[0]),
 (34,[0]),
 (50,[0]),
 (55,[0]),
 (74,[0]),
 (75,[0]),
 (88,[0]),
 (123,[0]),
 (124,[0]),
 (125,[0])]
def afU:List (Nat × List (Nat × List (Nat × Nat))):=[(3,[(1,[(2,6),(6,7)]),(2,[(0,8)]),(3,[(2,9)]),(4,[(2,10)]),(5,[(6,11),(9,8)])]),
 (6,[(1,[(1,19)]),(3,[(1,20)]),(5,[(2,21)])]),
 (7,[(1,[(1,22)])]),
 (8,[(1,[(0,23),(1,16)]),(2,[(15,18),(19,18)])]),
 (9,[(1,[(2,24)]),(4,[(1,15)]),(12,[(5,26),(6,25)]),(15,[(2,208)]),(24,[(4,30)]),(27,[(2,31)])]),
 (10,[(1,[(2,33)]),(4,[(1,34)]),(9,[(4,35)]),(10,[(3,36)]),(14,[(5,37)]),(21,[(5,38)]),(31,[(4,39)])]),
 (15,[(1,[(1,44)]),(3,[(1,50)])]),
 (16,[(1,[(2,24)]),(4,[(2,51)]),(8,[(1,52)]),(16,[(1,53)]),(22,[(2,31)])]),
 (18,[(1,[(1,54),(7,45)]),(3,[(1,55)]),(7,[(8,56)])]),
 (20,[(1,[(1,22)])]),
 (21,[(18,[(6,21)])]),
 (22,[(5,[(6,22)])]),
 (24,[(1,[(2,57)]),(4,[(1,58)])]),
 (25,[(1,[(1,59)]),(2,[(1,60)]),(3,[(1,206)])]),
 (26,[(10,[(3,26)]),(14,[(5,26),(8,64)]),(20,[(3,26),(9,64)]),(21,[(1,30)])]),
 (27,[(4,[(5,58)])]),
 (28,[(1,[(2,29)])]),
 (29,[(2,[(4,65)]),(4,[(4,65)]),(5,[(4,66)])]),
 (30,[(6,[(2,192)]),(12,[(1,30)]),(17,[(9,30)])]),
 (31,[(1,[(4,69),(6,68)])]),
 (32,[(1,[(4,65),(9,65),(14,65),(16,70)])]),
 (33,[(1,[(2,6)]),(4,[(1,71),(4,71)])]),
 (34,[(5,[(2,34)]),(22,[(5,72)]),(28,[(3,73)]),(37,[(3,73)]),(40,[(1,72)]),(43,[(3,74)]),(47,[(3,73)]),(52,[(1,72)]),(53,[(3,74)])]),
 (35,[(5,[(1,35)])]),
 (37,[(10,[(2,37)]),(13,[(2,75)]),(17,[(5,37)]),(20,[(5,34),(6,75)]),(26,[(5,37)]),(29,[(5,34),(6,75)]),(31,[(4,35)]),(32,[(2,37)]),(35,[(2,75)])]),
 (38,[(2,[(5,76)]),(4,[(5,76)]),(8,[(10,38)]),(13,[(7,76)])]),
 (39,[(6,[(9,77)])]),
 (44,[(1,[(1,57)])]),
 (50,[(7,[(3,50)]),(9,[(3,88)])]),
 (51,[(7,[(2,51)])]),
 (52,[(12,[(2,52)]),(21,[(2,52)]),(22,[(5,89)]),(32,[(5,52)]),(33,[(5,89)])]),
 (53,[(4,[(2,90)])]),
 (54,[(3,[(7,91)]),(10,[(19,32)])]),
 (56,[(1,[(1,92)]),(4,[(3,93),(5,53)])]),
 (57,[(3,[(1,79)]),(5,[(2,94)])]),
 (58,[(1,[(11,67)])]),
 (59,[(1,[(4,69),(6,95)])]),
 (60,[(6,[(10,61)]),(11,[(10,61)])]),
 (61,[(1,[(2,29)])]),
 (62,[(1,[(2,190)]),(8,[(2,116)])]),
 (64,[(5,[(6,88)])]),
 (65,[(1,[(1,96)]),(2,[(1,96)])]),
 (66,[(7,[(3,29)])]),
 (67,[(1,[(2,27)])]),
 (68,[(4,[(4,97)]),(6,[(4,98)]),(8,[(4,99)]),(10,[(4,100)]),(12,[(4,101)]),(16,[(4,102)]),(17,[(13,32)]),(18,[(5,103)]),(20,[(5,104)]),(26,[(5,68)]),(29,[(6,68)])]),
 (69,[(2,[(1,106)])]),
 (71,[(6,[(2,71)])]),
 (74,[(2,[(9,38)]),(4,[(9,38)])]),
 (75,[(2,[(9,38)]),(4,[(13,38)])]),
 (79,[(2,[(1,111)])]),
 (88,[(3,[(1,123)]),(5,[(1,124)]),(7,[(1,125)]),(18,[(0,126)]),(19,[(5,116)])]),
 (89,[(0,[(1,53)])]),
 (92,[(6,[(3,93)])]),
 (94,[(22,[(2,94)])]),
 (95,[(4,[(4,127)]),(6,[(4,128)]),(8,[(4,129)]),(10,[(4,130)]),(12,[(4,131)]),(16,[(4,132)]),(17,[(13,29)]),(18,[(5,133)]),(20,[(5,134)]),(26,[(5,95)]),(29,[(6,95)])]),
 (97,[(4,[(14,32)])]),
 (98,[(6,[(5,135)]),(11,[(5,135)])]),
 (99,[(3,[(1,136)]),(7,[(0,137)])]),
 (100,[(8,[(3,138)]),(9,[(3,138)]),(10,[(3,138)]),(11,[(5,139)])]),
 (102,[(5,[(14,32)]),(16,[(10,32)]),(22,[(10,32)])]),
 (103,[(3,[(13,32)]),(5,[(13,32)])]),
 (104,[(3,[(13,32)]),(5,[(13,32)]),(13,[(13,32)]),(15,[(13,32)])]),
 (111,[(7,[(4,111)])]),
 (116,[(1,[(14,145)])]),
 (123,[(1,[(1,189)]),(2,[(0,146)]),(3,[(1,147),(2,196)]),(4,[(1,149),(2,150),(3,148)])]),
 (124,[(1,[(1,187)]),(2,[(0,150)]),(3,[(1,147),(2,194)]),(4,[(1,126),(2,148)])]),
 (125,[(1,[(1,187)]),(2,[(0,150)]),(3,[(1,147),(2,62)]),(4,[(1,149),(2,146),(3,148)])]),
 (127,[(4,[(14,29)])]),
 (128,[(6,[(5,152)]),(11,[(5,152)])]),
 (129,[(3,[(1,136)]),(7,[(0,137)])]),
 (130,[(8,[(3,153)]),(9,[(3,153)]),(10,[(3,153)]),(11,[(5,154)])]),
 (132,[(5,[(14,29)]),(16,[(10,29)]),(22,[(10,29)])]),
 (133,[(3,[(13,29)]),(5,[(13,29)])]),
 (134,[(3,[(13,29)]),(5,[(13,29)]),(13,[(13,29)]),(15,[(13,29)])]),
 (135,[(3,[(19,32)]),(5,[(13,32)])]),
 (136,[(1,[(2,69)])]),
 (138,[(1,[(8,139)])]),
 (139,[(1,[(5,155)]),(2,[(5,155)]),(3,[(5,155)])]),
 (146,[(1,[(0,150)])]),
 (149,[(1,[(1,59)]),(2,[(1,203)])]),
 (152,[(3,[(19,29)]),(5,[(13,29)])]),
 (153,[(1,[(8,154)])]),
 (154,[(1,[(5,160)]),(2,[(5,160)]),(3,[(5,160)])]),
 (155,[(1,[(9,32)])]),
 (159,[(1,[(2,29)])]),
 (160,[(1,[(9,29)])]),
 (187,[(1,[(2,188)])]),
 (188,[(4,[(5,145)])]),
 (189,[(1,[(2,190)])]),
 (190,[(4,[(5,116)])]),
 (192,[(1,[(2,193)])]),
 (193,[(4,[(5,30)])]),
 (194,[(1,[(2,195)]),(8,[(2,151)])]),
 (195,[(4,[(5,151)])]),
 (196,[(1,[(2,188)]),(8,[(2,145)])]),
 (203,[(6,[(10,159)]),(11,[(10,159)])]),
 (206,[(1,[(2,207)]),(8,[(2,63)])]),
 (207,[(4,[(5,63)])]),
 (208,[(4,[(5,28)])])]
def afV:List (Nat × List (Nat × (Shape × List (Out × Shape)))):=[(9,[(847,MZ),(209,M0),(161,M1),(113,M3)]),
 (10,[(607,M4),(305,M5),(1215,M6),(241,M7),(193,M8),(113,M9)]),
 (11,[(65,Na)]),
 (16,[(783,afu),(273,afv),(225,afw)]),
 (18,[(81,afx)]),
 (21,[(639,Nb),(257,Nc)]),
 (22,[(49,Nd)]),
 (26,[(129,Ng),(289,Nh)]),
 (27,[(33,Ni)]),
 (30,[(161,Nj)]),
 (34,[(49,Nk),(465,Nl),(609,Nn),(769,No)]),
 (35,[(49,Np)]),
 (37,[(177,Nq),(129,Nr),(289,Ns),(1279,Nt),(433,Nu),(529,Nv),(1135,Nw),(799,Nx),(447,Ny),(319,Nz)]),
 (38,[(97,NA)]),
 (39,[(97,NB),(49,NC)]),
 (45,[(65,afy)]),
 (50,[(81,ND)]),
 (51,[(81,afz)]),
 (52,[(161,afA),(1455,afB),(1599,afC),(305,afD)]),
 (53,[(33,afE)]),
 (54,[(97,afF)]),
 (55,[(49,afG),(129,afH)]),
 (56,[(81,afI)]),
 (60,[(145,NF),(65,NG)]),
 (62,[(81,NH)]),
 (64,[(49,NI)]),
 (66,[(33,NJ)]),
 (68,[(639,NK),(911,NL),(1215,NM),(33,NN)]),
 (70,[(49,NO)]),
 (71,[(65,NP)]),
 (73,[(49,NQ)]),
 (74,[(33,NR)]),
 (75,[(33,NS)]),
 (89,[(17,afJ)]),
 (92,[(65,afK)]),
 (94,[(321,NT)]),
 (95,[(639,NU),(911,NV),(1215,NW),(33,NX)]),
 (97,[(65,NY),(17,NZ)]),
 (98,[(65,N0),(129,N3)]),
 (99,[(735,N4),(81,N5)]),
 (100,[(591,N6),(559,N7)]),
 (101,[(33,N8)]),
 (102,[(81,N9),(225,Oa),(1055,Ob),(321,Oc),(49,Od)]),
 (103,[(49,Oe),(81,Of),(50,Og)]),
 (104,[(49,Oh),(81,Oi),(209,Oj),(241,Ol),(210,Om)]),
 (106,[(79,On),(143,Oo)]),
 (111,[(81,Oq)]),
 (127,[(65,Ot),(17,Ou)]),
 (128,[(65,Ov),(129,Ow)]),
 (129,[(735,Ox),(81,Oy)]),
 (130,[(591,Oz),(559,OA)]),
 (131,[(33,OB)]),
 (132,[(81,OC),(225,OD),(1055,OE),(321,OF),(49,OG)]),
 (133,[(49,OH),(81,OI),(50,OJ)]),
 (134,[(49,OK),(81,OL),(209,OM),(241,ON),(210,OO)]),
 (135,[(655,OP),(17,OQ)]),
 (147,[(49,OR)]),
 (152,[(655,OS),(17,OT)]),
 (188,[(33,OU)]),
 (190,[(33,OV)]),
 (193,[(33,OW)]),
 (194,[(81,OX)]),
 (195,[(33,OY)]),
 (196,[(81,OZ)]),
 (203,[(145,O0),(65,O1)]),
 (206,[(81,O2)]),
 (207,[(33,O3)]),
 (208,[(33,O4)])]
def afW:List (Nat × List (Nat × List Nat)):=[(55,[(1,[9])]),
 (60,[(15,[64])]),
 (62,[(12,[41])]),
 (194,[(12,[41])]),
 (196,[(12,[41])]),
 (203,[(15,[64])]),
 (206,[(12,[41])])]
def IE (k:Nat):FuncId:=(eo afL k).getD 0
def az:cW where
 aT:=IE
 sin:=fun k=>(eo afM k).getD ⟨[],[]⟩
 gj:=fun k=>(eo afN k).getD ⟨[],[]⟩
 live:=fun k r=>(eo ((eo afP (IE k)).getD []) r).getD []
 join:=fun k r=>(eo ((eo afQ (IE k)).getD []) r).getD []
 blk:=fun k r=>(eo ((eo afR (IE k)).getD []) r).getD []
 pur:=fun k r=>(eo ((eo afS k).getD []) r).getD []
 uM:=fun k=>(eo afT k).getD []
 alt:=fun k=>eo afO k
 Sj:=fun k r=>(eo ((eo afW k).getD []) r).getD []
 ck:=fun k r i=>(eo ((eo ((eo afU k).getD []) r).getD []) i).getD 0
 iD:=fun k x=>eo ((eo afV k).getD []) x
 xn:=[]
 FZ:=fun _=>0
 ext:=fun f=>bif Nat.beq f 142 then some 101 else none
 pj:=fun f=>none
 idle:=fun f=>Nat.beq f 107
 mv:=fun k=>(eo ([(52,[1]),(80,[1]),(81,[1]),(89,[1]),(112,[1]),(113,[1]),(114,[2]),(118,[3]),(120,[2]),(143,[1]),(201,[2]),(202,[2]),(205,[3])]:List (Nat × List Nat)) k).getD []
 aL:=fun g=>bif Nat.beq g 0 then .pref [5,5,5,5,5,5,5,5,5,5,5,5,5,5,5,5,5,5,5,5,5,5,5,5,5,5,5,5,5,5,5,5,5,5,5,5,5,5,5,5,5,5,5,5,5,5,5,5,5,5,5,5,5,5,5,5,5,5,5,5,5,5,5,5] Io else .undef
noncomputable abbrev PG:Program:=Tryz.prog
noncomputable abbrev CC:af:=Call Tryz.prog az
end Go.AM
set_option maxRecDepth 100000
namespace Go.AM
open Go.Proofs Go.RowKit
theorem afX (hP:BY PG) (f:FuncId) (e:TypeId) (h:az.pj f=some e):Up PG f e:=by
 have h1:az.pj f=none:=by kernel_rfl
 rw[h1] at h
 cases h
theorem afY (args:Array Value) (n:Nat):n≤(args++Array.replicate (n-args.size) undef).size:=by simp;omega
def opsOf:Code→Array Oper
 | .region _ ops _=>ops
 | _=> #[]
def WR:Code→Nat
 | .region id _ _=>id
 | _=>0
section
variable {P:Program} {ops:Array Oper} {Q:Exit→Act→List Frame→World→Prop} {a:Act} {cs:List Frame} {w:World} {i:Nat} {rest:List Nat} {o:Oper}
theorem afZ (ho:ops[i]? =some o) (hg:o.guard=none) (he:(execOp a.eval o).run P w= .ok .recover w) (hr:recoverD cs=none) (h:wpOpsS P ops Q rest (a.put o.dst .nilIface) cs w):wpOpsS P ops Q (i::rest) a cs w:=by
 simp only[wpOpsS,ho,Region.wanted,hg,cy,he,hr]
 exact h
theorem O5 {v:Value} (ho:ops[i]? =some o) (hg:o.guard=none) (he:(execOp a.eval o).run P w= .ok (.value v) w) (h:wpOpsS P ops Q rest (a.put o.dst v) cs w):wpOpsS P ops Q (i::rest) a cs w:=by
 simp only[wpOpsS,ho,Region.wanted,hg,cy,he,Oper.upon_value]
 exact h
end
theorem af0 (w:World):(binOp .neq 20 .nilIface .nilIface).run Tryz.prog w= .ok (.bool false) w:=by
 have hd:Tryz.prog.underlying 20=some (.interface #[]):=by kernel_rfl
 have h0: ∀k:Nat,(Op.equalIn (k+1) 20 .nilIface .nilIface).run Tryz.prog w= .ok true w:=fun k=>by simp[Op.equalIn,run_underlying hd]
 simp only[binOp]
 simp[Op.equal,Op.maxDepth,h0 9999]
theorem af1 (args:Array Value) (w:World):CallsD Tryz.prog 107 args .returning w fun e u' w'=>(∃v,e= .returned v)∧u'= .returning∧w'=w:=by
 refine callsD_of_wpS (c:=(bU Tryz.prog 107)) Tryz.func107 (by kernel_rfl) fun af2 cs hu=> ?_
 rw[show Tryz.f107.ntmps=20 by kernel_rfl]
 have bh:=afY args 20
 generalize args++Array.replicate (20-args.size) undef=tm at bh
 have hb:bU Tryz.prog 107= .seq (.region (WR (aq [0] (bU Tryz.prog 107))) (opsOf (aq [0] (bU Tryz.prog 107))) false) (.seq (.region (WR (aq [1,0] (bU Tryz.prog 107))) (opsOf (aq [1,0] (bU Tryz.prog 107))) false) (.cond (.tmp 8) (aq [1,1,0] (bU Tryz.prog 107)) .skip)):=by kernel_rfl
 have hr:recoverD (af2::cs)=none:=by simp[recoverD,hu]
 have o0:(opsOf (aq [0] (bU Tryz.prog 107))).map (fun o=>(o.dst,o.op,o.guard))= #[(some 6,.call ⟨.builtin .recover,#[],#[]⟩,none),(some 3,.assign (.tmp 6),none)]:=by kernel_rfl
 have o1:(opsOf (aq [1,0] (bU Tryz.prog 107))).map (fun o=>(o.dst,o.op,o.guard))= #[(some 7,.move (.tmp 3),none),(some 8,.binOp .neq 20 (.tmp 7) (.const .nilIface) 20,none)]:=by kernel_rfl
 rw[hb]
 generalize opsOf (aq [0] (bU Tryz.prog 107))=ao3 at o0⊢
 generalize opsOf (aq [1,0] (bU Tryz.prog 107))=ao4 at o1⊢
 generalize aq [1,1,0] (bU Tryz.prog 107)=c2
 have get: ∀(ops:Array Oper) (l:Array (Option Nat × Op × Option (Nat × Bool))),ops.map (fun o=>(o.dst,o.op,o.guard))=l→ops.size=l.size∧∀(i:Nat) d p g,l[i]? =some (d,p,g)→∃o,ops[i]? =some o∧o.dst=d∧o.op=p∧o.guard=g:=by
  intro ops l h
  subst h
  refine ⟨by simp,fun i d p g h=> ?_⟩
  rw[Array.getElem?_map] at h
  cases ho:ops[i]? with
  | none=>rw[ho] at h;cases h
  | some o=>rw[ho] at h;simp at h;exact ⟨o,rfl,h⟩
 obtain ⟨s0,g0⟩:=get _ _ o0
 obtain ⟨s1,g1⟩:=get _ _ o1
 obtain ⟨x0,a0,b0,c0,d0⟩:=g0 0 _ _ _ rfl
 obtain ⟨x1,a1,b1,c1,d1⟩:=g0 1 _ _ _ rfl
 obtain ⟨y0,e0,f0,p0,q0⟩:=g1 0 _ _ _ rfl
 obtain ⟨y1,e1,f1,p1,q1⟩:=g1 1 _ _ _ rfl
 refine wpS_seq (wpS_region ?_)
 rw[s0]
 change wpOpsS _ _ _ [0,1] _ _ _
 refine afZ a0 d0 (by simp[execOp,c0,resolve,invoke,builtin]) hr ?_
 refine O5 (v:= .nilIface) a1 d1 ?_ ?_
 ·simp[execOp,c1,Act.eval,Act.put,b0,show 6<tm.size by omega]
 rw[b0,b1]
 change Exit.thenS _ _ .normal _ _ _
 simp only[Exit.thenS]
 refine wpS_seq (wpS_region ?_)
 rw[s1]
 change wpOpsS _ _ _ [0,1] _ _ _
 refine O5 (v:= .nilIface) e0 q0 ?_ ?_
 ·simp[execOp,p0,Act.eval,Act.put,show 3<tm.size by omega]
 rw[f0]
 refine O5 (v:= .bool false) e1 q1 ?_ ?_
 ·simp[execOp,p1,Act.eval,Act.put,show 7<tm.size by omega]
  simp[eqGuard,af0]
 rw[f1]
 change Exit.thenS _ _ .normal _ _ _
 simp only[Exit.thenS]
 refine wpS_cond (t:=false) (by simp[Act.eval,Act.put,show 8<tm.size by omega]) ?_
 simp only[xf,fg]
 refine wpS_of_wp (wp_skip ?_)
 refine ⟨rfl,.returning,by rw[←hu],.tuple #[],?_,⟨_,rfl⟩,rfl,rfl⟩
 simp[results,show Tryz.f107.results= #[] by kernel_rfl]
theorem af3 {w:World} {b:Nat} {C:Array Value} {T:TypeId} (h:w.heap[b]? =some (.cells C T (0,0))):w.shape? b=some (T,C.size)∧w.frozen? ⟨b,0,none⟩=false∧w.cell? ⟨b,0,none⟩=C[0]? :=by
 refine ⟨by simp[World.shape?,h],by simp[World.frozen?,h],cell?_cells h⟩
set_option maxHeartbeats 1000000 in
theorem af4 (b:Nat) (w:World) (h0:w.cell? ⟨b,0,none⟩=some (.pointer (some ⟨b,0,none⟩))):
  Calls Tryz.prog 142 #[.pointer (some ⟨b,0,none⟩)] w fun e w'=>e= .returned (.tuple #[])∧w'=w:=by
 obtain ⟨j,hj⟩:=AN.1 (show (Tryz.prog.info? 101).isSome=true by kernel_rfl)
 have hu:Tryz.prog.underlying 98=some (.pointer 101):=by kernel_rfl
 go_enter Tryz.func142,Tryz.ntmps142
 go_wp2
 rw[Lib.run_neq_ptr_same w _ hu hj]
 go_wp2
 go_end0
 exact ⟨rfl,rfl⟩
set_option maxHeartbeats 1000000 in
theorem af5 (b n:Nat) (w:World) (hn:0<n) (h0:w.cell? ⟨b,0,none⟩=some (.pointer none)) (WS:w.shape? b=some (101,n)) (Mw:w.frozen? ⟨b,0,none⟩=false) (hl:liesAt Tryz.prog Tryz.prog.depth 101 (n/Tryz.prog.cellsOf 101) 0 101 1=true):
  Calls Tryz.prog 142 #[.pointer (some ⟨b,0,none⟩)] w fun e w'=>e= .returned (.tuple #[])∧w'=w.setCell ⟨b,0,none⟩ (.pointer (some ⟨b,0,none⟩)):=by
 obtain ⟨j,hj⟩:=AN.1 (show (Tryz.prog.info? 101).isSome=true by kernel_rfl)
 have CL:j.size≠0:=by
  have h2:(Tryz.prog.info? 101).map (·.size)=some 2:=by kernel_rfl
  rw[hj] at h2
  simp at h2
  omega
 have hu:Tryz.prog.underlying 98=some (.pointer 101):=by kernel_rfl
 have nq:Tryz.prog.underlying 159=some .unsafePointer:=by kernel_rfl
 go_enter Tryz.func142,Tryz.ntmps142
 go_wp2
 rw[Lib.run_to_unsafe w ⟨b,0,none⟩ hu nq hj CL WS hn]
 simp only[Result.andThen]
 rw[Oper.upon_value]
 go_wp2
 rw[run_callFunc_extern Tryz.func158 (by kernel_rfl) (by kernel_rfl) (by kernel_rfl) (e:=Extern.AbiNoEscape.same) (by kernel_rfl)]
 rw[Lib.run_noEscape]
 simp only[Result.andThen]
 rw[Oper.upon_value]
 go_wp2
 rw[Lib.run_from_unsafe w ⟨b,0,none⟩ nq hu hj WS hl]
 simp only[Result.andThen]
 rw[Oper.upon_value]
 go_wp2
 go_end0
 exact ⟨rfl,rfl⟩
theorem af6 (hP:BY Tryz.prog):jn Tryz.prog az where
 count:=hP
 pj:=afX hP
 ext:=by
  intro f T h b C w hh hs hc
  have hf:f=142∧T=101:=by
   have h1:az.ext f=bif Nat.beq f 142 then some 101 else none:=by kernel_rfl
   rw[h1] at h
   cases hb:Nat.beq f 142 with
   | true=>rw[hb] at h;rw[bj] at hb;exact ⟨hb,(dB h).symm⟩
   | false=>rw[hb] at h;cases h
  obtain ⟨rfl,rfl⟩:=hf
  obtain ⟨h1,h2,h3⟩:=af3 hh
  refine ⟨MuLone.run_callFunc_enter Tryz.func142 (hP _ _ Tryz.func142) (by kernel_rfl:Tryz.f142.body=some (bU Tryz.prog 142)) _ _,?_⟩
  have jw:Tryz.prog.cellsOf 101=2:=by kernel_rfl
  rcases hc with hc|hc
  ·refine (af5 b C.size w (by omega) (h3.trans hc) h1 h2 (by rw[hs,jw];kernel_rfl)).mono ?_
   rintro e w' ⟨rfl,rfl⟩
   exact ⟨rfl,.inr rfl⟩
  ·refine (af4 b w (h3.trans hc)).mono ?_
   rintro e w' ⟨rfl,rfl⟩
   exact ⟨rfl,.inl rfl⟩
 idle:=by
  intro f h
  have hf:f=107:=by
   have h1:az.idle f=Nat.beq f 107:=by kernel_rfl
   rw[h1,bj] at h
   exact h
  subst hf
  exact ⟨MuLone.run_callFunc_enter Tryz.func107 (hP _ _ Tryz.func107) (by kernel_rfl:Tryz.f107.body=some (bU Tryz.prog 107)),af1⟩
end Go.AM
set_option maxRecDepth 100000
namespace Go.AM
open Go.Proofs Go.Proofs.YtbbgbkiefjilcaaGreatDoor Go.Lib Go.MakeChecks
def sA:List Int:=[0,1,56,2,57,49,28,3,61,58,42,50,38,29,17,4,62,47,59,36,45,43,51,22,53,39,33,30,24,18,12,5,63,55,48,27,60,41,37,16,46,35,44,21,52,32,23,11,54,26,40,15,34,20,31,10,25,14,19,9,13,8,7,6]
theorem af7:Io=sA.map fun z=> .int .u8 z:=by kernel_rfl
theorem af8:Rows.laid_math_bits_deBruijn64tab (H:=Unit)=tabData .u8 sA:=by kernel_rfl
def CM : List (String × DataW Unit) := [("math/bits.deBruijn64tab", Rows.laid_math_bits_deBruijn64tab)]
theorem ab0 {W:World} (h:laidMetH Tryz.prog CM W):iE Tryz.prog az.aL W (mG W):=by
 have h1 : laidMetH Tryz.prog [("math/bits.deBruijn64tab", tabData .u8 sA)] W := by
  have : CM = [("math/bits.deBruijn64tab", tabData .u8 sA)] := by unfold CM; rw [af8]
  rwa [this] at h
 rw[laidMetH_plain _ _ _ (by kernel_rfl)] at h1
 have hn : Tryz.prog.globalNamed "math/bits.deBruijn64tab" = some 0 := by kernel_rfl
 have ht:=tabIs_of_head (g:=0) (t:=137) (e:=5) (n:=64) hn (by kernel_rfl) (by kernel_rfl) (by kernel_rfl) (by kernel_rfl) (by kernel_rfl) h1
 have hlen:sA.length=64:=by kernel_rfl
 have hc: ∀i,i<64→W.cell? ⟨0,i,none⟩=some (.int .u8 (sA.getD i 0)):=fun i hi=>ht.cell hn i (by rw[hlen];exact hi)
 intro g
 have hg:az.aL g=bif Nat.beq g 0 then .pref (List.replicate 64 5) Io else .undef:=by kernel_rfl
 rw[hg]
 cases hb:Nat.beq g 0 with
 | false=>exact .inl rfl
 | true=>
  rw[bj] at hb
  subst hb
  refine .inr ⟨List.replicate 64 5,Io,rfl,by kernel_rfl,fun _=> ?_,fun j t x hj hx=> ?_⟩
  ·have h0:=hc 0 (by omega)
   unfold mG
   unfold World.cell? at h0
   by_cases hz:0<W.heap.size
   ·exact hz
   ·have:W.heap[0]? =none:=Array.getElem?_eq_none (by omega)
    simp[this] at h0
  ·have IF:j<64:=by
    have:=(bH.1 hj).1
    simpa using this
   rw[List.getElem?_replicate,ag IF] at hj
   cases hj
   rw[af7,hY] at hx
   have oG:sA[j]? =some (sA.getD j 0):=by
    rw[bZ (by rw[hlen];exact IF)]
    simp[List.getD,bZ (show j<sA.length by rw[hlen];exact IF)]
   rw[oG] at hx
   cases hx
   exact ⟨_,by simpa using hc j IF,.int (by kernel_rfl)⟩
theorem own:ownKnob Tryz.prog.godebug=none:=by kernel_rfl
theorem af9:BY Tryz.prog:=aeR (by kernel_rfl)
theorem mixed:Tryz.prog.follows .mixedOrders=true:=by kernel_rfl
theorem abZ:jn Tryz.prog az:=af6 af9
noncomputable def Sh (os:Os):World:=World.laidAll Tryz.prog os CM
theorem abX (os:Os) (args:Array Value):laidMetH Tryz.prog CM ((Sh os).forCall (fun _ _=>0) ⟨#[],args,[]⟩).memory:=by
 rw[laidMetH_plain _ _ _ (by kernel_rfl)]
 exact laidMet_laidAll args (by kernel_rfl) (by kernel_rfl)
end Go.AM
namespace Go.AM
theorem wrap_u64 (n:Int):IntKind.u64.wrap n=n %18446744073709551616:=by simp[IntKind.wrap,IntKind.bits,IntKind.signed]
theorem sB {A:Nat} (h:A<2^64):IntKind.wrap .u64 (A:Int)=A:=by
 rw[wrap_u64];omega
theorem IG {n A:Nat} (h:A<2^n):(BitVec.ofInt n (A:Int)).toNat=A:=by
 rw[BitVec.ofInt_natCast,BitVec.toNat_ofNat];exact Nat.mod_eq_of_lt h
theorem aga {n A B:Nat} (hA:A<2^n) (hB:B<2^n):(BitVec.ofInt n (A:Int)|||BitVec.ofInt n (B:Int)).toNat=A|||B:=by
 rw[BitVec.toNat_or,IG hA,IG hB]
theorem bv_and {n A B:Nat} (hA:A<2^n) (hB:B<2^n):(BitVec.ofInt n (A:Int)&&&BitVec.ofInt n (B:Int)).toNat=A&&&B:=by
 rw[BitVec.toNat_and,IG hA,IG hB]
theorem u64_or {A B:Nat} (hA:A<2^64) (hB:B<2^64):IntKind.wrap .u64 ((BitVec.ofInt (IntKind.bits .u64) (A:Int)|||BitVec.ofInt (IntKind.bits .u64) (B:Int)).toNat)=((A|||B:Nat):Int):=by
 rw[aga (n:=IntKind.bits .u64) hA hB]
 exact sB (Nat.or_lt_two_pow hA hB)
theorem u64_and {A B:Nat} (hA:A<2^64) (hB:B<2^64):IntKind.wrap .u64 ((BitVec.ofInt (IntKind.bits .u64) (A:Int)&&&BitVec.ofInt (IntKind.bits .u64) (B:Int)).toNat)=((A&&&B:Nat):Int):=by
 rw[bv_and (n:=IntKind.bits .u64) hA hB]
 exact sB (AI Nat.and_le_left hA)
theorem IH {m:Nat} (h:m<64):IntKind.wrap .u64 (1*2^(min m (IntKind.bits .u64)))=((2^m:Nat):Int):=by
 have e:min m (IntKind.bits .u64)=m:=Nat.min_eq_left (by show m≤64;omega)
 rw[e]
 have:(1*2^m:Int)=((2^m:Nat):Int):=by simp
 rw[this]
 exact sB (FN (by omega) h)
theorem y6 {A m:Nat} (h:m<64):Int.fdiv (A:Int) (2^(min m (IntKind.bits .u64)))=((A/2^m:Nat):Int):=by
 have e:min m (IntKind.bits .u64)=m:=Nat.min_eq_left (by show m≤64;omega)
 rw[e]
 have:(2^m:Int)=((2^m:Nat):Int):=by simp
 rw[this,Int.fdiv_eq_ediv_of_nonneg _ (Int.natCast_nonneg _)]
 exact Int.natCast_ediv ..
end Go.AM
set_option maxRecDepth 100000
namespace Go.AM
open Go.Proofs
theorem oU:maxLen≤9223372036854775807:=by unfold maxLen;omega
theorem iW:b8=35184372088832:=by unfold b8;rfl
section
variable {α β:Type} {o:Option α} {a:α} {f:α→Option β} {r:Option β} {x y z:β} {b:Bool}
theorem bs (h:o=some a) (h2:f a=r):o.bind f=r:=by rw[h];exact h2
theorem bT (hb:b=true) (h:x=z):(bif b then x else y)=z:=by rw[hb];exact h
theorem bF (hb:b=false) (h:y=z):(bif b then x else y)=z:=by rw[hb];exact h
end
section
variable {X R A α:Type} {step:X→Option (X ⊕ R)}
theorem agb (l:List α) (s:Nat→A→X) (f:A→α→A) (r:A→R) (Inv:Nat→A→Prop)
  (h: ∀(i:Nat) (a:A) (hi:i<l.length),Inv i a→step (s i a)=some (.inl (s (i+1) (f a l[i])))∧Inv (i+1) (f a l[i]))
  (he: ∀a,Inv l.length a→step (s l.length a)=some (.inr (r a))) (a0:A) (h0:Inv 0 a0):
  Loop step (s 0 a0)=some (r (l.foldl f a0))∧Inv l.length (l.foldl f a0):=by
 have go: ∀(k:Nat) (a:A),k≤l.length→Inv k a→Loop step (s k a)=some (r ((l.drop k).foldl f a))∧Inv l.length ((l.drop k).foldl f a):=by
  intro k
  generalize hd:l.length-k=d
  induction d generalizing k with
  | zero=>
   intro a hk hi
   have:k=l.length:=by omega
   subst this
   simp only[List.drop_length,List.foldl_nil]
   exact ⟨aG (he a hi),hi⟩
  | succ d ih=>
   intro a hk hi
   have dG:k<l.length:=by omega
   obtain ⟨h1,h2⟩:=h k a dG hi
   rw[br h1,List.drop_eq_getElem_cons dG,List.foldl_cons]
   exact ih (k+1) (by omega) _ (by omega) h2
 simpa using go 0 a0 (by omega) h0
end
inductive Ex where
 | node (op letter:Int) (kids:List Ex)
namespace Ex
def op:Ex→Int| .node o _ _=>o
def letter:Ex→Int| .node _ l _=>l
def kids:Ex→List Ex| .node _ _ ks=>ks
theorem ind {p:Ex→Prop} (h: ∀o l ks,(∀k∈ks,p k)→p (.node o l ks)): ∀e,p e
 | .node o l ks=>h o l ks fun k hk=>ind h k
termination_by e=>SizeOf.sizeOf e
decreasing_by
 have:=FG hk
 simp
 omega
mutual
def enc:Ex→V
 | .node o l ks=> .agg [.int .i64 o,.int .i64 l,.list ab (CN ks)]
def CN:List Ex→List V
 | []=>[]
 | k::ks=>enc k::CN ks
end
theorem WU: ∀ks,CN ks=ks.map enc
 | []=>by simp only[CN,mU]
 | k::ks=>by simp only[CN,dZ,WU ks]
theorem fS (e:Ex):e.enc= .agg [.int .i64 e.op,.int .i64 e.letter,.list ab (e.kids.map enc)]:=by
 cases e;simp only[enc,op,letter,kids,WU]
mutual
def size:Ex→Nat
 | .node _ _ ks=>1+aF ks
def aF:List Ex→Nat
 | []=>0
 | k::ks=>size k+aF ks
end
mutual
def depth:Ex→Nat
 | .node _ _ ks=>1+ln ks
def ln:List Ex→Nat
 | []=>0
 | k::ks=>max (depth k) (ln ks)
end
theorem size_pos: ∀e:Ex,0<e.size
 | .node _ _ ks=>by simp only[size];omega
theorem agc: ∀e:Ex,e.depth≤e.size:=ind fun o l ks ih=>by
 have: ∀ks:List Ex,(∀k∈ks,k.depth≤k.size)→ln ks≤aF ks:=by
  intro ks
  induction ks with
  | nil=>intro _;simp only[ln,aF];omega
  | cons k ks ih=>
   intro h
   have h1:=h k (by simp)
   have h2:=ih fun k hk=>h k (by simp[hk])
   simp only[ln,aF];omega
 have:=this ks ih
 simp only[depth,size];omega
inductive Ok:Ex→Prop
 | node {o l:Int} {ks:List Ex}:(-9223372036854775808≤o∧o≤9223372036854775807)→(-9223372036854775808≤l∧l≤9223372036854775807)→ks.length≤maxLen→(∀k∈ks,Ok k)→Ok (.node o l ks)
theorem Ok.lp {o l:Int} {ks:List Ex} (h:Ok (.node o l ks)): ∀k∈ks,Ok k:=by cases h;assumption
theorem Ok.len {o l:Int} {ks:List Ex} (h:Ok (.node o l ks)):ks.length≤maxLen:=by cases h;assumption
end Ex
open Ex
abbrev ct (e:Ex) (l:List V):List V:= .int .i64 e.op:: .int .i64 e.letter:: .list ab (e.kids.map enc)::l
theorem Sg: ∀(n:Nat) (x:V),SizeOf.sizeOf x<n→kQ PG ab x→∃e:Ex,x=e.enc∧e.Ok
 | 0,x,h,_=>by omega
 | n+1,x,h,hw=>by
  obtain ⟨xs,rfl,hl,hx⟩:=hw.lL (by kernel_rfl)
  have e1:bp PG ab=[nA,nA,VW]:=by kernel_rfl
  rw[e1] at hl hx
  match xs,hl,hx,h with
  | [a,b,c],_,hx,h=>
   obtain ⟨o,rfl,ho⟩:=(hx 0 nA a rfl rfl).eD (k:= .i64) (by kernel_rfl)
   obtain ⟨l,rfl,hl⟩:=(hx 1 nA b rfl rfl).eD (k:= .i64) (by kernel_rfl)
   obtain ⟨es,rfl,he,TH⟩:=(hx 2 VW c rfl rfl).aeS (e:=ab) (by kernel_rfl)
   have: ∃ks:List Ex,es=ks.map enc∧∀k∈ks,k.Ok:=VC fun y hy=>Sg n y (by
    have:=FG hy
    simp at h
    omega) (TH y hy)
   obtain ⟨ks,rfl,bd⟩:=this
   refine ⟨.node o l ks,by rw[fS];rfl,.node ?_ ?_ (by simpa using he) bd⟩
   ·exact ho
   ·exact hl
noncomputable def WV (C:af) (ak ay:Int) (aj:List V) (letters:Int):Option (List V):=
 bif decide ((letters:Int)<1) then
  some [.int .i64 1]
 else
  bif decide ((letters:Int)>6) then
  some [.int .i64 1]
  else
  (C H3 [.int .i64 ak,.int .i64 ay,.list ab aj]).bind fun r1=>
  bif !((V.nth r1 0).toBool) then
   some [.int .i64 3]
  else
   (C yM [.int .i64 ak,.int .i64 ay,.list ab aj,.int .i64 letters]).bind fun r2=>
   bif !((V.nth r2 0).toBool) then
   some [.int .i64 4]
   else
   some [.int .i64 0]
theorem agd {ak ay:Int} {aj:List V} {letters:Int} {r:Option (List V)} (h:WV CC ak ay aj letters=r):CC Cn [.int .i64 ak,.int .i64 ay,.list ab aj,.int .i64 letters]=r:=
 bn (key:=57) (L:=cS) (bs:=[]) (by kernel_rfl) aw (bm (by kernel_rfl) h)
noncomputable def WW (C:af) (ak ay:Int) (aj:List V):Option (List V):=
 (C yO [.int .i64 ak,.int .i64 ay,.list ab aj,.int .i64 40,.int .i64 400]).bind fun r1=>
 some [.bool ((V.nth r1 0).toBool)]
theorem age {ak ay:Int} {aj:List V} {r:Option (List V)} (h:WW CC ak ay aj=r):CC H3 [.int .i64 ak,.int .i64 ay,.list ab aj]=r:=
 bn (key:=79) (L:=cS) (bs:=[]) (by kernel_rfl) aw (bm (by kernel_rfl) h)
noncomputable abbrev WX:Code:=bU Tryz.prog (az.aT 111)
noncomputable def y7 (C:af) (depth:Int) (t23:List V) (t24 t25 oV:Int) {β:Type} (kn:(Int × Int)→Option β) (kr:((Bool × Int) ⊕ (Int × Bool × Int))→Option β):Option β:=
 bif decide ((t25:Int)<t24) then
  (idx t23 t25).bind fun x1=>
  (C yO [.int .i64 ((x1.cell 0).toInt),.int .i64 ((x1.cell 1).toInt),.list ab ((x1.cell 2).toList),.int .i64 (IntKind.wrap .i64 (depth-1)),.int .i64 oV]).bind fun r2=>
  bif !((V.nth r2 0).toBool) then
  kr (.inl (false,(V.nth (r2.drop 1) 0).toInt))
  else
  kn (IntKind.wrap .i64 (t25+1),(V.nth (r2.drop 1) 0).toInt)
 else
  kr (.inr (t25,decide ((t25:Int)<t24),oV))
noncomputable def vZ (C:af) (depth:Int) (t23:List V) (t24:Int):(Int × Int)→Option ((Int × Int) ⊕ ((Bool × Int) ⊕ (Int × Bool × Int))):=un fun t25 oV=>y7 C depth t23 t24 t25 oV (fun y=>some (.inl y)) (fun r=>some (.inr r))
noncomputable def WY (C:af):cj:=fun β n ds k=>
 bif Nat.beq n 81 then bt Oq [false,false,false,true,true] [[0,0],[1,2,3,0,0,0]] (@y7 C) ds k else
 none
abbrev agf (C:af) (b:cg):Prop:=ch Tryz.prog az C (WY C) 111 (cv Tryz.prog (az.aT 111)) (az.sin 111).bf.length b
theorem agh (C:af):agf C (.loop (aq [1,1,1,0,1,0,0] WX)):=
 bw Oq [false,false,false,true,true] [[0,0],[1,2,3,0,0,0]] (@y7 C) (by kernel_rfl) (aM (bs:=[]) (by kernel_rfl) aw) (fun ds=>by kernel_rfl) (fun i x=>by kernel_rfl) (fun i x β k=>by kernel_rfl) (fun β ds k=>by kernel_rfl)
noncomputable def CO (C:af) (ak ay:Int) (aj:List V) (depth oV:Int):Option (List V):=
 bif (depth:Int)==0 then
  some [.bool false,.int .i64 oV]
 else
  bif (oV:Int)==0 then
  some [.bool false,.int .i64 oV]
  else
  (Loop (vZ C depth aj (aj.length:Int)) (0,IntKind.wrap .i64 (oV-1))).bind (bD (un fun (fN:Bool) (O6:Int)=>
   some [.bool fN,.int .i64 O6]) (un fun (kF:Int)=>un fun (rf:Bool) (agi:Int)=>
   some [.bool true,.int .i64 agi]))
theorem II {ak ay:Int} {aj:List V} {depth oV:Int} {r:Option (List V)} (h:CO CC ak ay aj depth oV=r):CC yO [.int .i64 ak,.int .i64 ay,.list ab aj,.int .i64 depth,.int .i64 oV]=r:=
 bn (key:=111) (L:=WY CC) (bs:=[.loop (aq [1,1,1,0,1,0,0] WX)]) (by kernel_rfl) (aZ (agh CC) aw) (bm (by kernel_rfl) h)
noncomputable abbrev WZ:Code:=bU Tryz.prog (az.aT 94)
noncomputable def y8 (C:af) (letters:Int) (t53:List V) (t54 t55:Int) {β:Type} (kn:Int→Option β) (kr:((Bool) ⊕ (Int × Bool))→Option β):Option β:=
 bif decide ((t55:Int)<t54) then
  (idx t53 t55).bind fun x1=>
  (C yM [.int .i64 ((x1.cell 0).toInt),.int .i64 ((x1.cell 1).toInt),.list ab ((x1.cell 2).toList),.int .i64 letters]).bind fun r2=>
  bif !((V.nth r2 0).toBool) then
  kr (.inl false)
  else
  kn (IntKind.wrap .i64 (t55+1))
 else
  kr (.inr (t55,decide ((t55:Int)<t54)))
noncomputable def gJ (C:af) (letters:Int) (t53:List V) (t54:Int):(Int)→Option ((Int) ⊕ ((Bool) ⊕ (Int × Bool))):=fun t55=>y8 C letters t53 t54 t55 (fun y=>some (.inl y)) (fun r=>some (.inr r))
noncomputable def W0 (C:af):cj:=fun β n ds k=>
 bif Nat.beq n 321 then bt NT [false,false,false,true] [[0],[1,2,3,0,0]] (@y8 C) ds k else
 none
abbrev agj (C:af) (b:cg):Prop:=ch Tryz.prog az C (W0 C) 94 (cv Tryz.prog (az.aT 94)) (az.sin 94).bf.length b
theorem agk (C:af):agj C (.loop (aq [1,1,1,1,0,1,0,0] WZ)):=
 bw NT [false,false,false,true] [[0],[1,2,3,0,0]] (@y8 C) (by kernel_rfl) (aM (bs:=[]) (by kernel_rfl) aw) (fun ds=>by kernel_rfl) (fun i x=>by kernel_rfl) (fun i x β k=>by kernel_rfl) (fun β ds k=>by kernel_rfl)
noncomputable def W3 (C:af) (ak ay:Int) (aj:List V) (letters:Int):Option (List V):=
 bif (ak:Int)==3 then
  bif ((aj.length:Int):Int)==0 then
  bif decide ((ay:Int)≥0) then
   some [.bool (decide ((ay:Int)<letters))]
  else
   some [.bool false]
  else
  some [.bool false]
 else
  bif (ay:Int) != 0 then
  some [.bool false]
  else
  bif (ak:Int)==1 then
   bif (ak:Int)==1 then
   some [.bool (((aj.length:Int):Int)==0)]
   else
   bif (ak:Int)==4 then
    bif (ak:Int)==4 then
    bif decide (((aj.length:Int):Int)<2) then
     some [.bool false]
    else
     (Loop (gJ C letters aj (aj.length:Int)) 0).bind (bD (fun (fN:Bool)=>
      some [.bool fN]) (un fun (jJ:Int) (kF:Bool)=>
      some [.bool true]))
    else
    bif (ak:Int)==7 then
     bif (ak:Int)==7 then
     bif ((aj.length:Int):Int) != 1 then
      some [.bool false]
     else
      (Loop (gJ C letters aj (aj.length:Int)) 0).bind (bD (fun (rf:Bool)=>
       some [.bool rf]) (un fun (sC:Int) (CP:Bool)=>
       some [.bool true]))
     else
     some [.bool false]
    else
     bif (ak:Int)==8 then
     bif ((aj.length:Int):Int) != 1 then
      some [.bool false]
     else
      (Loop (gJ C letters aj (aj.length:Int)) 0).bind (bD (fun (oW:Bool)=>
       some [.bool oW]) (un fun (O7:Int) (CQ:Bool)=>
       some [.bool true]))
     else
     some [.bool false]
   else
    bif (ak:Int)==5 then
    bif (ak:Int)==5 then
     bif decide (((aj.length:Int):Int)<2) then
     some [.bool false]
     else
     (Loop (gJ C letters aj (aj.length:Int)) 0).bind (bD (fun (CR:Bool)=>
      some [.bool CR]) (un fun (O8:Int) (v5:Bool)=>
      some [.bool true]))
    else
     bif (ak:Int)==7 then
     bif (ak:Int)==7 then
      bif ((aj.length:Int):Int) != 1 then
      some [.bool false]
      else
      (Loop (gJ C letters aj (aj.length:Int)) 0).bind (bD (fun (v7:Bool)=>
       some [.bool v7]) (un fun (O9:Int) (W4:Bool)=>
       some [.bool true]))
     else
      some [.bool false]
     else
     bif (ak:Int)==8 then
      bif ((aj.length:Int):Int) != 1 then
      some [.bool false]
      else
      (Loop (gJ C letters aj (aj.length:Int)) 0).bind (bD (fun (Pb:Bool)=>
       some [.bool Pb]) (un fun (ao5:Int) (W5:Bool)=>
       some [.bool true]))
     else
      some [.bool false]
    else
    bif (ak:Int)==6 then
     bif decide (((aj.length:Int):Int)<2) then
     some [.bool false]
     else
     (Loop (gJ C letters aj (aj.length:Int)) 0).bind (bD (fun (CS:Bool)=>
      some [.bool CS]) (un fun (y9:Int) (v8:Bool)=>
      some [.bool true]))
    else
     bif (ak:Int)==7 then
     bif (ak:Int)==7 then
      bif ((aj.length:Int):Int) != 1 then
      some [.bool false]
      else
      (Loop (gJ C letters aj (aj.length:Int)) 0).bind (bD (fun (agl:Bool)=>
       some [.bool agl]) (un fun (W6:Int) (CT:Bool)=>
       some [.bool true]))
     else
      some [.bool false]
     else
     bif (ak:Int)==8 then
      bif ((aj.length:Int):Int) != 1 then
      some [.bool false]
      else
      (Loop (gJ C letters aj (aj.length:Int)) 0).bind (bD (fun (Pc:Bool)=>
       some [.bool Pc]) (un fun (ao6:Int) (v9:Bool)=>
       some [.bool true]))
     else
      some [.bool false]
  else
   bif (ak:Int)==2 then
   some [.bool (((aj.length:Int):Int)==0)]
   else
   bif (ak:Int)==4 then
    bif (ak:Int)==4 then
    bif decide (((aj.length:Int):Int)<2) then
     some [.bool false]
    else
     (Loop (gJ C letters aj (aj.length:Int)) 0).bind (bD (fun (CU:Bool)=>
      some [.bool CU]) (un fun (ao7:Int) (Pd:Bool)=>
      some [.bool true]))
    else
    bif (ak:Int)==7 then
     bif (ak:Int)==7 then
     bif ((aj.length:Int):Int) != 1 then
      some [.bool false]
     else
      (Loop (gJ C letters aj (aj.length:Int)) 0).bind (bD (fun (za:Bool)=>
       some [.bool za]) (un fun (agm:Int) (ao8:Bool)=>
       some [.bool true]))
     else
     some [.bool false]
    else
     bif (ak:Int)==8 then
     bif ((aj.length:Int):Int) != 1 then
      some [.bool false]
     else
      (Loop (gJ C letters aj (aj.length:Int)) 0).bind (bD (fun (CV:Bool)=>
       some [.bool CV]) (un fun (agn:Int) (IJ:Bool)=>
       some [.bool true]))
     else
     some [.bool false]
   else
    bif (ak:Int)==5 then
    bif (ak:Int)==5 then
     bif decide (((aj.length:Int):Int)<2) then
     some [.bool false]
     else
     (Loop (gJ C letters aj (aj.length:Int)) 0).bind (bD (fun (Pe:Bool)=>
      some [.bool Pe]) (un fun (ago:Int) (ao9:Bool)=>
      some [.bool true]))
    else
     bif (ak:Int)==7 then
     bif (ak:Int)==7 then
      bif ((aj.length:Int):Int) != 1 then
      some [.bool false]
      else
      (Loop (gJ C letters aj (aj.length:Int)) 0).bind (bD (fun (Pf:Bool)=>
       some [.bool Pf]) (un fun (Pg:Int) (apa:Bool)=>
       some [.bool true]))
     else
      some [.bool false]
     else
     bif (ak:Int)==8 then
      bif ((aj.length:Int):Int) != 1 then
      some [.bool false]
      else
      (Loop (gJ C letters aj (aj.length:Int)) 0).bind (bD (fun (agp:Bool)=>
       some [.bool agp]) (un fun (agq:Int) (apb:Bool)=>
       some [.bool true]))
     else
      some [.bool false]
    else
    bif (ak:Int)==6 then
     bif decide (((aj.length:Int):Int)<2) then
     some [.bool false]
     else
     (Loop (gJ C letters aj (aj.length:Int)) 0).bind (bD (fun (Ph:Bool)=>
      some [.bool Ph]) (un fun (W7:Int) (W8:Bool)=>
      some [.bool true]))
    else
     bif (ak:Int)==7 then
     bif (ak:Int)==7 then
      bif ((aj.length:Int):Int) != 1 then
      some [.bool false]
      else
      (Loop (gJ C letters aj (aj.length:Int)) 0).bind (bD (fun (agr:Bool)=>
       some [.bool agr]) (un fun (apc:Int) (apd:Bool)=>
       some [.bool true]))
     else
      some [.bool false]
     else
     bif (ak:Int)==8 then
      bif ((aj.length:Int):Int) != 1 then
      some [.bool false]
      else
      (Loop (gJ C letters aj (aj.length:Int)) 0).bind (bD (fun (W9:Bool)=>
       some [.bool W9]) (un fun (ags:Int) (ape:Bool)=>
       some [.bool true]))
     else
      some [.bool false]
theorem agt {ak ay:Int} {aj:List V} {letters:Int} {r:Option (List V)} (h:W3 CC ak ay aj letters=r):CC yM [.int .i64 ak,.int .i64 ay,.list ab aj,.int .i64 letters]=r:=
 bn (key:=94) (L:=W0 CC) (bs:=[.loop (aq [1,1,1,1,0,1,0,0] WZ)]) (by kernel_rfl) (aZ (agk CC) aw) (bm (by kernel_rfl) h)
noncomputable def Xa (C:af) (ak ay:Int) (aj:List V) (letters:Int):Option (List V):=
 (C HQ [.int .i64 letters]).bind fun r1=>
 bif !((V.nth r1 0).toBool) then
  some [.int .i64 1]
 else
  (C HR [.int .i64 ak,.int .i64 ay,.list ab aj]).bind fun r2=>
  bif !((V.nth r2 0).toBool) then
  some [.int .i64 3]
  else
  (C yD [.int .i64 ak,.int .i64 ay,.list ab aj,.int .i64 letters]).bind fun r3=>
  bif !((V.nth r3 0).toBool) then
   some [.int .i64 4]
  else
   some [.int .i64 0]
theorem agu {ak ay:Int} {aj:List V} {letters:Int} {r:Option (List V)} (h:Xa CC ak ay aj letters=r):CC Cl [.int .i64 ak,.int .i64 ay,.list ab aj,.int .i64 letters]=r:=
 bn (key:=6) (L:=cS) (bs:=[]) (by kernel_rfl) aw (bm (by kernel_rfl) h)
noncomputable def Xb (C:af) (ak ay:Int) (aj:List V):Option (List V):=
 (C vN [.int .i64 ak,.int .i64 ay,.list ab aj,.int .i64 400]).bind fun r1=>
 bif decide ((((V.nth r1 0).toInt):Int)≤400) then
  some [.bool (decide ((((V.nth (r1.drop 1) 0).toInt):Int)≤40))]
 else
  some [.bool false]
theorem agv {ak ay:Int} {aj:List V} {r:Option (List V)} (h:Xb CC ak ay aj=r):CC HR [.int .i64 ak,.int .i64 ay,.list ab aj]=r:=
 bn (key:=20) (L:=cS) (bs:=[]) (by kernel_rfl) aw (bm (by kernel_rfl) h)
noncomputable abbrev Xc:Code:=bU Tryz.prog (az.aT 22)
noncomputable def zb (C:af) (dI dy df:Int) (cw:List V) (n deep i:Int) {β:Type} (kn:(Int × Int × Int)→Option β) (kr:(Int × Int × Int × Bool)→Option β):Option β:=
 bif decide ((i:Int)<(cw.length:Int)) then
  bif decide ((n:Int)≤dI) then
  (idx cw i).bind fun x1=>
  (C vN [.int .i64 ((x1.cell 0).toInt),.int .i64 ((x1.cell 1).toInt),.list ab ((x1.cell 2).toList),.int .i64 dI]).bind fun r2=>
  kn (if (IntKind.wrap .i64 (dI+1))<(IntKind.wrap .i64 (n+((V.nth r2 0).toInt))) then (IntKind.wrap .i64 (dI+1)) else (IntKind.wrap .i64 (n+((V.nth r2 0).toInt))),if ((V.nth (r2.drop 1) 0).toInt)>deep then ((V.nth (r2.drop 1) 0).toInt) else deep,IntKind.wrap .i64 (i+1))
  else
  kr (n,deep,i,decide ((n:Int)≤dI))
 else
  kr (n,deep,i,false)
noncomputable def zc (C:af) (dI dy df:Int) (cw:List V):(Int × Int × Int)→Option ((Int × Int × Int) ⊕ (Int × Int × Int × Bool)):=un fun n=>un fun deep i=>zb C dI dy df cw n deep i (fun y=>some (.inl y)) (fun r=>some (.inr r))
noncomputable def Xd (C:af):cj:=fun β n ds k=>
 bif Nat.beq n 49 then bt Nd [false,true,true,true,false,false,false] [[1,0,0,0,0,5,6,7]] (@zb C) ds k else
 none
abbrev agw (C:af) (b:cg):Prop:=ch Tryz.prog az C (Xd C) 22 (cv Tryz.prog (az.aT 22)) (az.sin 22).bf.length b
theorem agx (C:af):agw C (.loop (aq [1,1,0,1,0,0] Xc)):=
 bw Nd [false,true,true,true,false,false,false] [[1,0,0,0,0,5,6,7]] (@zb C) (by kernel_rfl) (aM (bs:=[]) (by kernel_rfl) aw) (fun ds=>by kernel_rfl) (fun i x=>by kernel_rfl) (fun i x β k=>by kernel_rfl) (fun β ds k=>by kernel_rfl)
noncomputable def Xe (C:af) (ak ay:Int) (aj:List V) (dI:Int):Option (List V):=
 (Loop (zc C dI ak ay aj) (1,0,0)).bind (un fun (n_3:Int)=>un fun (agy:Int)=>un fun (cB:Int) (rf:Bool)=>
  some [.int .i64 n_3,.int .i64 (IntKind.wrap .i64 (agy+1))])
theorem agz {ak ay:Int} {aj:List V} {dI:Int} {r:Option (List V)} (h:Xe CC ak ay aj dI=r):CC vN [.int .i64 ak,.int .i64 ay,.list ab aj,.int .i64 dI]=r:=
 bn (key:=22) (L:=Xd CC) (bs:=[.loop (aq [1,1,0,1,0,0] Xc)]) (by kernel_rfl) (aZ (agx CC) aw) (bm (by kernel_rfl) h)
noncomputable abbrev zd:Code:=bU Tryz.prog (az.aT 21)
noncomputable def dL (C:af) (letters k':Int) (ok t39:Bool) (dy df:Int) (cw:List V) {β:Type} (kr:(Bool)→Option β):Option β:=
 bif t39 then
  bif ok then
  bif decide ((df:Int)≥0) then
   kr (decide ((df:Int)<letters))
  else
   kr false
  else
  kr false
 else
  bif ok then
  kr ((df:Int)==0)
  else
  kr false
noncomputable def ze (C:af) (letters k' dy df:Int) (cw:List V) (ok:Bool) (i:Int) {β:Type} (kn:(Bool × Int)→Option β) (kr:(Bool × Int × Bool)→Option β):Option β:=
 bif decide ((i:Int)<k') then
  bif ok then
  (idx cw i).bind fun x2=>
  (C yD [.int .i64 ((x2.cell 0).toInt),.int .i64 ((x2.cell 1).toInt),.list ab ((x2.cell 2).toList),.int .i64 letters]).bind fun r3=>
  kn ((V.nth r3 0).toBool,IntKind.wrap .i64 (i+1))
  else
  kr (ok,i,ok)
 else
  kr (ok,i,false)
noncomputable def dE (C:af) (letters k' dy df:Int) (cw:List V):(Bool × Int)→Option ((Bool × Int) ⊕ (Bool × Int × Bool)):=un fun ok i=>ze C letters k' dy df cw ok i (fun y=>some (.inl y)) (fun r=>some (.inr r))
noncomputable def Xf (C:af):cj:=fun β n ds k=>
 bif Nat.beq n 639 then fM Nb [[1,2,0,5,6,7]] (@dL C) ds k else
 bif Nat.beq n 257 then bt Nc [false,false,true,true,false,false,false] [[1,2,0,0,0,5,6,7]] (@ze C) ds k else
 none
abbrev Xg (C:af) (b:cg):Prop:=ch Tryz.prog az C (Xf C) 21 (cv Tryz.prog (az.aT 21)) (az.sin 21).bf.length b
theorem agA (C:af):Xg C (.cond 39 (aq [1,1,1,1,0,1,0] zd) (aq [1,1,1,1,0,1,1] zd)):=
 fX Nb [[1,2,0,5,6,7]] (@dL C) (by kernel_rfl) (aM (bs:=[]) (by kernel_rfl) aw) (aM (bs:=[]) (by kernel_rfl) aw) (fun ds=>by kernel_rfl) (fun i β k=>by kernel_rfl) (fun β ds k=>by kernel_rfl)
theorem agB (C:af):Xg C (.loop (aq [1,1,1,1,1,0,1,0,0] zd)):=
 bw Nc [false,false,true,true,false,false,false] [[1,2,0,0,0,5,6,7]] (@ze C) (by kernel_rfl) (aM (bs:=[]) (by kernel_rfl) aw) (fun ds=>by kernel_rfl) (fun i x=>by kernel_rfl) (fun i x β k=>by kernel_rfl) (fun β ds k=>by kernel_rfl)
noncomputable def Xh (C:af) (ak ay:Int) (aj:List V) (letters:Int):Option (List V):=
 bif decide ((ak:Int)≥1) then
  bif (ak:Int)==1 then
  bif (ak:Int)==1 then
   dL C letters (aj.length:Int) (((aj.length:Int):Int)==0) ((ak:Int)==3) ak ay aj (fun (agC:Bool)=>
    (Loop (dE C letters (aj.length:Int) ak ay aj) (agC,0)).bind (un fun (agD:Bool)=>un fun (cB:Int) (rf:Bool)=>
     some [.bool agD]))
  else
   bif (ak:Int)==7 then
   bif (ak:Int)==7 then
    dL C letters (aj.length:Int) (((aj.length:Int):Int)==1) ((ak:Int)==3) ak ay aj (fun (agE:Bool)=>
     (Loop (dE C letters (aj.length:Int) ak ay aj) (agE,0)).bind (un fun (agF:Bool)=>un fun (i_9:Int) (O7:Bool)=>
      some [.bool agF]))
   else
    bif decide ((ak:Int)≤8) then
    dL C letters (aj.length:Int) (decide (((aj.length:Int):Int)≥2)) ((ak:Int)==3) ak ay aj (fun (agG:Bool)=>
     (Loop (dE C letters (aj.length:Int) ak ay aj) (agG,0)).bind (un fun (agH:Bool)=>un fun (apf:Int) (v5:Bool)=>
      some [.bool agH]))
    else
    dL C letters (aj.length:Int) false ((ak:Int)==3) ak ay aj (fun (agI:Bool)=>
     (Loop (dE C letters (aj.length:Int) ak ay aj) (agI,0)).bind (un fun (agJ:Bool)=>un fun (apg:Int) (Pb:Bool)=>
      some [.bool agJ]))
   else
   bif (ak:Int)==8 then
    dL C letters (aj.length:Int) (((aj.length:Int):Int)==1) ((ak:Int)==3) ak ay aj (fun (agK:Bool)=>
     (Loop (dE C letters (aj.length:Int) ak ay aj) (agK,0)).bind (un fun (agL:Bool)=>un fun (aph:Int) (y9:Bool)=>
      some [.bool agL]))
   else
    bif decide ((ak:Int)≤8) then
    dL C letters (aj.length:Int) (decide (((aj.length:Int):Int)≥2)) ((ak:Int)==3) ak ay aj (fun (agM:Bool)=>
     (Loop (dE C letters (aj.length:Int) ak ay aj) (agM,0)).bind (un fun (agN:Bool)=>un fun (api:Int) (CT:Bool)=>
      some [.bool agN]))
    else
    dL C letters (aj.length:Int) false ((ak:Int)==3) ak ay aj (fun (agO:Bool)=>
     (Loop (dE C letters (aj.length:Int) ak ay aj) (agO,0)).bind (un fun (agP:Bool)=>un fun (apj:Int) (CU:Bool)=>
      some [.bool agP]))
  else
  bif (ak:Int)==2 then
   bif (ak:Int)==2 then
   dL C letters (aj.length:Int) (((aj.length:Int):Int)==0) ((ak:Int)==3) ak ay aj (fun (agQ:Bool)=>
    (Loop (dE C letters (aj.length:Int) ak ay aj) (agQ,0)).bind (un fun (agR:Bool)=>un fun (apk:Int) (agm:Bool)=>
     some [.bool agR]))
   else
   bif (ak:Int)==7 then
    bif (ak:Int)==7 then
    dL C letters (aj.length:Int) (((aj.length:Int):Int)==1) ((ak:Int)==3) ak ay aj (fun (agS:Bool)=>
     (Loop (dE C letters (aj.length:Int) ak ay aj) (agS,0)).bind (un fun (agT:Bool)=>un fun (Xi:Int) (IJ:Bool)=>
      some [.bool agT]))
    else
    bif decide ((ak:Int)≤8) then
     dL C letters (aj.length:Int) (decide (((aj.length:Int):Int)≥2)) ((ak:Int)==3) ak ay aj (fun (agU:Bool)=>
      (Loop (dE C letters (aj.length:Int) ak ay aj) (agU,0)).bind (un fun (agV:Bool)=>un fun (apl:Int) (Pf:Bool)=>
       some [.bool agV]))
    else
     dL C letters (aj.length:Int) false ((ak:Int)==3) ak ay aj (fun (agW:Bool)=>
      (Loop (dE C letters (aj.length:Int) ak ay aj) (agW,0)).bind (un fun (agX:Bool)=>un fun (apm:Int) (agq:Bool)=>
       some [.bool agX]))
   else
    bif (ak:Int)==8 then
    dL C letters (aj.length:Int) (((aj.length:Int):Int)==1) ((ak:Int)==3) ak ay aj (fun (agY:Bool)=>
     (Loop (dE C letters (aj.length:Int) ak ay aj) (agY,0)).bind (un fun (agZ:Bool)=>un fun (apn:Int) (W8:Bool)=>
      some [.bool agZ]))
    else
    bif decide ((ak:Int)≤8) then
     dL C letters (aj.length:Int) (decide (((aj.length:Int):Int)≥2)) ((ak:Int)==3) ak ay aj (fun (ag0:Bool)=>
      (Loop (dE C letters (aj.length:Int) ak ay aj) (ag0,0)).bind (un fun (ag1:Bool)=>un fun (apo:Int) (W9:Bool)=>
       some [.bool ag1]))
    else
     dL C letters (aj.length:Int) false ((ak:Int)==3) ak ay aj (fun (ag2:Bool)=>
      (Loop (dE C letters (aj.length:Int) ak ay aj) (ag2,0)).bind (un fun (ag3:Bool)=>un fun (apq:Int) (apr:Bool)=>
       some [.bool ag3]))
  else
   bif (ak:Int)==3 then
   dL C letters (aj.length:Int) (((aj.length:Int):Int)==0) ((ak:Int)==3) ak ay aj (fun (ag4:Bool)=>
    (Loop (dE C letters (aj.length:Int) ak ay aj) (ag4,0)).bind (un fun (ag5:Bool)=>un fun (aps:Int) (apt:Bool)=>
     some [.bool ag5]))
   else
   bif (ak:Int)==7 then
    bif (ak:Int)==7 then
    dL C letters (aj.length:Int) (((aj.length:Int):Int)==1) ((ak:Int)==3) ak ay aj (fun (ag6:Bool)=>
     (Loop (dE C letters (aj.length:Int) ak ay aj) (ag6,0)).bind (un fun (ag7:Bool)=>un fun (apu:Int) (apv:Bool)=>
      some [.bool ag7]))
    else
    bif decide ((ak:Int)≤8) then
     dL C letters (aj.length:Int) (decide (((aj.length:Int):Int)≥2)) ((ak:Int)==3) ak ay aj (fun (ag8:Bool)=>
      (Loop (dE C letters (aj.length:Int) ak ay aj) (ag8,0)).bind (un fun (ag9:Bool)=>un fun (apw:Int) (apx:Bool)=>
       some [.bool ag9]))
    else
     dL C letters (aj.length:Int) false ((ak:Int)==3) ak ay aj (fun (aha:Bool)=>
      (Loop (dE C letters (aj.length:Int) ak ay aj) (aha,0)).bind (un fun (ahb:Bool)=>un fun (apy:Int) (apz:Bool)=>
       some [.bool ahb]))
   else
    bif (ak:Int)==8 then
    dL C letters (aj.length:Int) (((aj.length:Int):Int)==1) ((ak:Int)==3) ak ay aj (fun (ahc:Bool)=>
     (Loop (dE C letters (aj.length:Int) ak ay aj) (ahc,0)).bind (un fun (ahd:Bool)=>un fun (apA:Int) (apB:Bool)=>
      some [.bool ahd]))
    else
    bif decide ((ak:Int)≤8) then
     dL C letters (aj.length:Int) (decide (((aj.length:Int):Int)≥2)) ((ak:Int)==3) ak ay aj (fun (ahe:Bool)=>
      (Loop (dE C letters (aj.length:Int) ak ay aj) (ahe,0)).bind (un fun (ahf:Bool)=>un fun (apC:Int) (apD:Bool)=>
       some [.bool ahf]))
    else
     dL C letters (aj.length:Int) false ((ak:Int)==3) ak ay aj (fun (ahg:Bool)=>
      (Loop (dE C letters (aj.length:Int) ak ay aj) (ahg,0)).bind (un fun (ahh:Bool)=>un fun (apE:Int) (apF:Bool)=>
       some [.bool ahh]))
 else
  bif (ak:Int)==1 then
  bif (ak:Int)==1 then
   dL C letters (aj.length:Int) (((aj.length:Int):Int)==0) ((ak:Int)==3) ak ay aj (fun (ahi:Bool)=>
    (Loop (dE C letters (aj.length:Int) ak ay aj) (ahi,0)).bind (un fun (ahj:Bool)=>un fun (apG:Int) (apH:Bool)=>
     some [.bool ahj]))
  else
   bif (ak:Int)==7 then
   bif (ak:Int)==7 then
    dL C letters (aj.length:Int) (((aj.length:Int):Int)==1) ((ak:Int)==3) ak ay aj (fun (ahk:Bool)=>
     (Loop (dE C letters (aj.length:Int) ak ay aj) (ahk,0)).bind (un fun (ahl:Bool)=>un fun (apI:Int) (apJ:Bool)=>
      some [.bool ahl]))
   else
    dL C letters (aj.length:Int) false ((ak:Int)==3) ak ay aj (fun (ahm:Bool)=>
     (Loop (dE C letters (aj.length:Int) ak ay aj) (ahm,0)).bind (un fun (ahn:Bool)=>un fun (apK:Int) (apL:Bool)=>
      some [.bool ahn]))
   else
   bif (ak:Int)==8 then
    dL C letters (aj.length:Int) (((aj.length:Int):Int)==1) ((ak:Int)==3) ak ay aj (fun (aho:Bool)=>
     (Loop (dE C letters (aj.length:Int) ak ay aj) (aho,0)).bind (un fun (ahp:Bool)=>un fun (apM:Int) (apO:Bool)=>
      some [.bool ahp]))
   else
    dL C letters (aj.length:Int) false ((ak:Int)==3) ak ay aj (fun (ahq:Bool)=>
     (Loop (dE C letters (aj.length:Int) ak ay aj) (ahq,0)).bind (un fun (ahr:Bool)=>un fun (apP:Int) (apQ:Bool)=>
      some [.bool ahr]))
  else
  bif (ak:Int)==2 then
   bif (ak:Int)==2 then
   dL C letters (aj.length:Int) (((aj.length:Int):Int)==0) ((ak:Int)==3) ak ay aj (fun (ahs:Bool)=>
    (Loop (dE C letters (aj.length:Int) ak ay aj) (ahs,0)).bind (un fun (aht:Bool)=>un fun (apR:Int) (apS:Bool)=>
     some [.bool aht]))
   else
   bif (ak:Int)==7 then
    bif (ak:Int)==7 then
    dL C letters (aj.length:Int) (((aj.length:Int):Int)==1) ((ak:Int)==3) ak ay aj (fun (ahu:Bool)=>
     (Loop (dE C letters (aj.length:Int) ak ay aj) (ahu,0)).bind (un fun (ahv:Bool)=>un fun (apU:Int) (apV:Bool)=>
      some [.bool ahv]))
    else
    dL C letters (aj.length:Int) false ((ak:Int)==3) ak ay aj (fun (ahw:Bool)=>
     (Loop (dE C letters (aj.length:Int) ak ay aj) (ahw,0)).bind (un fun (ahx:Bool)=>un fun (apW:Int) (apX:Bool)=>
      some [.bool ahx]))
   else
    bif (ak:Int)==8 then
    dL C letters (aj.length:Int) (((aj.length:Int):Int)==1) ((ak:Int)==3) ak ay aj (fun (ahy:Bool)=>
     (Loop (dE C letters (aj.length:Int) ak ay aj) (ahy,0)).bind (un fun (ahz:Bool)=>un fun (apY:Int) (apZ:Bool)=>
      some [.bool ahz]))
    else
    dL C letters (aj.length:Int) false ((ak:Int)==3) ak ay aj (fun (ahA:Bool)=>
     (Loop (dE C letters (aj.length:Int) ak ay aj) (ahA,0)).bind (un fun (ahB:Bool)=>un fun (ap0:Int) (ap1:Bool)=>
      some [.bool ahB]))
  else
   bif (ak:Int)==3 then
   dL C letters (aj.length:Int) (((aj.length:Int):Int)==0) ((ak:Int)==3) ak ay aj (fun (ahC:Bool)=>
    (Loop (dE C letters (aj.length:Int) ak ay aj) (ahC,0)).bind (un fun (ahD:Bool)=>un fun (ap2:Int) (ap3:Bool)=>
     some [.bool ahD]))
   else
   bif (ak:Int)==7 then
    bif (ak:Int)==7 then
    dL C letters (aj.length:Int) (((aj.length:Int):Int)==1) ((ak:Int)==3) ak ay aj (fun (ahE:Bool)=>
     (Loop (dE C letters (aj.length:Int) ak ay aj) (ahE,0)).bind (un fun (ahF:Bool)=>un fun (ap4:Int) (ap5:Bool)=>
      some [.bool ahF]))
    else
    dL C letters (aj.length:Int) false ((ak:Int)==3) ak ay aj (fun (ahG:Bool)=>
     (Loop (dE C letters (aj.length:Int) ak ay aj) (ahG,0)).bind (un fun (ahH:Bool)=>un fun (ap6:Int) (ap7:Bool)=>
      some [.bool ahH]))
   else
    bif (ak:Int)==8 then
    dL C letters (aj.length:Int) (((aj.length:Int):Int)==1) ((ak:Int)==3) ak ay aj (fun (ahI:Bool)=>
     (Loop (dE C letters (aj.length:Int) ak ay aj) (ahI,0)).bind (un fun (ahJ:Bool)=>un fun (ap8:Int) (ap9:Bool)=>
      some [.bool ahJ]))
    else
    dL C letters (aj.length:Int) false ((ak:Int)==3) ak ay aj (fun (ahK:Bool)=>
     (Loop (dE C letters (aj.length:Int) ak ay aj) (ahK,0)).bind (un fun (ahL:Bool)=>un fun (aqa:Int) (aqb:Bool)=>
      some [.bool ahL]))
theorem ahM {ak ay:Int} {aj:List V} {letters:Int} {r:Option (List V)} (h:Xh CC ak ay aj letters=r):CC yD [.int .i64 ak,.int .i64 ay,.list ab aj,.int .i64 letters]=r:=
 bn (key:=21) (L:=Xf CC) (bs:=[.cond 39 (aq [1,1,1,1,0,1,0] zd) (aq [1,1,1,1,0,1,1] zd),.loop (aq [1,1,1,1,1,0,1,0,0] zd)]) (by kernel_rfl) (aZ (agA CC) (aZ (agB CC) aw)) (bm (by kernel_rfl) h)
noncomputable def Xj (C:af) (letters:Int):Option (List V):=
 bif decide ((letters:Int)≥1) then
  some [.bool (decide ((letters:Int)≤6))]
 else
  some [.bool false]
theorem ahN {letters:Int} {r:Option (List V)} (h:Xj CC letters=r):CC HQ [.int .i64 letters]=r:=
 bn (key:=19) (L:=cS) (bs:=[]) (by kernel_rfl) aw (bm (by kernel_rfl) h)
end Go.AM
set_option maxRecDepth 100000
namespace Go.AM
open Go.Proofs Ex
theorem fq (pre aA:List Ex) (k:Ex):idx ((pre++k::aA).map enc) (pre.length:Int)=some k.enc:=by
 rw[yo];simp
theorem aH (k:Ex):(k.enc.cell 0).toInt=k.op:=by rw[fS];simp
theorem aN (k:Ex):(k.enc.cell 1).toInt=k.letter:=by rw[fS];simp
theorem aK (k:Ex):(k.enc.cell 2).toList=k.kids.map enc:=by rw[fS];simp
theorem ahO {ks:List Ex} (hlen:ks.length≤maxLen) {d:Int} (hd:0≤d∧d≤1000) (ih: ∀k∈ks,∀d l:Int,0≤d→d≤1000→0≤l→l≤1000→∃l',CC yO (ct k [.int .i64 d,.int .i64 l])=some [.bool (decide ((k.depth:Int)≤d∧(k.size:Int)≤l)),.int .i64 l']∧0≤l'∧l'≤l∧(((k.depth:Int)≤d∧(k.size:Int)≤l)→l'=l-k.size)):
  ∀(aA pre:List Ex) (l:Int),ks=pre++aA→0≤l→l≤1000→1≤d→
  (∃l':Int,Loop (vZ CC d (ks.map enc) ((ks.map enc).length:Int)) (((pre.length:Nat):Int),l)=some (.inl (false,l'))∧¬((ln aA:Int)≤d-1∧(aF aA:Int)≤l)∧0≤l'∧l'≤l)∨
  (∃i b,Loop (vZ CC d (ks.map enc) ((ks.map enc).length:Int)) (((pre.length:Nat):Int),l)=some (.inr (i,b,l-aF aA))∧((ln aA:Int)≤d-1∧(aF aA:Int)≤l)):=by
 intro aA
 induction aA with
 | nil=>
  intro pre l bd h0 h1 Hm
  subst bd
  refine .inr ⟨((pre.length:Nat):Int),false,?_,?_⟩
  ·have hz:l-((aF ([]:List Ex):Nat):Int)=l:=by simp only[aF];omega
   rw[hz]
   refine aG ?_
   simp only[vZ,y7,un,dc,aC,ar]
   rw[ah (by omega)]
   simp
  ·simp only[ln,aF];omega
 | cons k aA iX=>
  intro pre l bd h0 h1 Hm
  obtain ⟨l',e1,e2,e3,e4⟩:=ih k (by rw[bd];simp) (d-1) l (by omega) (by omega) h0 h1
  have bM:pre.length<ks.length:=by rw[bd];simp
  have:=oU
  have cf:idx (ks.map enc) (pre.length:Int)=some k.enc:=by rw[bd];exact fq _ _ _
  by_cases hk:(k.depth:Int)≤d-1∧(k.size:Int)≤l
  ·have jx:vZ CC d (ks.map enc) ((ks.map enc).length:Int) (((pre.length:Nat):Int),l)=some (.inl ((((pre++[k]).length:Nat):Int),l')):=by
    simp only[vZ,y7,un,aC,ar]
    rw[ag (by omega),cf]
    simp only[Option.bind_some,aH,aN,aK]
    rw[wrap64 (by omega) (by omega),e1]
    simp only[Option.bind_some,V.aD,V.cI,dC hk,oj,cond_false,fm,eM,V.toInt_int]
    rw[wrap64 (by omega) (by omega)]
    simp
   rw[br jx]
   have e5:=e4 hk
   rcases iX (pre++[k]) l' (by rw[bd];simp) e2 (by omega) Hm with ⟨l2,q1,q2,q3,q4⟩|⟨i,b,q1,q2⟩
   ·refine .inl ⟨l2,q1,?_,q3,by omega⟩
    simp only[ln,aF];omega
   ·refine .inr ⟨i,b,q1.trans ?_,?_⟩
    ·simp only[aF]
     congr 4
     omega
    ·simp only[ln,aF];omega
  ·refine .inl ⟨l',aG ?_,?_,e2,e3⟩
   ·simp only[vZ,y7,un,aC,ar]
    rw[ag (by omega),cf]
    simp only[Option.bind_some,aH,aN,aK]
    rw[wrap64 (by omega) (by omega),e1]
    simp only[Option.bind_some,V.aD,V.cI,cL hk,qq,cond_true,fm,eM,V.toInt_int]
   ·simp only[ln,aF];omega
theorem ahP: ∀e:Ex,e.Ok→∀d l:Int,0≤d→d≤1000→0≤l→l≤1000→
  ∃l',CC yO (ct e [.int .i64 d,.int .i64 l])=some [.bool (decide ((e.depth:Int)≤d∧(e.size:Int)≤l)),.int .i64 l']∧0≤l'∧l'≤l∧(((e.depth:Int)≤d∧(e.size:Int)≤l)→l'=l-e.size):=
 ind fun o lt ks ih ax d l h1 h2 h3 h4=>by
  have pB: ∀k∈ks,_:=fun k hk=>ih k hk (ax.lp k hk)
  have hs: ∀e:Ex,e= .node o lt ks→e.size=1+aF ks∧e.depth=1+ln ks:=by rintro e rfl;constructor<;>simp only[size,depth]
  obtain ⟨s1,s2⟩:=hs _ rfl
  by_cases hd:d=0
  ·have hn: ¬(((Ex.node o lt ks).depth:Int)≤d∧((Ex.node o lt ks).size:Int)≤l):=by omega
   refine ⟨l,II ?_,h3,Int.le_refl _,fun h=>absurd h hn⟩
   simp only[CO,cq,ag hd,cL hn]
  ·by_cases hl:l=0
   ·have hn: ¬(((Ex.node o lt ks).depth:Int)≤d∧((Ex.node o lt ks).size:Int)≤l):=by omega
    refine ⟨l,II ?_,h3,Int.le_refl _,fun h=>absurd h hn⟩
    simp only[CO,cq,ah hd,ag hl,cL hn]
   ·rcases ahO ax.len ⟨h1,h2⟩ pB ks [] (l-1) rfl (by omega) (by omega) (by omega) with ⟨l',q1,q2,q3,q4⟩|⟨i,b,q1,q2⟩
    ·have hn: ¬(((Ex.node o lt ks).depth:Int)≤d∧((Ex.node o lt ks).size:Int)≤l):=by omega
     refine ⟨l',II ?_,q3,by omega,fun h=>absurd h hn⟩
     simp only[CO,cq,ah hd,ah hl,cL hn,Ex.kids]
     rw[wrap64 (by omega) (by omega)]
     simp only[List.length_nil,Int.ofNat_zero,Int.natCast_zero] at q1
     erw [q1]
     rfl
    ·have hn:(((Ex.node o lt ks).depth:Int)≤d∧((Ex.node o lt ks).size:Int)≤l):=by omega
     refine ⟨l-1-aF ks,II ?_,by omega,by omega,fun _=>by omega⟩
     simp only[CO,cq,ah hd,ah hl,dC hn,Ex.kids]
     rw[wrap64 (by omega) (by omega)]
     simp only[List.length_nil,Int.ofNat_zero,Int.natCast_zero] at q1
     erw [q1]
     rfl
theorem ahQ (e:Ex) (h:e.Ok):CC H3 (ct e [])=some [.bool (decide (e.depth≤40∧e.size≤400))]:=by
 obtain ⟨l',e1,_⟩:=ahP e h 40 400 (by omega) (by omega) (by omega) (by omega)
 refine age ?_
 simp only[WW]
 rw[e1]
 simp only[Option.bind_some,V.aD,V.cI]
 congr 3
 rw[xg]
 omega
theorem ahR {ks:List Ex} (hlen:ks.length≤maxLen) {a b dI:Int} (hm:1≤dI∧dI≤1000) (ih: ∀k∈ks,∃d,CC vN (ct k [.int .i64 dI])=some [.int .i64 (min (k.size:Int) (dI+1)),.int .i64 d]∧((k.size:Int)≤dI→d=k.depth)):
  ∀(aA pre:List Ex) (n deep:Int),ks=pre++aA→1≤n→n≤dI+1→0≤deep→
  ∃zf i b',Loop (zc CC dI a b (ks.map enc)) (n,deep,((pre.length:Nat):Int))=some (min (n+(aF aA:Int)) (dI+1),zf,i,b')∧(n+(aF aA:Int)≤dI→zf=max deep (ln aA)):=by
 intro aA
 induction aA with
 | nil=>
  intro pre n deep bd h0 h1 hdp
  subst bd
  refine ⟨deep,((pre.length:Nat):Int),false,?_,fun _=> ?_⟩
  ·have hz:min (n+((aF ([]:List Ex):Nat):Int)) (dI+1)=n:=by simp only[aF];omega
   rw[hz]
   refine aG ?_
   simp only[zc,zb,un,dc,aC,ar]
   rw[ah (by omega)]
  ·simp only[ln];omega
 | cons k aA iX=>
  intro pre n deep bd h0 h1 hdp
  have bM:pre.length<ks.length:=by rw[bd];simp
  have:=oU
  have cf:idx (ks.map enc) (pre.length:Int)=some k.enc:=by rw[bd];exact fq _ _ _
  have hkp:=size_pos k
  by_cases hn:n≤dI
  ·obtain ⟨d,e1,e2⟩:=ih k (by rw[bd];simp)
   have jx: ∃dd,zc CC dI a b (ks.map enc) (n,deep,((pre.length:Nat):Int))=some (.inl (min (n+(k.size:Int)) (dI+1),dd,(((pre++[k]).length:Nat):Int)))∧dd=max deep d:=by
    refine ⟨max deep d,?_,rfl⟩
    simp only[zc,zb,un,aC,ar]
    rw[ag (by omega),ag hn,cf]
    simp only[Option.bind_some,aH,aN,aK]
    rw[e1]
    simp only[Option.bind_some,V.aD,fm,eM,V.toInt_int]
    rw[wrap64 (by omega) (by omega),wrap64 (by omega) (by omega),wrap64 (by omega) (by omega)]
    have r1:(if dI+1<n+min (k.size:Int) (dI+1) then dI+1 else n+min (k.size:Int) (dI+1))=min (n+(k.size:Int)) (dI+1):=by split<;>omega
    have r2:(if d>deep then d else deep)=max deep d:=by split<;>omega
    rw[r1,r2]
    simp
   obtain ⟨dd,jy,rfl⟩:=jx
   rw[br jy]
   obtain ⟨zf,i,b',q1,q2⟩:=iX (pre++[k]) (min (n+(k.size:Int)) (dI+1)) (max deep d) (by rw[bd];simp) (by omega) (by omega) (by omega)
   refine ⟨zf,i,b',q1.trans ?_,fun h=> ?_⟩
   ·simp only[aF]
    congr 2
    omega
   ·simp only[aF] at h
    rw[q2 (by omega),e2 (by omega)]
    simp only[ln]
    omega
  ·refine ⟨deep,((pre.length:Nat):Int),false,?_,fun h=> ?_⟩
   ·have hz:min (n+((aF (k::aA):Nat):Int)) (dI+1)=n:=by simp only[aF];omega
    rw[hz]
    refine aG ?_
    simp only[zc,zb,un,aC,ar]
    rw[ag (by omega),ah hn]
    simp[hn]
   ·omega
theorem Xk: ∀e:Ex,e.Ok→∀dI:Int,1≤dI→dI≤1000→∃d,CC vN (ct e [.int .i64 dI])=some [.int .i64 (min (e.size:Int) (dI+1)),.int .i64 d]∧((e.size:Int)≤dI→d=e.depth):=
 ind fun o lt ks ih ax dI h1 h2=>by
  obtain ⟨zf,i,b',q1,q2⟩:=ahR (a:=o) (b:=lt) ax.len ⟨h1,h2⟩ (fun k hk=>ih k hk (ax.lp k hk) dI h1 h2) ks [] 1 0 rfl (by omega) (by omega) (by omega)
  have s1:(Ex.node o lt ks).size=1+aF ks:=by simp only[size]
  have s2:(Ex.node o lt ks).depth=1+ln ks:=by simp only[depth]
  have s3:=agc (.node o lt ks)
  refine ⟨IntKind.wrap .i64 (zf+1),agz ?_,fun h=> ?_⟩
  ·simp only[Xe,Ex.kids,Ex.op,Ex.letter]
   simp only[List.length_nil,Int.ofNat_zero,Int.natCast_zero] at q1
   erw [q1]
   simp only[Option.bind_some,un]
   rw[show (1:Int)+(aF ks:Int)=((Ex.node o lt ks).size:Int) by omega]
  ·rw[q2 (by omega),wrap64 (by omega) (by omega)]
   omega
def iq (o l len letters:Int):Bool:=
 if o=3 then decide (len=0∧0≤l∧l<letters)
 else decide (l=0)&&(if o=1∨o=2 then decide (len=0) else if o=7∨o=8 then decide (len=1) else decide (4≤o∧o≤6∧2≤len))
mutual
def Ex.wf (letters:Int):Ex→Bool
 | .node o l ks=>iq o l ks.length letters&&iu letters ks
def Ex.iu (letters:Int):List Ex→Bool
 | []=>true
 | k::ks=>Ex.wf letters k&&iu letters ks
end
theorem ahS {ks:List Ex} (hlen:ks.length≤maxLen) {letters:Int} (ih: ∀k∈ks,CC yM (ct k [.int .i64 letters])=some [.bool (k.wf letters)]):
  ∀(aA pre:List Ex),ks=pre++aA→
  (Loop (gJ CC letters (ks.map enc) ((ks.map enc).length:Int)) ((pre.length:Nat):Int)=some (.inl false)∧iu letters aA=false)∨
  (∃i b,Loop (gJ CC letters (ks.map enc) ((ks.map enc).length:Int)) ((pre.length:Nat):Int)=some (.inr (i,b))∧iu letters aA=true):=by
 intro aA
 induction aA with
 | nil=>
  intro pre bd
  subst bd
  refine .inr ⟨((pre.length:Nat):Int),false,aG ?_,by simp only[iu]⟩
  simp only[gJ,y8,dc,aC,ar]
  rw[ah (by omega)]
  simp
 | cons k aA iX=>
  intro pre bd
  have bM:pre.length<ks.length:=by rw[bd];simp
  have:=oU
  have cf:idx (ks.map enc) (pre.length:Int)=some k.enc:=by rw[bd];exact fq _ _ _
  have e1:=ih k (by rw[bd];simp)
  cases hw:k.wf letters with
  | true=>
   have jx:gJ CC letters (ks.map enc) ((ks.map enc).length:Int) ((pre.length:Nat):Int)=some (.inl (((pre++[k]).length:Nat):Int)):=by
    simp only[gJ,y8,aC,ar]
    rw[ag (by omega),cf]
    simp only[Option.bind_some,aH,aN,aK]
    rw[e1,hw]
    simp only[Option.bind_some,V.aD,V.cI,oj,cond_false]
    rw[wrap64 (by omega) (by omega)]
    simp
   rw[br jx]
   simp only[iu,hw,lE]
   exact iX (pre++[k]) (by rw[bd];simp)
  | false=>
   refine .inl ⟨aG ?_,by simp only[iu,hw,Bool.false_and]⟩
   simp only[gJ,y8,aC,ar]
   rw[ag (by omega),cf]
   simp only[Option.bind_some,aH,aN,aK]
   rw[e1,hw]
   simp only[Option.bind_some,V.aD,V.cI,qq,cond_true]
theorem IK (o:Int):o=1∨o=2∨o=3∨o=4∨o=5∨o=6∨o=7∨o=8∨(o<1∨8<o):=by omega
theorem ahT {letters:Int}: ∀e:Ex,e.Ok→CC yM (ct e [.int .i64 letters])=some [.bool (e.wf letters)]:=
 ind fun o lt ks ih ax=>by
  refine agt ?_
  have hlen:((ks.map enc).length:Int)=(ks.length:Int):=by simp
  have hl:=ahS ax.len (fun k hk=>ih k hk (ax.lp k hk)) ks [] rfl
  simp only[List.length_nil,Int.natCast_zero,Int.ofNat_zero] at hl
  have oN:(Loop (gJ CC letters (ks.map enc) ((ks.map enc).length:Int)) 0).bind (bD (fun (t:Bool)=>some [V.bool t]) (un fun (_:Int) (_:Bool)=>some [V.bool true]))=some [.bool (iu letters ks)]:=by
   rcases hl with ⟨h1,h2⟩|⟨i,b,h1,h2⟩
   ·erw [h1];rw[h2];rfl
   ·erw [h1];rw[h2];rfl
  simp only[Ex.op,Ex.letter,Ex.kids]
  unfold W3
  rw[oN,hlen]
  simp only[Ex.wf,iq]
  have oX:ks.length=0→iu letters ks=true:=fun h=>by rw[mg h];simp only[iu]
  rcases IK o with rfl|rfl|rfl|rfl|rfl|rfl|rfl|rfl|ho
  case inr.inr.inr.inr.inr.inr.inr.inr=>
   have n1:o≠1:=by omega
   have n2:o≠2:=by omega
   have n3:o≠3:=by omega
   have n4:o≠4:=by omega
   have n5:o≠5:=by omega
   have n6:o≠6:=by omega
   have n7:o≠7:=by omega
   have n8:o≠8:=by omega
   have n9: ¬(4≤o∧o≤6∧2≤(ks.length:Int)):=by omega
   by_cases aR:lt=0<;>simp[n1,n2,n3,n4,n5,n6,n7,n8,n9,aR]
  all_goals by_cases aR:lt=0<;>by_cases h0:ks.length=0<;>by_cases h1:ks.length=1<;>simp[aR,h0,h1,oX]
  all_goals (try omega)
  all_goals (try (split<;>simp_all<;>omega))
theorem ahU {C:af} {letters k o lt:Int} {ok t:Bool} {es:List V} {β:Type} (kr:Bool→Option β):dL C letters k ok t o lt es kr=kr (ok&&(bif t then decide (0≤lt∧lt<letters) else decide (lt=0))):=by
 unfold dL
 have hb:(lt==0)=decide (lt=0):=by rw[te];simp
 rw[hb]
 cases t<;>cases ok<;>first|rfl|skip
 by_cases h:0≤lt<;>simp[h]
theorem ahV {ks:List Ex} (hlen:ks.length≤maxLen) {letters o lt:Int} (ih: ∀k∈ks,CC yD (ct k [.int .i64 letters])=some [.bool (k.wf letters)]):
  ∀(aA pre:List Ex) (ok:Bool),ks=pre++aA→
  ∃i b,Loop (dE CC letters (ks.length:Int) o lt (ks.map enc)) (ok,((pre.length:Nat):Int))=some (ok&&iu letters aA,i,b):=by
 intro aA
 induction aA with
 | nil=>
  intro pre ok bd
  subst bd
  refine ⟨((pre.length:Nat):Int),false,aG ?_⟩
  simp only[dE,ze,un,dc,ar]
  rw[ah (by omega)]
  simp[iu]
 | cons k aA iX=>
  intro pre ok bd
  have bM:pre.length<ks.length:=by rw[bd];simp
  have:=oU
  have cf:idx (ks.map enc) (pre.length:Int)=some k.enc:=by rw[bd];exact fq _ _ _
  have e1:=ih k (by rw[bd];simp)
  cases ok with
  | true=>
   have jx:dE CC letters (ks.length:Int) o lt (ks.map enc) (true,((pre.length:Nat):Int))=some (.inl (k.wf letters,(((pre++[k]).length:Nat):Int))):=by
    simp only[dE,ze,un,ar,cond_true]
    rw[ag (by omega),cf]
    simp only[Option.bind_some,aH,aN,aK]
    rw[e1]
    simp only[Option.bind_some,V.aD,V.cI]
    rw[wrap64 (by omega) (by omega)]
    simp
   rw[br jx]
   simp only[iu,lE]
   exact iX (pre++[k]) _ (by rw[bd];simp)
  | false=>
   refine ⟨((pre.length:Nat):Int),false,aG ?_⟩
   simp only[dE,ze,un,ar,cond_false]
   rw[ag (by omega)]
   simp
theorem ahW {letters:Int}: ∀e:Ex,e.Ok→CC yD (ct e [.int .i64 letters])=some [.bool (e.wf letters)]:=
 ind fun o lt ks ih ax=>by
  refine ahM ?_
  have hlen:((ks.map enc).length:Int)=(ks.length:Int):=by simp
  have oN: ∀ok:Bool,(Loop (dE CC letters (ks.length:Int) o lt (ks.map enc)) (ok,0)).bind (un fun (ok:Bool)=>un fun (_:Int) (_:Bool)=>some [V.bool ok])=some [.bool (ok&&iu letters ks)]:=by
   intro ok
   obtain ⟨i,b,h⟩:=ahV ax.len (o:=o) (lt:=lt) (fun k hk=>ih k hk (ax.lp k hk)) ks [] ok rfl
   simp only[List.length_nil,Int.natCast_zero,Int.ofNat_zero] at h
   erw [h];rfl
  simp only[Ex.op,Ex.letter,Ex.kids]
  unfold Xh
  simp only[ahU,hlen,oN]
  simp only[Ex.wf,iq]
  have oX:ks.length=0→iu letters ks=true:=fun h=>by rw[mg h];simp only[iu]
  rcases IK o with rfl|rfl|rfl|rfl|rfl|rfl|rfl|rfl|ho
  case inr.inr.inr.inr.inr.inr.inr.inr=>
   have n1:o≠1:=by omega
   have n2:o≠2:=by omega
   have n3:o≠3:=by omega
   have n4:o≠4:=by omega
   have n5:o≠5:=by omega
   have n6:o≠6:=by omega
   have n7:o≠7:=by omega
   have n8:o≠8:=by omega
   have n9: ¬(4≤o∧o≤6∧2≤(ks.length:Int)):=by omega
   by_cases h1:1≤o
   ·have h2: ¬o≤8:=by omega
    simp[n1,n2,n3,n4,n5,n6,n7,n8,n9,h1,h2]
   ·simp[n1,n2,n3,n4,n5,n6,n7,n8,n9,h1]
  all_goals by_cases aR:lt=0<;>by_cases h0:ks.length=0<;>by_cases h1:ks.length=1<;>simp[aR,h0,h1,oX]
  all_goals (try omega)
  all_goals (try (split<;>simp_all<;>omega))
  all_goals (try (by_cases h5:2≤ks.length<;>simp[h5]))
  all_goals (rw[show ((ks.length:Int)==1)=decide ((ks.length:Int)=1) from by rw[te];simp])
theorem ahX (letters:Int):CC HQ [.int .i64 letters]=some [.bool (decide (1≤letters∧letters≤6))]:=by
 refine ahN ?_
 unfold Xj
 by_cases h1:1≤letters<;>by_cases h2:letters≤6<;>simp[h1,h2]
theorem ahY (e:Ex) (h:e.Ok):CC HR (ct e [])=some [.bool (decide (e.depth≤40∧e.size≤400))]:=by
 obtain ⟨d,e1,e2⟩:=Xk e h 400 (by omega) (by omega)
 refine agv ?_
 unfold Xb
 rw[e1]
 simp only[Option.bind_some,V.aD,V.toInt_int,ar,fm,eM]
 by_cases hs:e.size≤400
 ·rw[ag (by omega),e2 (by omega)]
  congr 3
  rw[xg]
  omega
 ·rw[ah (by omega)]
  congr 3
  simp[hs]
def Ex.val (e:Ex) (letters:Int):Int:=
 if 1≤letters∧letters≤6 then (if e.depth≤40∧e.size≤400 then (if e.wf letters=true then 0 else 4) else 3) else 1
theorem Xl (e:Ex) (h:e.Ok) (letters:Int):CC Cn (ct e [.int .i64 letters])=some [.int .i64 (e.val letters)]:=by
 refine agd ?_
 unfold WV Ex.val
 rw[ahQ e h,ahT e h]
 by_cases h1:1≤letters
 ·by_cases h2:letters≤6
  ·by_cases h3:e.depth≤40∧e.size≤400
   ·cases h4:e.wf letters<;>simp[h1,h2,h3,show¬letters<1 by omega,show¬6<letters by omega]
   ·simp[h1,h2,h3,show¬letters<1 by omega,show¬6<letters by omega]
  ·simp[h1,h2,show¬letters<1 by omega,show 6<letters by omega]
 ·simp[h1,show letters<1 by omega]
theorem Xm (e:Ex) (h:e.Ok) (letters:Int):CC Cl (ct e [.int .i64 letters])=some [.int .i64 (e.val letters)]:=by
 refine agu ?_
 unfold Xa Ex.val
 rw[ahY e h,ahW e h,ahX]
 by_cases h1:1≤letters∧letters≤6
 ·by_cases h3:e.depth≤40∧e.size≤400
  ·cases h4:e.wf letters<;>simp[h1,h3]
  ·simp[h1,h3]
 ·simp[h1]
end Go.AM
set_option maxRecDepth 100000
namespace Go.AM
open Go.Proofs
noncomputable def Xn (C:af) (eH eI:Int) (e9:List V) (eJ eK:Int) (fa:List V):Option (List V):=
 bif (eH:Int) != eJ then
  (C qV [.int .i64 eH,.int .i64 eJ]).bind fun r1=>
  some [.int .i64 ((V.nth r1 0).toInt)]
 else
  bif (eI:Int) != eK then
  (C qV [.int .i64 eI,.int .i64 eK]).bind fun r2=>
  some [.int .i64 ((V.nth r2 0).toInt)]
  else
  (C HZ [.list ab e9,.list ab fa]).bind fun r3=>
  some [.int .i64 ((V.nth r3 0).toInt)]
theorem ahZ {eH eI:Int} {e9:List V} {eJ eK:Int} {fa:List V} {r:Option (List V)} (h:Xn CC eH eI e9 eJ eK fa=r):CC bu [.int .i64 eH,.int .i64 eI,.list ab e9,.int .i64 eJ,.int .i64 eK,.list ab fa]=r:=
 bn (key:=29) (L:=cS) (bs:=[]) (by kernel_rfl) aw (bm (by kernel_rfl) h)
noncomputable abbrev Xo:Code:=bU Tryz.prog (az.aT 66)
noncomputable def wa (C:af) (s1 s2 t11:List V) (t12 t13:Int) {β:Type} (kn:Int→Option β) (kr:((Int) ⊕ (Int × Bool))→Option β):Option β:=
 bif decide ((t13:Int)<t12) then
  (idx t11 t13).bind fun x1=>
  bif decide ((t13:Int)≥(s2.length:Int)) then
  kr (.inl 1)
  else
  (idx s2 t13).bind fun x2=>
  (C bu [.int .i64 ((x1.cell 0).toInt),.int .i64 ((x1.cell 1).toInt),.list ab ((x1.cell 2).toList),.int .i64 ((x2.cell 0).toInt),.int .i64 ((x2.cell 1).toInt),.list ab ((x2.cell 2).toList)]).bind fun r3=>
  bif (((V.nth r3 0).toInt):Int) != 0 then
   kr (.inl ((V.nth r3 0).toInt))
  else
   kn (IntKind.wrap .i64 (t13+1))
 else
  kr (.inr (t13,decide ((t13:Int)<t12)))
noncomputable def tW (C:af) (s1 s2 t11:List V) (t12:Int):(Int)→Option ((Int) ⊕ ((Int) ⊕ (Int × Bool))):=fun t13=>wa C s1 s2 t11 t12 t13 (fun y=>some (.inl y)) (fun r=>some (.inr r))
noncomputable def Xp (C:af):cj:=fun β n ds k=>
 bif Nat.beq n 33 then bt NJ [false,false,false,false,true] [[0],[1,2,3,4,0,0]] (@wa C) ds k else
 none
abbrev ah0 (C:af) (b:cg):Prop:=ch Tryz.prog az C (Xp C) 66 (cv Tryz.prog (az.aT 66)) (az.sin 66).bf.length b
theorem ah1 (C:af):ah0 C (.loop (aq [1,0,1,0,0] Xo)):=
 bw NJ [false,false,false,false,true] [[0],[1,2,3,4,0,0]] (@wa C) (by kernel_rfl) (aM (bs:=[]) (by kernel_rfl) aw) (fun ds=>by kernel_rfl) (fun i x=>by kernel_rfl) (fun i x β k=>by kernel_rfl) (fun β ds k=>by kernel_rfl)
noncomputable def Xq (C:af) (s1 s2:List V):Option (List V):=
 (Loop (tW C s1 s2 s1 (s1.length:Int)) 0).bind (bD (fun (jJ:Int)=>
  some [.int .i64 jJ]) (un fun (kF:Int) (rf:Bool)=>
  bif decide (((s1.length:Int):Int)<(s2.length:Int)) then
   some [.int .i64 (-1)]
  else
   some [.int .i64 0]))
theorem ah2 {s1 s2:List V} {r:Option (List V)} (h:Xq CC s1 s2=r):CC HZ [.list ab s1,.list ab s2]=r:=
 bn (key:=66) (L:=Xp CC) (bs:=[.loop (aq [1,0,1,0,0] Xo)]) (by kernel_rfl) (aZ (ah1 CC) aw) (bm (by kernel_rfl) h)
noncomputable def Pj (C:af) (x y:Int):Option (List V):=
 (C yN [.int .i64 x]).bind fun r1=>
 (C yN [.int .i64 y]).bind fun r2=>
 bif (V.nth r1 0).toBool then
  bif (V.nth r2 0).toBool then
  some [.int .i64 0]
  else
  some [.int .i64 (-1)]
 else
  bif (V.nth r2 0).toBool then
  some [.int .i64 1]
  else
  bif decide ((x:Int)<y) then
   some [.int .i64 (-1)]
  else
   bif decide ((x:Int)>y) then
   some [.int .i64 1]
   else
   some [.int .i64 0]
theorem Xr {x y:Int} {r:Option (List V)} (h:Pj CC x y=r):CC qV [.int .i64 x,.int .i64 y]=r:=
 bn (key:=65) (L:=cS) (bs:=[]) (by kernel_rfl) aw (bm (by kernel_rfl) h)
noncomputable def Pk (C:af) (x:Int):Option (List V):=
 some [.bool ((x:Int) != x)]
theorem Xs {x:Int} {r:Option (List V)} (h:Pk CC x=r):CC yN [.int .i64 x]=r:=
 bn (key:=96) (L:=cS) (bs:=[]) (by kernel_rfl) aw (bm (by kernel_rfl) h)
end Go.AM
set_option maxRecDepth 100000
namespace Go.AM
open Go.Proofs Ex
def iv (less:Bool):Int:=if less then-1 else 1
mutual
def Ex.cmp:Ex→Ex→Int
 | .node o l ks,e=>if o≠e.op then iv (decide (o<e.op)) else if l≠e.letter then iv (decide (l<e.letter)) else ed ks e.kids
def Ex.ed:List Ex→List Ex→Int
 | [],[]=>0
 | [],_::_=> -1
 | _::_,[]=>1
 | k::ks,k'::cd=>if cmp k k'≠0 then cmp k k' else ed ks cd
end
theorem wc (o l o' l':Int) (ks cd:List Ex):cmp (.node o l ks) (.node o' l' cd)=if o≠o' then iv (decide (o<o')) else if l≠l' then iv (decide (l<l')) else ed ks cd:=by
 rw[cmp];rfl
theorem Xt (b:Bool):iv b= -1∨iv b=1:=by cases b<;>simp[iv]
theorem ah3 (ks:List Ex) (ih: ∀k∈ks,cmp k k=0):ed ks ks=0:=by
 induction ks with
 | nil=>simp[ed]
 | cons k ks rS=>simp[ed,ih k (by simp),rS fun k hk=>ih k (by simp[hk])]
theorem zg: ∀e:Ex,cmp e e=0:=ind fun o l ks ih=>by
 rw[wc];simp[ah3 ks ih]
theorem Xu {a b:Int} (h:a≠b):iv (decide (b<a))= -iv (decide (a<b)):=by
 by_cases h1:a<b
 ·have: ¬b<a:=by omega
  simp[iv,h1,this]
 ·have:b<a:=by omega
  simp[iv,h1,this]
theorem ah4 (ks:List Ex) (ih: ∀k∈ks,∀e,cmp e k= -cmp k e): ∀cd,ed cd ks= -ed ks cd:=by
 induction ks with
 | nil=>intro cd;cases cd<;>simp[ed]
 | cons k ks rS=>
  intro cd
  cases cd with
  | nil=>simp[ed]
  | cons k' cd=>
   simp only[ed,ih k (by simp) k',rS (fun k hk=>ih k (by simp[hk])) cd]
   by_cases h:cmp k k'=0
   ·simp[h]
   ·have: -cmp k k'≠0:=by omega
    simp[h,this]
theorem tX: ∀e e':Ex,cmp e' e= -cmp e e':=
 ind fun o l ks ih e'=>by
  obtain ⟨o',l',cd⟩:=e'
  rw[wc,wc]
  by_cases h1:o=o'
  ·subst h1
   by_cases h2:l=l'
   ·subst h2
    simp[ah4 ks ih]
   ·have h2':l'≠l:=fun e=>h2 e.symm
    simp only[ne_eq,oe,fg,h2,h2',AK,cy];exact Xu h2
  ·have oA:o'≠o:=fun e=>h1 e.symm
   simp only[ne_eq,h1,oA,AK,cy];exact Xu h1
theorem ah5 (ks:List Ex) (ih: ∀k∈ks,∀e,cmp k e=0→k=e): ∀cd,ed ks cd=0→ks=cd:=by
 induction ks with
 | nil=>intro cd h;cases cd<;>simp[ed] at h⊢
 | cons k ks rS=>
  intro cd h
  cases cd with
  | nil=>simp[ed] at h
  | cons k' cd=>
   simp only[ed] at h
   by_cases h1:cmp k k'=0
   ·rw[ih k (by simp) k' h1,rS (fun k hk=>ih k (by simp[hk])) cd (by simpa[h1] using h)]
   ·simp[h1] at h
theorem tY: ∀e e':Ex,cmp e e'=0→e=e':=
 ind fun o l ks ih e' h=>by
  obtain ⟨o',l',cd⟩:=e'
  rw[wc] at h
  have s1:=Xt (decide (o<o'))
  have s2:=Xt (decide (l<l'))
  by_cases h1:o=o'
  ·by_cases h2:l=l'
   ·rw[h1,h2,ah5 ks ih cd (by simpa[h1,h2] using h)]
   ·have bX:iv (decide (l<l'))≠0:=by omega
    rw[ah (by simp[h1]),ag h2] at h
    exact absurd h bX
  ·have bX:iv (decide (o<o'))≠0:=by omega
   rw[ag h1] at h
   exact absurd h bX
theorem ah6 (a:List Ex) (ih: ∀k∈a,∀b c,cmp k b≤0→cmp b c≤0→cmp k c≤0): ∀b c,ed a b≤0→ed b c≤0→ed a c≤0:=by
 induction a with
 | nil=>intro b c _ _;cases c<;>simp[ed]
 | cons x a rS=>
  intro b c h1 h2
  cases b with
  | nil=>simp[ed] at h1
  | cons y b=>
   cases c with
   | nil=>simp[ed] at h2
   | cons z c=>
    simp only[ed] at h1 h2⊢
    have vF:cmp x y≤0:=by by_cases h:cmp x y=0<;>simp[h] at h1⊢;exact h1
    have hyz:cmp y z≤0:=by by_cases h:cmp y z=0<;>simp[h] at h2⊢;exact h2
    have IL:=ih x (by simp) y z vF hyz
    by_cases h:cmp x z=0
    ·have:=tY x z h
     subst this
     have h3:=tX x y
     have h4:cmp x y=0:=by omega
     have h5:cmp y x=0:=by omega
     simp only[h,ne_eq,oe,fg]
     simp only[h4,h5,ne_eq,oe,fg] at h1 h2
     exact rS (fun k hk=>ih k (by simp[hk])) b c h1 h2
    ·simp[h];exact IL
theorem tZ {x y:Int}:iv (decide (x<y))≤0↔x<y:=by
 by_cases h:x<y
 ·simp[iv,h]
 ·simp[iv,h]
theorem Pm: ∀a b c:Ex,cmp a b≤0→cmp b c≤0→cmp a c≤0:=
 ind fun o l ks ih b c h1 h2=>by
  obtain ⟨o',l',cd⟩:=b
  obtain ⟨Pn,rR,aqc⟩:=c
  rw[wc] at h1 h2⊢
  by_cases e1:o=o'
  ·subst e1
   by_cases e2:o=Pn
   ·subst e2
    simp only[ne_eq,oe,fg] at h1 h2⊢
    by_cases e3:l=l'
    ·subst e3
     by_cases e4:l=rR
     ·subst e4
      simp only[ne_eq,oe,fg] at h1 h2⊢
      exact ah6 ks ih _ _ h1 h2
     ·simp only[ne_eq,e4,AK,cy] at h2⊢
      exact h2
    ·rw[ag e3,tZ] at h1
     by_cases e5:l'=rR
     ·subst e5
      rw[ag e3,tZ]
      exact h1
     ·rw[ag e5,tZ] at h2
      rw[ag (show l≠rR by omega),tZ]
      omega
   ·simp only[ne_eq,e2,AK,cy] at h2⊢
    exact h2
  ·rw[ag e1,tZ] at h1
   by_cases e5:o'=Pn
   ·subst e5
    rw[ag e1,tZ]
    exact h1
   ·rw[ag e5,tZ] at h2
    rw[ag (show o≠Pn by omega),tZ]
    omega
theorem ah7 (x y:Int):CC qV [.int .i64 x,.int .i64 y]=some [.int .i64 (if x<y then-1 else if y<x then 1 else 0)]:=by
 refine Xr ?_
 unfold Pj
 have h: ∀z:Int,CC yN [.int .i64 z]=some [.bool false]:=fun z=>Xs (by simp[Pk])
 rw[h,h]
 by_cases h1:x<y
 ·simp[h1]
 ·by_cases h2:y<x
  ·simp[h1,h2]
  ·simp[h1,h2]
theorem Xv {x y:Int} (h:x≠y):CC qV [.int .i64 x,.int .i64 y]=some [.int .i64 (iv (decide (x<y)))]:=by
 rw[ah7]
 by_cases h1:x<y
 ·simp[iv,h1]
 ·simp[iv,h1,show y<x by omega]
theorem ah8 {ks cd:List Ex} (hlen:ks.length≤maxLen) (ih: ∀k∈ks,∀e:Ex,e.Ok→CC bu (ct k (ct e []))=some [.int .i64 (cmp k e)]) (dG: ∀k∈cd,Ex.Ok k):
  ∀(aA pre jK pV:List Ex),ks=pre++aA→cd=pV++jK→pre.length=pV.length→
  (∃c,Loop (tW CC (ks.map enc) (cd.map enc) (ks.map enc) ((ks.map enc).length:Int)) ((pre.length:Nat):Int)=some (.inl c)∧ed aA jK=c)∨
  (∃i b,Loop (tW CC (ks.map enc) (cd.map enc) (ks.map enc) ((ks.map enc).length:Int)) ((pre.length:Nat):Int)=some (.inr (i,b))∧ed aA jK=if ks.length<cd.length then-1 else 0):=by
 intro aA
 induction aA with
 | nil=>
  intro pre jK pV bd kG lR
  subst bd
  refine .inr ⟨((pre.length:Nat):Int),false,aG ?_,?_⟩
  ·simp only[tW,wa,dc,aC,ar]
   rw[ah (by omega)]
   simp
  ·cases jK with
   | nil=>simp[ed,kG,lR]
   | cons a l=>simp[ed,kG,lR]
 | cons k aA iX=>
  intro pre jK pV bd kG lR
  have bM:pre.length<ks.length:=by rw[bd];simp
  have:=oU
  have cf:idx (ks.map enc) (pre.length:Int)=some k.enc:=by rw[bd];exact fq _ _ _
  cases jK with
  | nil=>
   refine .inl ⟨1,aG ?_,by simp[ed]⟩
   have hl:cd.length=pre.length:=by rw[kG,lR];simp
   simp only[tW,wa,aC,ar]
   rw[ag (by omega),cf]
   simp only[Option.bind_some]
   rw[ag (by omega)]
  | cons k' jK=>
   have hl:pre.length<cd.length:=by rw[kG,lR];simp
   have CW:idx (cd.map enc) (pre.length:Int)=some k'.enc:=by rw[kG,lR];exact fq _ _ _
   have e1:=ih k (by rw[bd];simp) k' (dG k' (by rw[kG];simp))
   by_cases hc:cmp k k'=0
   ·have jx:tW CC (ks.map enc) (cd.map enc) (ks.map enc) ((ks.map enc).length:Int) ((pre.length:Nat):Int)=some (.inl (((pre++[k]).length:Nat):Int)):=by
     simp only[tW,wa,aC,ar]
     rw[ag (by omega),cf]
     simp only[Option.bind_some]
     rw[ah (by omega),CW]
     simp only[Option.bind_some,aH,aN,aK]
     rw[e1,hc]
     simp only[Option.bind_some,V.aD,V.toInt_int,kC,cy]
     rw[wrap64 (by omega) (by omega)]
     simp
    rw[br jx]
    simp only[ed,hc,ne_eq,oe,fg]
    exact iX (pre++[k]) jK (pV++[k']) (by rw[bd];simp) (by rw[kG];simp) (by simp[lR])
   ·refine .inl ⟨cmp k k',aG ?_,by simp[ed,hc]⟩
    simp only[tW,wa,aC,ar]
    rw[ag (by omega),cf]
    simp only[Option.bind_some]
    rw[ah (by omega),CW]
    simp only[Option.bind_some,aH,aN,aK]
    rw[e1]
    simp only[Option.bind_some,V.aD,V.toInt_int,kC,ah hc]
theorem IM: ∀a:Ex,a.Ok→∀b:Ex,b.Ok→CC bu (ct a (ct b []))=some [.int .i64 (cmp a b)]:=
 ind fun o l ks ih ax b hb=>by
  obtain ⟨o',l',cd⟩:=b
  refine ahZ ?_
  unfold Xn
  rw[wc]
  simp only[Ex.op,Ex.letter,Ex.kids,kC]
  by_cases h1:o=o'
  ·by_cases h2:l=l'
   ·rw[ag h1,ag h2,ah (by simp[h1]),ah (by simp[h2])]
    have hcf:CC HZ [.list ab (ks.map enc),.list ab (cd.map enc)]=some [.int .i64 (ed ks cd)]:=by
     refine ah2 ?_
     unfold Xq
     rcases ah8 ax.len (fun k hk e he=>ih k hk (ax.lp k hk) e he) hb.lp ks [] cd [] rfl rfl rfl with ⟨c,q1,q2⟩|⟨i,b,q1,q2⟩
     ·simp only[List.length_nil,Int.ofNat_zero,Int.natCast_zero] at q1
      erw [q1];rw[q2];rfl
     ·simp only[List.length_nil,Int.ofNat_zero,Int.natCast_zero] at q1
      erw [q1];rw[q2]
      simp only[Option.bind_some,bD,un,aC,ar]
      by_cases hl:ks.length<cd.length
      ·rw[ag (by omega),ag hl]
      ·rw[ah (by omega),ah hl]
    rw[hcf]
    simp
   ·rw[ag h1,ah h2,ah (by simp[h1]),ag h2,Xv h2]
    simp
  ·rw[ah h1,ag h1,Xv h1]
   simp
def aQ:Ex:= .node 0 0 []
theorem zh {l:List Ex} {i:Nat} (h:i<l.length):idx (l.map enc) (i:Int)=some (l.getD i aQ).enc:=by
 rw[yo];simp[h]
def eR (l:List Ex) (x:Ex):Nat→Nat
 | 0=>0
 | k+1=>if cmp x (l.getD k aQ)<0 then eR l x k else k+1
def dk (l:List Ex) (x:Ex):List Ex:=
 let k:=eR l x l.length
 if 0<k∧cmp (l.getD (k-1) aQ) x=0 then l else l.take k++x::l.drop k
theorem zi (l:List Ex) (x:Ex): ∀k,eR l x k≤k
 | 0=>bN _
 | k+1=>by
  unfold eR;split
  ·exact Nat.le_succ_of_le (zi l x k)
  ·exact bN _
theorem oY {l:List Ex} (h: ∀k∈l,k.Ok) {i:Nat} (hi:i<l.length):(l.getD i aQ).Ok:=by
 have e:l.getD i aQ=l[i]:=by simp[hi]
 rw[e];exact h _ (tf hi)
theorem Xw (l:List Ex) (k:Nat) (x:Ex):((([]:List V)++(((l.map enc).drop 0).take (k-0)))++([.agg [.int .i64 x.op,.int .i64 x.letter,.list ab (x.kids.map enc)]]:List V))++(((l.map enc).drop k).take ((l.map enc).length-k))=(l.take k++x::l.drop k).map enc:=by
 rw[←fS,uI (i:=(l.map enc).length-k) (by simp)]
 simp
def bG (op:Int) (l:List Ex):List Ex:=l.flatMap fun k=>if k.op=op then k.kids else [k]
def univ (e:Ex):Bool:=decide (e.op=8∧e.kids.length=1∧(e.kids.getD 0 aQ).op=1)
theorem Xx {a b:Ex}:cmp a b=0↔a=b:=⟨tY a b,fun h=>by rw[h];exact zg b⟩
instance:DecidableEq Ex:=fun _ _=>decidable_of_iff _ Xx
end Go.AM
set_option maxRecDepth 100000
namespace Go.AM
open Go.Proofs
noncomputable abbrev Xy:Code:=bU Tryz.prog (az.aT 147)
noncomputable def CX (C:af) (op:Int) (t8:List V) (t9 t10:Int) (oZ:List V) {β:Type} (kn:(Int × (List V))→Option β) (kr:(Int × Bool × (List V))→Option β):Option β:=
 bif decide ((t10:Int)<t9) then
  (idx t8 t10).bind fun x1=>
  bif (((x1.cell 0).toInt):Int)==op then
  bif Nat.ble ((oZ.length+((x1.cell 2).toList).length)*40) b8 then
   kn (IntKind.wrap .i64 (t10+1),oZ++((x1.cell 2).toList))
  else none
  else
  bif Nat.ble ((oZ.length+([.agg [.int .i64 ((x1.cell 0).toInt),.int .i64 ((x1.cell 1).toInt),.list ab ((x1.cell 2).toList)]]:List V).length)*40) b8 then
   kn (IntKind.wrap .i64 (t10+1),oZ++([.agg [.int .i64 ((x1.cell 0).toInt),.int .i64 ((x1.cell 1).toInt),.list ab ((x1.cell 2).toList)]]:List V))
  else none
 else
  kr (t10,decide ((t10:Int)<t9),oZ)
noncomputable def CY (C:af) (op:Int) (t8:List V) (t9:Int):(Int × (List V))→Option ((Int × (List V)) ⊕ (Int × Bool × (List V))):=un fun t10 oZ=>CX C op t8 t9 t10 oZ (fun y=>some (.inl y)) (fun r=>some (.inr r))
noncomputable def Xz (C:af):cj:=fun β n ds k=>
 bif Nat.beq n 49 then bt OR [false,false,false,true,true] [[1,2,3,0,0,0]] (@CX C) ds k else
 none
abbrev ah9 (C:af) (b:cg):Prop:=ch Tryz.prog az C (Xz C) 147 (cv Tryz.prog (az.aT 147)) (az.sin 147).bf.length b
theorem aia (C:af):ah9 C (.loop (aq [1,1,0,1,0,0] Xy)):=
 bw OR [false,false,false,true,true] [[1,2,3,0,0,0]] (@CX C) (by kernel_rfl) (aM (bs:=[]) (by kernel_rfl) aw) (fun ds=>by kernel_rfl) (fun i x=>by kernel_rfl) (fun i x β k=>by kernel_rfl) (fun β ds k=>by kernel_rfl)
noncomputable def XA (C:af) (op:Int) (kids:List V):Option (List V):=
 (Loop (CY C op kids (kids.length:Int)) (0,([]:List V))).bind (un fun (Po:Int)=>un fun (fN:Bool) (aib:List V)=>
  some [.list ab aib])
theorem aic {op:Int} {kids:List V} {r:Option (List V)} (h:XA CC op kids=r):CC yS [.int .i64 op,.list ab kids]=r:=
 bn (key:=147) (L:=Xz CC) (bs:=[.loop (aq [1,1,0,1,0,0] Xy)]) (by kernel_rfl) (aZ (aia CC) aw) (bm (by kernel_rfl) h)
noncomputable def XB (C:af) (op:Int) (parts:List V) (IN IP:Int) (IQ:List V):Option (List V):=
 bif ((parts.length:Int):Int)==0 then
  some [.int .i64 IN,.int .i64 IP,.list ab IQ]
 else
  bif ((parts.length:Int):Int)==1 then
  (parts[0]?).bind fun x1=>
  some [.int .i64 ((x1.cell 0).toInt),.int .i64 ((x1.cell 1).toInt),.list ab ((x1.cell 2).toList)]
  else
  some [.int .i64 op,.int .i64 0,.list ab parts]
theorem aid {op:Int} {parts:List V} {IN IP:Int} {IQ:List V} {r:Option (List V)} (h:XB CC op parts IN IP IQ=r):CC nz [.int .i64 op,.list ab parts,.int .i64 IN,.int .i64 IP,.list ab IQ]=r:=
 bn (key:=148) (L:=cS) (bs:=[]) (by kernel_rfl) aw (bm (by kernel_rfl) h)
noncomputable def aie (C:af):Option (List V):=
 some [.int .i64 1,.int .i64 0,.list ab ([]:List V)]
theorem aif {r:Option (List V)} (h:aie CC=r):CC qW []=r:=
 bn (key:=150) (L:=cS) (bs:=[]) (by kernel_rfl) aw (bm (by kernel_rfl) h)
noncomputable def aih (C:af):Option (List V):=
 some [.int .i64 2,.int .i64 0,.list ab ([]:List V)]
theorem aii {r:Option (List V)} (h:aih CC=r):CC vU []=r:=
 bn (key:=126) (L:=cS) (bs:=[]) (by kernel_rfl) aw (bm (by kernel_rfl) h)
noncomputable def XC (C:af):Option (List V):=
 (C qW []).bind fun r1=>
 some [.int .i64 8,.int .i64 0,.list ab ([.agg [.int .i64 ((V.nth r1 0).toInt),.int .i64 ((V.nth (r1.drop 1) 0).toInt),.list ab ((V.nth (r1.drop 2) 0).toList)]]:List V)]
theorem aij {r:Option (List V)} (h:XC CC=r):CC tR []=r:=
 bn (key:=146) (L:=cS) (bs:=[]) (by kernel_rfl) aw (bm (by kernel_rfl) h)
end Go.AM
set_option maxRecDepth 100000
namespace Go.AM
open Go.Proofs Ex
theorem aik {op:Int} {ks:List Ex} (hn:ks.length≤1000000) (hl:(bG op ks).length≤1000000):
  ∀(aA pre:List Ex),ks=pre++aA→
  Loop (CY CC op (ks.map enc) ((ks.map enc).length:Int)) (((pre.length:Nat):Int),(bG op pre).map enc)=some (((ks.map enc).length:Int),false,(bG op ks).map enc):=by
 intro aA
 induction aA with
 | nil=>
  intro pre e
  rw[dc] at e
  subst e
  refine aG ?_
  simp only[CY,CX,un,aC]
  rw[ar,ah (by omega),cL (by omega)]
 | cons k aA ih=>
  intro pre e
  have aR:pre.length<ks.length:=by rw[e];simp
  have hi:idx (ks.map enc) ((pre.length:Nat):Int)=some k.enc:=by rw[e];exact fq pre aA k
  have hf:bG op ks=bG op pre++((if k.op=op then k.kids else [k])++bG op aA):=by
   rw[e];unfold bG;rw[xh,iC]
  have BJ:bG op (pre++[k])=bG op pre++(if k.op=op then k.kids else [k]):=by
   unfold bG;rw[xh,iC,List.flatMap_nil,dc]
  rw[hf,bO,bO] at hl
  have bB:CY CC op (ks.map enc) ((ks.map enc).length:Int) (((pre.length:Nat):Int),(bG op pre).map enc)=some (.inl (((pre.length+1:Nat):Int),(bG op (pre++[k])).map enc)):=by
   simp only[CY,CX,un,aC]
   rw[ar,ag (by omega),hi,BJ]
   simp only[Option.bind_some,aH,aN,aK,cq,sq,aC,List.length_singleton]
   by_cases h:k.op=op
   ·rw[ag h] at hl⊢
    rw[ag h,ag (by rw[iW];omega),wrap64 (by omega) (by omega),iP]
    rfl
   ·rw[ah h] at hl⊢
    rw[List.length_singleton] at hl
    rw[ah h,ag (by rw[iW];omega),wrap64 (by omega) (by omega),iP,←fS]
    rfl
  rw[br bB]
  have:=ih (pre++[k]) (by simp[e])
  simpa using this
theorem Pp {op:Int} {ks:List Ex} (hn:ks.length≤1000000) (hl:(bG op ks).length≤1000000):CC yS [.int .i64 op,.list ab (ks.map enc)]=some [.list ab ((bG op ks).map enc)]:=by
 refine aic ?_
 unfold XA
 refine (congrArg (fun o=>Option.bind o _) (aik hn hl ks [] rfl)).trans ?_
 rfl
def gr (e:Ex):List V:=[.int .i64 e.op,.int .i64 e.letter,.list ab (e.kids.map enc)]
def gu (op:Int) (l:List Ex) (oI:Ex):Ex:=
 match l with
 | []=>oI
 | [k]=>k
 | l=> .node op 0 l
theorem rh {op:Int} {l:List Ex} {z:Ex}:CC nz (.int .i64 op:: .list ab (l.map enc)::gr z)=some (gr (gu op l z)):=by
 refine aid ?_
 unfold XB
 simp only[cq,aC]
 match l with
 | []=>simp[gu,gr]
 | [k]=>simp[gu,gr,aH,aN,aK]
 | k::k2::l=>
  rw[ah (by simp only[List.length_cons];omega),ah (by simp only[List.length_cons];omega)]
  rfl
end Go.AM
set_option maxRecDepth 100000
set_option maxHeartbeats 1000000
namespace Go.AM
open Go.Proofs Ex
def Ex.lx (a b:Ex):Prop:=cmp a b<0
noncomputable instance (a b:Ex):Decidable (a.lx b):=by unfold Ex.lx;infer_instance
theorem Ex.IS (a:Ex): ¬a.lx a:=by unfold Ex.lx;rw[zg];omega
theorem Ex.Pq {a b c:Ex} (h1:a.lx b) (h2:b.lx c):a.lx c:=by
 unfold Ex.lx at*
 have h3:=Pm a b c (by omega) (by omega)
 refine Decidable.byContradiction fun h=> ?_
 have h0:cmp a c=0:=by omega
 have:=tY a c h0
 subst this
 have:=tX a b
 omega
theorem Ex.ail {a b:Ex}:a.lx b→¬b.lx a:=by
 unfold Ex.lx
 have:=tX a b
 omega
theorem Ex.XD {a b:Ex} (h1: ¬a.lx b) (h2: ¬b.lx a):a=b:=by
 unfold Ex.lx at*
 have:=tX a b
 exact tY a b (by omega)
abbrev kb (E:List Ex):Prop:=E.Pairwise Ex.lx
theorem zj: ∀{A B:List Ex},kb A→kb B→(∀x,x∈A↔x∈B)→A=B
 | [],[],_,_,_=>rfl
 | [],b::B,_,_,h=>by have:=(h b).2 (by simp);cases this
 | a::A,[],_,_,h=>by have:=(h a).1 (by simp);cases this
 | a::A,b::B,hA,hB,h=>by
  have a1:=qo.1 hA
  have b1:=qo.1 hB
  have dq:a=b:=by
   have ha:=(h a).1 (by simp)
   have hb:=(h b).2 (by simp)
   rcases cH.1 ha with e|e
   ·exact e
   ·rcases cH.1 hb with e'|e'
    ·exact e'.symm
    ·exact absurd (a1.1 b e') (Ex.ail (b1.1 a e))
  subst dq
  rw[zj a1.2 b1.2 fun x=> ?_]
  constructor
  ·intro hx
   rcases cH.1 ((h x).1 (by simp[hx])) with e|e
   ·subst e;exact absurd (a1.1 x hx) (Ex.IS x)
   ·exact e
  ·intro hx
   rcases cH.1 ((h x).2 (by simp[hx])) with e|e
   ·subst e;exact absurd (b1.1 x hx) (Ex.IS x)
   ·exact e
open Classical in
noncomputable def we (out:List Ex) (e:Ex):List Ex:=
 if eR out e out.length=0∨¬out.getD (eR out e out.length-1) aQ=e then out.take (eR out e out.length)++[e]++out.drop (eR out e out.length) else out
theorem XF (out:List Ex) (e:Ex): ∀k i,eR out e k≤i→i<k→e.lx (out.getD i aQ)
 | 0,i,_,h=>by omega
 | k+1,i,h1,h2=>by
  unfold eR at h1
  split at h1
  ·rename_i h3
   by_cases hi:i=k
   ·subst hi;exact h3
   ·exact XF out e k i h1 (by omega)
  ·omega
theorem XG (out:List Ex) (e:Ex): ∀k,eR out e k≠0→¬e.lx (out.getD (eR out e k-1) aQ)
 | 0,h=>by simp[eR] at h
 | k+1,h=>by
  unfold eR at h⊢
  split
  ·rename_i h3
   rw[ag h3] at h
   exact XG out e k h
  ·rename_i h3
   exact h3
theorem aim {out:List Ex} {e x:Ex} (hk:eR out e out.length≤out.length):x∈we out e↔x=e∨x∈out:=by
 unfold we
 split
 ·rename_i h
  have:=FK (eR out e out.length) out
  constructor
  ·intro hx
   simp only[dj,cZ,cV] at hx
   rcases hx with hx|hx|hx
   ·exact .inr (List.mem_of_mem_take hx)
   ·exact .inl hx
   ·exact .inr (List.mem_of_mem_drop hx)
  ·rintro (rfl|hx)
   ·simp
   ·rw[←this] at hx
    simp only[cZ] at hx
    simp only[dj,cZ,cV]
    rcases hx with hx|hx
    ·exact .inl hx
    ·exact .inr (.inr hx)
 ·rename_i h
  simp only[not_or,FO] at h
  constructor
  ·exact .inr
  ·rintro (rfl|hx)
   ·have h1:=h.2
    have h2:eR out x out.length-1<out.length:=by omega
    rw[←h1]
    simp[h2]
   ·exact hx
theorem ain {out:List Ex} {e:Ex} (h:kb out):kb (we out e):=by
 have hk:=zi out e out.length
 have up:=XF out e out.length
 have dn:=XG out e out.length
 unfold we
 generalize hq:eR out e out.length=k at*
 split
 ·rename_i hc
  have g:=xd.1 h
  have iH: ∀x∈out.take k,x.lx e:=by
   intro x hx
   obtain ⟨i,hi,rfl⟩:=FP hx
   have dQ:i<k:=by rw[dV] at hi;omega
   have oJ:i<out.length:=by omega
   rw[List.getElem_take]
   have oX:k≠0:=by omega
   have h1:=dn oX
   have h2: ¬out.getD (k-1) aQ=e:=by
    rcases hc with hc|hc
    ·exact absurd hc oX
    ·exact hc
   have ku:k-1<out.length:=by omega
   have e1:out.getD (k-1) aQ=out[k-1]:=by simp[ku]
   rw[e1] at h1 h2
   have h3:out[k-1].lx e:=by
    by_cases h4:out[k-1].lx e
    ·exact h4
    ·exact absurd (Ex.XD h4 h1) h2
   by_cases Pr:i=k-1
   ·subst Pr;exact h3
   ·exact Ex.Pq (g i (k-1) oJ ku (by omega)) h3
  have gZ: ∀y∈out.drop k,e.lx y:=by
   intro y hy
   obtain ⟨i,hi,rfl⟩:=FP hy
   rw[jT] at hi
   rw[List.getElem_drop]
   have:=up (k+i) (by omega) (by omega)
   have e1:out.getD (k+i) aQ=out[k+i]:=by simp[show k+i<out.length by omega]
   rwa [e1] at this
  rw[kb,dj,FL]
  refine ⟨h.sublist (List.take_sublist _ _),?_,?_⟩
  ·rw[List.singleton_append,qo]
   exact ⟨gZ,h.sublist (List.drop_sublist _ _)⟩
  ·intro x hx y hy
   rw[List.singleton_append,cH] at hy
   rcases hy with rfl|hy
   ·exact iH x hx
   ·exact Ex.Pq (iH x hx) (gZ y hy)
 ·exact h
theorem Ps (out:List Ex) (e:Ex):dk out e=we out e:=by
 unfold dk we
 generalize eR out e out.length=k
 by_cases h:k=0∨¬out.getD (k-1) aQ=e
 ·rw[ag h,ah (fun h2=>by
   rcases h with h|h
   ·omega
   ·exact h (tY _ _ h2.2))]
  simp
 ·rw[ah h,ag]
  simp only[not_or,FO] at h
  exact ⟨by omega,by rw[h.2];exact zg e⟩
end Go.AM
set_option maxRecDepth 100000
namespace Go.AM
open Go.Proofs Ex
def fk:Ex:= .node 1 0 []
def fO:Ex:= .node 2 0 []
def mK:Ex:= .node 8 0 [fk]
def ca (o l:Int) (ks:List Ex):Ex:=
 if o=8 then (let k:=ks.getD 0 aQ;if k.op=8 then k.kids.getD 0 aQ else .node o l ks)
 else if o=7 then (let k:=ks.getD 0 aQ;if k.op=1∨k.op=2 then fO else if k.op=7∨univ k=true then k else .node o l ks)
 else if o=5 then (let f:=bG 5 ks;if f.any (fun k=>decide (k.op=1)) then fk else gu 5 (f.filter fun k=>decide (k.op≠2)) fO)
 else if o=4 then (let f:=bG 4 ks;if f.any univ then mK else gu 4 ((f.filter fun k=>decide (k.op≠1)).foldl dk []) fk)
 else if o=6 then (let f:=bG 6 ks;if f.any (fun k=>decide (k.op=1)) then fk else gu 6 ((f.filter fun k=> !(univ k)).foldl dk []) mK)
 else .node o l ks
mutual
def dv:Ex→Ex
 | .node o l ks=>ca o l (CZ ks)
def CZ:List Ex→List Ex
 | []=>[]
 | k::ks=>dv k::CZ ks
end
theorem XH: ∀ks,CZ ks=ks.map dv
 | []=>by simp only[CZ,mU]
 | k::ks=>by simp only[CZ,dZ,XH ks]
theorem aio {out:List Ex} {e:Ex} (h:kb out):kb (dk out e):=by rw[Ps];exact ain h
theorem XI {out:List Ex} {e x:Ex}:x∈dk out e↔x=e∨x∈out:=by rw[Ps];exact aim (zi _ _ _)
theorem C2: ∀(l out:List Ex),kb out→kb (l.foldl dk out)∧∀x,x∈l.foldl dk out↔x∈l∨x∈out
 | [],out,h=>⟨h,by simp⟩
 | e::l,out,h=>by
  obtain ⟨h1,h2⟩:=C2 l (dk out e) (aio h)
  refine ⟨h1,fun x=> ?_⟩
  rw[List.foldl_cons,h2,XI]
  simp only[cH]
  constructor
  ·rintro (h|h|h)
   ·exact .inl (.inr h)
   ·exact .inl (.inl h)
   ·exact .inr h
  ·rintro ((h|h)|h)
   ·exact .inr (.inl h)
   ·exact .inl h
   ·exact .inr (.inr h)
theorem IT (l:List Ex) (x:Ex):(dk l x).length≤l.length+1:=by
 rw[Ps]
 unfold we
 have hk:=zi l x l.length
 generalize eR l x l.length=k at*
 split
 ·simp;omega
 ·omega
theorem Pt {l:List Ex} {x:Ex} (hl: ∀k∈l,k.Ok) (hx:x.Ok): ∀k∈dk l x,k.Ok:=fun k hk=>by
 rcases XI.1 hk with rfl|hk
 ·exact hx
 ·exact hl k hk
theorem aip {X R S:Type} {step:X→Option (X ⊕ R)} {ks:List Ex} (st:S→Nat→X) (g:S→Ex→S) (r:S→R) (I:S→List Ex→Prop)
  (h: ∀pre k aA s,ks=pre++k::aA→I s (k::aA)→step (st s pre.length)=some (.inl (st (g s k) (pre.length+1)))∧I (g s k) aA) (he: ∀s,step (st s ks.length)=some (.inr (r s))):
  ∀aA pre s,ks=pre++aA→I s aA→Loop step (st s pre.length)=some (r (aA.foldl g s)):=by
 intro aA
 induction aA with
 | nil=>
  intro pre s bd _
  have:pre.length=ks.length:=by rw[bd];simp
  rw[this]
  exact aG (he s)
 | cons k aA ih=>
  intro pre s bd hI
  obtain ⟨h1,h2⟩:=h pre k aA s bd hI
  rw[br h1,List.foldl_cons]
  have:=ih (pre++[k]) (g s k) (by rw[bd];simp) h2
  simpa using this
theorem IU {X R:Type} {step:X→Option (X ⊕ R)} {ks:List Ex} (st:Nat→X) (p:Ex→Bool) (r1:Nat→R) (r2:R)
  (h: ∀pre k aA,ks=pre++k::aA→step (st pre.length)=if p k=true then some (.inr (r1 pre.length)) else some (.inl (st (pre.length+1)))) (he:step (st ks.length)=some (.inr r2)):
  ∀aA pre,ks=pre++aA→(aA.any p=true∧∃i,Loop step (st pre.length)=some (r1 i))∨(aA.any p=false∧Loop step (st pre.length)=some r2):=by
 intro aA
 induction aA with
 | nil=>
  intro pre bd
  have:pre.length=ks.length:=by rw[bd];simp
  rw[this]
  exact .inr ⟨rfl,aG he⟩
 | cons k aA ih=>
  intro pre bd
  have h1:=h pre k aA bd
  cases hp:p k with
  | true=>
   rw[ag hp] at h1
   exact .inl ⟨by simp[hp],_,aG h1⟩
  | false=>
   rw[ah (by simp[hp])] at h1
   rw[br h1]
   have:=ih (pre++[k]) (by rw[bd];simp)
   simpa[hp] using this
end Go.AM
set_option maxRecDepth 100000
namespace Go.AM
open Go.Proofs
noncomputable def XJ (C:af) (ak ay:Int) (aj:List V):Option (List V):=
 (C Cn [.int .i64 ak,.int .i64 ay,.list ab aj,.int .i64 6]).bind fun r1=>
 some [.bool ((((V.nth r1 0).toInt):Int)==0)]
theorem aiq {ak ay:Int} {aj:List V} {r:Option (List V)} (h:XJ CC ak ay aj=r):CC HY [.int .i64 ak,.int .i64 ay,.list ab aj]=r:=
 bn (key:=44) (L:=cS) (bs:=[]) (by kernel_rfl) aw (bm (by kernel_rfl) h)
noncomputable def XK (C:af) (ak ay:Int) (aj:List V):Option (List V):=
 (C vN [.int .i64 ak,.int .i64 ay,.list ab aj,.int .i64 400]).bind fun r1=>
 some [.int .i64 ((V.nth r1 0).toInt)]
theorem air {ak ay:Int} {aj:List V} {r:Option (List V)} (h:XK CC ak ay aj=r):CC HO [.int .i64 ak,.int .i64 ay,.list ab aj]=r:=
 bn (key:=7) (L:=cS) (bs:=[]) (by kernel_rfl) aw (bm (by kernel_rfl) h)
end Go.AM
set_option maxRecDepth 100000
namespace Go.AM
open Go.Proofs Ex
theorem wg (m n:Int):(m==n)=decide (m=n):=by rw[te];simp
theorem ais (e:Ex) (h:e.Ok):CC HY (ct e [])=some [.bool (decide (e.val 6=0))]:=by
 refine aiq ?_
 unfold XJ
 rw[Xl e h]
 simp only[Option.bind_some,V.aD,V.toInt_int]
 rw[wg]
theorem ait {e:Ex} (h:e.val 6=0):e.depth≤40∧e.size≤400∧e.wf 6=true:=by
 unfold Ex.val at h
 rw[ag (by omega)] at h
 split at h
 ·rename_i h1
  split at h
  ·rename_i h2;exact ⟨h1.1,h1.2,h2⟩
  ·omega
 ·omega
theorem ri {ks:List Ex}: ∀{k},k∈ks→k.size≤aF ks:=by
 induction ks with
 | nil=>intro k h;simp at h
 | cons a ks ih=>
  intro k h
  simp only[aF]
  rcases cH.1 h with rfl|h
  ·omega
  ·have:=ih h;omega
mutual
def Ex.dJ:Ex→Bool
 | .node o _ ks=>if o=2∨o=7 then true else if o=4 then pW ks else if o=5∨o=6 then o4 ks else if o=8 then !(pW ks) else false
def Ex.pW:List Ex→Bool
 | []=>false
 | k::ks=>dJ k||pW ks
def Ex.o4:List Ex→Bool
 | []=>true
 | k::ks=>dJ k&&o4 ks
end
theorem Pu: ∀ks,pW ks=ks.any dJ
 | []=>by simp[pW]
 | k::ks=>by simp[pW,Pu ks]
theorem Pv: ∀ks,o4 ks= !(ks.any fun k=> !(dJ k))
 | []=>by simp[o4]
 | k::ks=>by simp[o4,Pv ks]
theorem aiu {letters:Int} {ks:List Ex} (h:iu letters ks=true): ∀k∈ks,k.wf letters=true:=by
 induction ks with
 | nil=>simp
 | cons a ks ih=>
  simp only[iu,aU] at h
  intro k hk
  rcases cH.1 hk with rfl|hk
  ·exact h.1
  ·exact ih h.2 k hk
theorem nE {letters o l:Int} {ks:List Ex} (h:(Ex.node o l ks).wf letters=true):iq o l ks.length letters=true∧∀k∈ks,k.wf letters=true:=by
 simp only[Ex.wf,aU] at h
 exact ⟨h.1,aiu h.2⟩
theorem aiv {letters l n:Int} (h:iq 8 l n letters=true):n=1:=by
 simp[iq] at h;exact h.2
theorem aiw (e:Ex) (h:e.Ok) (hs:e.size≤400):CC HO (ct e [])=some [.int .i64 e.size]:=by
 obtain ⟨d,e1,e2⟩:=Xk e h 400 (by omega) (by omega)
 refine air ?_
 unfold XK
 rw[e1,show min (e.size:Int) (400+1)=e.size by omega]
 simp
def sD (o:Int) (ks:List Ex):Prop:=
 (o=8→∀k∈ks,k.op≠8)∧
 (o=7→∀k∈ks,k.op≠1∧k.op≠2∧k.op≠7∧univ k=false)∧
 (o=5→∀k∈ks,k.op≠5∧k.op≠1∧k.op≠2)∧
 (o=4→kb ks∧∀k∈ks,k.op≠4∧k.op≠1∧univ k=false)∧
 (o=6→kb ks∧∀k∈ks,k.op≠6∧k.op≠1∧univ k=false)
inductive Nm:Ex→Prop
 | node {o l:Int} {ks:List Ex}:(∀k∈ks,Nm k)→sD o ks→Nm (.node o l ks)
theorem Nm.lp {o l:Int} {ks:List Ex} (h:Nm (.node o l ks)): ∀k∈ks,Nm k:=by cases h;assumption
theorem Nm.ok {o l:Int} {ks:List Ex} (h:Nm (.node o l ks)):sD o ks:=by cases h;assumption
def Gd (n:Int) (e:Ex):Prop:=Nm e∧e.wf n=true
theorem C3 {n o l:Int} {ks:List Ex} (h:iq o l ks.length n=true) (hk: ∀k∈ks,k.wf n=true):(Ex.node o l ks).wf n=true:=by
 have: ∀ks:List Ex,(∀k∈ks,k.wf n=true)→iu n ks=true:=by
  intro ks
  induction ks with
  | nil=>intro _;simp only[iu]
  | cons k ks ih=>intro h;simp only[iu,h k (by simp),ih fun k hk=>h k (by simp[hk]),lE]
 simp only[Ex.wf,h,this ks hk,lE]
theorem lS {o l len n:Int} (h:iq o l len n=true):(o=3∧len=0∧0≤l∧l<n)∨(l=0∧((o=1∧len=0)∨(o=2∧len=0)∨(o=4∧2≤len)∨(o=5∧2≤len)∨(o=6∧2≤len)∨(o=7∧len=1)∨(o=8∧len=1))):=by
 unfold iq at h
 split at h
 ·rename_i h3
  have:=ly h
  omega
 ·rw[aU] at h
  have h1:=ly h.1
  have h2:=h.2
  split at h2
  ·have:=ly h2;omega
  ·split at h2
   ·have:=ly h2;omega
   ·have:=ly h2;omega
theorem Gd.kids {n:Int} {e:Ex} (h:Gd n e): ∀k∈e.kids,Gd n k:=by
 obtain ⟨o,l,ks⟩:=e
 exact fun k hk=>⟨h.1.lp k hk,(nE h.2).2 k hk⟩
theorem Gd.ok {n:Int} {e:Ex} (h:Gd n e):sD e.op e.kids:=by
 obtain ⟨o,l,ks⟩:=e
 exact h.1.ok
theorem Gd.shape {n:Int} {e:Ex} (h:Gd n e):iq e.op e.letter e.kids.length n=true:=by
 obtain ⟨o,l,ks⟩:=e
 exact (nE h.2).1
theorem Gd.mk' {n o l:Int} {ks:List Ex} (h1: ∀k∈ks,Gd n k) (h2:sD o ks) (h3:iq o l ks.length n=true):Gd n (.node o l ks):=
 ⟨.node (fun k hk=>(h1 k hk).1) h2,C3 h3 fun k hk=>(h1 k hk).2⟩
theorem C4 {n:Int}:Gd n fk:= .mk' (by simp) ⟨by simp,by simp,by simp,by simp,by simp⟩ (by simp[iq])
theorem IV {n:Int}:Gd n fO:= .mk' (by simp) ⟨by simp,by simp,by simp,by simp,by simp⟩ (by simp[iq])
theorem XL {n:Int}:Gd n mK:= .mk' (by simp[C4]) ⟨by simp[fk,Ex.op],by simp,by simp,by simp,by simp⟩ (by simp[iq])
theorem empty_eq {n:Int} {e:Ex} (h:Gd n e) (ho:e.op=1):e=fk:=by
 obtain ⟨o,l,ks⟩:=e
 have hs:=lS h.shape
 simp only[Ex.op,Ex.kids,Ex.letter] at*
 obtain rfl:ks=[]:=uJ.1 (by omega)
 unfold fk
 rw[show o=1 by omega,show l=0 by omega]
theorem unit_eq {n:Int} {e:Ex} (h:Gd n e) (ho:e.op=2):e=fO:=by
 obtain ⟨o,l,ks⟩:=e
 have hs:=lS h.shape
 simp only[Ex.op,Ex.kids,Ex.letter] at*
 obtain rfl:ks=[]:=uJ.1 (by omega)
 unfold fO
 rw[show o=2 by omega,show l=0 by omega]
theorem wh (a b:List Ex):aF (a++b)=aF a+aF b:=by
 induction a with
 | nil=>simp[aF]
 | cons k a ih=>simp only[List.cons_append,aF,ih];omega
theorem IW (p:Ex→Bool) (l:List Ex):aF (l.filter p)≤aF l:=by
 induction l with
 | nil=>simp[aF]
 | cons k l ih=>
  rw[mW]
  split
  ·simp only[aF];omega
  ·simp only[aF];omega
theorem kH (l:List Ex):l.length≤aF l:=by
 induction l with
 | nil=>simp[aF]
 | cons k l ih=>simp only[aF,List.length_cons];have:=k.size_pos;omega
theorem rj (o:Int) (l:List Ex):aF (bG o l)≤aF l:=by
 induction l with
 | nil=>simp[aF,bG]
 | cons k l ih=>
  have e:bG o (k::l)=(if k.op=o then k.kids else [k])++bG o l:=by simp[bG]
  rw[e,wh]
  simp only[aF]
  split
  ·obtain ⟨o2,l2,ks⟩:=k
   simp only[Ex.kids,size] at*;omega
  ·simp only[aF];omega
theorem aix (l:List Ex) (x:Ex):aF (dk l x)≤aF l+x.size:=by
 unfold dk
 simp only
 split
 ·omega
 ·have:=congrArg aF (FK (eR l x l.length) l)
  rw[wh] at this
  rw[wh]
  simp only[aF]
  omega
theorem Pw: ∀(l acc:List Ex),aF (l.foldl dk acc)≤aF acc+aF l
 | [],acc=>by simp[aF]
 | k::l,acc=>by
  rw[List.foldl_cons]
  have h1:=Pw l (dk acc k)
  have h2:=aix acc k
  simp only[aF]
  omega
theorem pY {o:Int} {l:List Ex} {x:Ex}:x∈bG o l↔∃k∈l,(k.op=o∧x∈k.kids)∨(k.op≠o∧x=k):=by
 unfold bG
 rw[uH]
 constructor
 ·rintro ⟨k,hk,hx⟩
  refine ⟨k,hk,?_⟩
  by_cases h:k.op=o
  ·rw[ag h] at hx;exact .inl ⟨h,hx⟩
  ·rw[ah h] at hx;exact .inr ⟨h,by simpa using hx⟩
 ·rintro ⟨k,hk,h|h⟩
  ·exact ⟨k,hk,by rw[ag h.1];exact h.2⟩
  ·exact ⟨k,hk,by rw[ah h.1];simp[h.2]⟩
theorem IX {o:Int} {l:List Ex} {z:Ex} {m:Nat} (h:1+aF l≤m) (hz:z.size≤m):(gu o l z).size≤m:=by
 match l,h with
 | [],_=>exact hz
 | [k],h=>simp only[gu,aF] at*;omega
 | k::k2::l,h=>simp only[gu,size];omega
theorem IY {n o:Int} {l:List Ex} {z:Ex} (hz:Gd n z) (hl: ∀k∈l,Gd n k) (hn:sD o l) (ho:4≤o∧o≤6):Gd n (gu o l z):=by
 match l,hl,hn with
 | [],_,_=>exact hz
 | [k],h,_=>exact h k (by simp)
 | k::k2::l,h,hn=>
  refine .mk' h hn ?_
  unfold iq
  rw[ah (by omega),ah (by omega),ah (by omega)]
  simp only[List.length_cons,og,lE]
  exact dC (by omega)
section
variable {n:Int} {ks:List Ex} (hk: ∀k∈ks,Gd n k)
include hk
theorem Px (o:Int): ∀k∈bG o ks,Gd n k:=fun x hx=>by
 obtain ⟨k,h,h1|h1⟩:=pY.1 hx
 ·exact (hk k h).kids x h1.2
 ·rw[h1.2];exact hk k h
theorem aiy: ∀k∈bG 5 ks,k.op≠5:=fun x hx=>by
 obtain ⟨k,h,h1|h1⟩:=pY.1 hx
 ·exact ((hk k h).ok.2.2.1 h1.1 x h1.2).1
 ·rw[h1.2];exact h1.1
theorem aiz: ∀k∈bG 4 ks,k.op≠4:=fun x hx=>by
 obtain ⟨k,h,h1|h1⟩:=pY.1 hx
 ·exact (((hk k h).ok.2.2.2.1 h1.1).2 x h1.2).1
 ·rw[h1.2];exact h1.1
theorem aiA: ∀k∈bG 6 ks,k.op≠6:=fun x hx=>by
 obtain ⟨k,h,h1|h1⟩:=pY.1 hx
 ·exact (((hk k h).ok.2.2.2.2 h1.1).2 x h1.2).1
 ·rw[h1.2];exact h1.1
theorem XM:(bG 5 ks).any (fun k=>decide (k.op=1))=ks.any fun k=>decide (k.op=1):=by
 rw[te,mh,mh]
 simp only[dX]
 constructor
 ·rintro ⟨x,hx,h⟩
  obtain ⟨k,h2,h1|h1⟩:=pY.1 hx
  ·exact absurd h ((hk k h2).ok.2.2.1 h1.1 x h1.2).2.1
  ·exact ⟨k,h2,h1.2▸h⟩
 ·rintro ⟨k,h1,h⟩
  exact ⟨k,pY.2 ⟨k,h1,.inr ⟨by omega,rfl⟩⟩,h⟩
theorem aiB:(bG 6 ks).any (fun k=>decide (k.op=1))=ks.any fun k=>decide (k.op=1):=by
 rw[te,mh,mh]
 simp only[dX]
 constructor
 ·rintro ⟨x,hx,h⟩
  obtain ⟨k,h2,h1|h1⟩:=pY.1 hx
  ·exact absurd h (((hk k h2).ok.2.2.2.2 h1.1).2 x h1.2).2.1
  ·exact ⟨k,h2,h1.2▸h⟩
 ·rintro ⟨k,h1,h⟩
  exact ⟨k,pY.2 ⟨k,h1,.inr ⟨by omega,rfl⟩⟩,h⟩
theorem aiC:(bG 4 ks).any univ=ks.any univ:=by
 rw[te,mh,mh]
 constructor
 ·rintro ⟨x,hx,h⟩
  obtain ⟨k,h2,h1|h1⟩:=pY.1 hx
  ·rw[(((hk k h2).ok.2.2.2.1 h1.1).2 x h1.2).2.2] at h;cases h
  ·exact ⟨k,h2,h1.2▸h⟩
 ·rintro ⟨k,h1,h⟩
  have:=ly h
  exact ⟨k,pY.2 ⟨k,h1,.inr ⟨by omega,rfl⟩⟩,h⟩
end
theorem wi {l:Int} {ks:List Ex}:ca 5 l ks=if (bG 5 ks).any (fun k=>decide (k.op=1)) then fk else gu 5 ((bG 5 ks).filter fun k=>decide (k.op≠2)) fO:=by
 unfold ca;rw[ah (by omega),ah (by omega),ag rfl]
theorem C6 {l:Int} {ks:List Ex}:ca 4 l ks=if (bG 4 ks).any univ then mK else gu 4 (((bG 4 ks).filter fun k=>decide (k.op≠1)).foldl dk []) fk:=by
 unfold ca;rw[ah (by omega),ah (by omega),ah (by omega),ag rfl]
theorem C7 {l:Int} {ks:List Ex}:ca 6 l ks=if (bG 6 ks).any (fun k=>decide (k.op=1)) then fk else gu 6 (((bG 6 ks).filter fun k=> !(univ k)).foldl dk []) mK:=by
 unfold ca;rw[ah (by omega),ah (by omega),ah (by omega),ah (by omega),ag rfl]
theorem C8 {l:Int} {k:Ex}:ca 7 l [k]=if k.op=1∨k.op=2 then fO else if k.op=7∨univ k=true then k else .node 7 l [k]:=by
 unfold ca;rw[ah (by omega),ag rfl];rfl
theorem C9 {l:Int} {k:Ex}:ca 8 l [k]=if k.op=8 then k.kids.getD 0 aQ else .node 8 l [k]:=by
 unfold ca;rw[ag rfl];rfl
theorem nF {o l:Int} (h:o=1∨o=2∨o=3) {ks:List Ex}:ca o l ks= .node o l ks:=by
 unfold ca;rw[ah (by omega),ah (by omega),ah (by omega),ah (by omega),ah (by omega)]
theorem XN {n:Int} {l:List Ex} (h: ∀k∈l,Gd n k): ∀k∈l.foldl dk [],Gd n k:=fun k hk=>by
 rcases ((C2 l [] .nil).2 k).1 hk with h1|h1
 ·exact h k h1
 ·cases h1
theorem zk {l:List Ex} {x:Ex}:x∈l.foldl dk []↔x∈l:=by
 rw[(C2 l [] .nil).2 x];simp
theorem zl {l:List Ex}:kb (l.foldl dk []):=(C2 l [] .nil).1
theorem Py {l:List Ex} (h: ∀k∈l,k.op≠5∧k.op≠1∧k.op≠2):sD 5 l:=⟨by simp,by simp,fun _=>h,by simp,by simp⟩
theorem aiD {l:List Ex} (h:kb l∧∀k∈l,k.op≠4∧k.op≠1∧univ k=false):sD 4 l:=⟨by simp,by simp,by simp,fun _=>h,by simp⟩
theorem aiE {l:List Ex} (h:kb l∧∀k∈l,k.op≠6∧k.op≠1∧univ k=false):sD 6 l:=⟨by simp,by simp,by simp,by simp,fun _=>h⟩
theorem any_false {α:Type} {p:α→Bool} {l:List α} (h: ¬l.any p=true): ∀x∈l,p x=false:=fun x hx=>by
 cases hp:p x with
 | false=>rfl
 | true=>exact absurd (mh.2 ⟨x,hx,hp⟩) h
theorem aiF {n o l:Int} {ks:List Ex} (hk: ∀k∈ks,Gd n k) (hs:iq o l ks.length n=true):Gd n (ca o l ks):=by
 rcases lS hs with ⟨rfl,h1,_⟩|⟨rfl,⟨rfl,h1⟩|⟨rfl,h1⟩|⟨rfl,h1⟩|⟨rfl,h1⟩|⟨rfl,h1⟩|⟨rfl,h1⟩|⟨rfl,h1⟩⟩
 ·rw[nF (by omega)];exact .mk' hk ⟨by simp,by simp,by simp,by simp,by simp⟩ hs
 ·rw[nF (by omega)];exact .mk' hk ⟨by simp,by simp,by simp,by simp,by simp⟩ hs
 ·rw[nF (by omega)];exact .mk' hk ⟨by simp,by simp,by simp,by simp,by simp⟩ hs
 ·rw[C6]
  split
  ·exact XL
  ·rename_i hu
   refine IY C4 (XN fun k h=>Px hk 4 k (qs.1 h).1) (aiD ⟨zl,fun k h=> ?_⟩) (by omega)
   have h2:=qs.1 (zk.1 h)
   exact ⟨aiz hk k h2.1,ly h2.2,any_false hu k h2.1⟩
 ·rw[wi]
  split
  ·exact C4
  ·rename_i hu
   refine IY IV (fun k h=>Px hk 5 k (qs.1 h).1) (Py fun k h=> ?_) (by omega)
   have h2:=qs.1 h
   exact ⟨aiy hk k h2.1,of_decide_eq_false (any_false hu k h2.1),ly h2.2⟩
 ·rw[C7]
  split
  ·exact C4
  ·rename_i hu
   refine IY XL (XN fun k h=>Px hk 6 k (qs.1 h).1) (aiE ⟨zl,fun k h=> ?_⟩) (by omega)
   have h2:=qs.1 (zk.1 h)
   exact ⟨aiA hk k h2.1,of_decide_eq_false (any_false hu k h2.1),by simpa using h2.2⟩
 ·match ks,h1 with
  | [k],_=>
   rw[C8]
   split
   ·exact IV
   ·split
    ·exact hk k (by simp)
    ·rename_i h2 h3
     refine .mk' hk ⟨by simp,fun _ x hx=> ?_,by simp,by simp,by simp⟩ hs
     rw[cV.1 hx]
     exact ⟨by omega,by omega,fun h=>h3 (.inl h),by simpa using fun h=>h3 (.inr h)⟩
 ·match ks,h1 with
  | [k],_=>
   rw[C9]
   split
   ·rename_i h8
    have hg:=hk k (by simp)
    have pI:=lS hg.shape
    obtain ⟨o2,l2,nG⟩:=k
    simp only[Ex.op,Ex.kids,Ex.letter] at*
    match nG,(show (nG.length:Int)=1 by omega) with
    | [x],_=>exact hg.kids x (by simp[Ex.kids])
   ·rename_i h8
    refine .mk' hk ⟨fun _ x hx=> ?_,by simp,by simp,by simp,by simp⟩ hs
    rw[cV.1 hx]
    exact h8
theorem aiG {n o l:Int} {ks:List Ex} (hs:iq o l ks.length n=true):(ca o l ks).size≤1+aF ks:=by
 have hl:=kH ks
 have z1:fk.size=1:=by simp[fk,size,aF]
 have z2:fO.size=1:=by simp[fO,size,aF]
 have z3:mK.size=2:=by simp[mK,fk,size,aF]
 rcases lS hs with ⟨rfl,h1,_⟩|⟨rfl,⟨rfl,h1⟩|⟨rfl,h1⟩|⟨rfl,h1⟩|⟨rfl,h1⟩|⟨rfl,h1⟩|⟨rfl,h1⟩|⟨rfl,h1⟩⟩
 ·rw[nF (by omega)];simp only[size];omega
 ·rw[nF (by omega)];simp only[size];omega
 ·rw[nF (by omega)];simp only[size];omega
 ·rw[C6]
  have a1:=rj 4 ks
  have a2:=IW (fun k=>decide (k.op≠1)) (bG 4 ks)
  have a3:=Pw ((bG 4 ks).filter fun k=>decide (k.op≠1)) []
  simp only[aF] at a3
  split
  ·omega
  ·exact IX (by omega) (by omega)
 ·rw[wi]
  have a1:=rj 5 ks
  have a2:=IW (fun k=>decide (k.op≠2)) (bG 5 ks)
  split
  ·omega
  ·exact IX (by omega) (by omega)
 ·rw[C7]
  have a1:=rj 6 ks
  have a2:=IW (fun k=> !(univ k)) (bG 6 ks)
  have a3:=Pw ((bG 6 ks).filter fun k=> !(univ k)) []
  simp only[aF] at a3
  split
  ·omega
  ·exact IX (by omega) (by omega)
 ·match ks,h1 with
  | [k],_=>
   rw[C8]
   simp only[aF] at*
   split
   ·omega
   ·split
    ·omega
    ·simp only[size,aF];omega
 ·match ks,h1 with
  | [k],_=>
   rw[C9]
   simp only[aF] at*
   split
   ·obtain ⟨o2,l2,nG⟩:=k
    match nG with
    | []=>simp[Ex.kids,aQ,size,aF]
    | x::nG=>simp only[Ex.kids,List.getD_cons_zero,size,aF];omega
   ·simp only[size,aF];omega
theorem wj {o l:Int} {ks:List Ex}:dv (.node o l ks)=ca o l (ks.map dv):=by rw[dv,XH]
theorem Pz {n:Int}: ∀e:Ex,e.wf n=true→Gd n (dv e):=ind fun o l ks ih hw=>by
 obtain ⟨h1,h2⟩:=nE hw
 rw[wj]
 refine aiF (fun k hk=> ?_) (by simpa using h1)
 obtain ⟨x,hx,rfl⟩:=fG.1 hk
 exact ih x hx (h2 x hx)
theorem PA {n:Int}: ∀e:Ex,e.wf n=true→(dv e).size≤e.size:=ind fun o l ks ih hw=>by
 obtain ⟨h1,h2⟩:=nE hw
 have: ∀ks:List Ex,(∀k∈ks,(dv k).size≤k.size)→aF (ks.map dv)≤aF ks:=by
  intro ks
  induction ks with
  | nil=>intro _;simp[aF]
  | cons k ks ih=>intro h;have a:=h k (by simp);have b:=ih fun k hk=>h k (by simp[hk]);simp only[dZ,aF];omega
 have h3:=this ks fun k hk=>ih k hk (h2 k hk)
 rw[wj]
 have:=aiG (n:=n) (o:=o) (l:=l) (ks:=ks.map dv) (by simpa using h1)
 simp only[size]
 omega
theorem PB {n:Int} (hn:n≤6): ∀e:Ex,e.wf n=true→e.size≤1000000→e.Ok:=ind fun o l ks ih hw hs=>by
 obtain ⟨h1,h2⟩:=nE hw
 have hl:=kH ks
 simp only[size] at hs
 have h3:=lS h1
 have hm:ks.length≤maxLen:=by unfold maxLen;omega
 exact .node (by omega) (by omega) hm fun k hk=>ih k hk (h2 k hk) (by have:=ri hk;omega)
theorem IZ {o:Int}: ∀{ks:List Ex},(∀k∈ks,k.op≠o)→bG o ks=ks
 | [],_=>rfl
 | k::ks,h=>by
  have e:bG o (k::ks)=(if k.op=o then k.kids else [k])++bG o ks:=by simp[bG]
  rw[e,ah (h k (by simp)),IZ fun k hk=>h k (by simp[hk])]
  rfl
theorem I0 {o:Int} {l:List Ex} {z:Ex} (h:2≤l.length):gu o l z= .node o 0 l:=by
 match l,h with
 | k::k2::l,_=>rfl
theorem XO {l:List Ex} (h:kb l):l.foldl dk []=l:=zj zl h fun x=>zk
theorem ua {α:Type} {p:α→Bool} {l:List α} (h: ∀x∈l,p x=false):l.any p=false:=by
 cases e:l.any p with
 | false=>rfl
 | true=>obtain ⟨x,h1,h2⟩:=mh.1 e;rw[h x h1] at h2;cases h2
theorem XP {n o l:Int} {ks:List Ex} (h:Gd n (.node o l ks)):ca o l ks= .node o l ks:=by
 have hs:iq o l ks.length n=true:=h.shape
 have hk:sD o ks:=h.ok
 rcases lS hs with ⟨rfl,h1,_⟩|⟨rfl,⟨rfl,h1⟩|⟨rfl,h1⟩|⟨rfl,h1⟩|⟨rfl,h1⟩|⟨rfl,h1⟩|⟨rfl,h1⟩|⟨rfl,h1⟩⟩
 ·rw[nF (by omega)]
 ·rw[nF (by omega)]
 ·rw[nF (by omega)]
 ·have h4:=hk.2.2.2.1 rfl
  rw[C6,IZ fun k hk=>(h4.2 k hk).1,ua fun k hk=>(h4.2 k hk).2.2,oo.2 fun k hk=>dC (h4.2 k hk).2.1,XO h4.1,I0 (by omega)]
  rfl
 ·have h5:=hk.2.2.1 rfl
  rw[wi,IZ fun k hk=>(h5 k hk).1,ua fun k hk=>cL (h5 k hk).2.1,oo.2 fun k hk=>dC (h5 k hk).2.2,I0 (by omega)]
  rfl
 ·have h6:=hk.2.2.2.2 rfl
  rw[C7,IZ fun k hk=>(h6.2 k hk).1,ua fun k hk=>cL (h6.2 k hk).2.1,oo.2 fun k hk=>by rw[(h6.2 k hk).2.2];rfl,XO h6.1,I0 (by omega)]
  rfl
 ·match ks,h1 with
  | [k],_=>
   have h7:=hk.2.1 rfl k (by simp)
   rw[C8,ah (by omega),ah]
   rintro (h|h)
   ·exact h7.2.2.1 h
   ·rw[h7.2.2.2] at h;cases h
 ·match ks,h1 with
  | [k],_=>rw[C9,ah (hk.1 rfl k (by simp))]
theorem I1 {n:Int}: ∀e:Ex,Gd n e→dv e=e:=ind fun o l ks ih h=>by
 have:ks.map dv=ks:=by
  have h2: ∀k∈ks,dv k=k:=fun k hk=>ih k hk (h.kids k hk)
  calc ks.map dv=ks.map id:=qm h2
   _=ks:=List.map_id ks
 rw[wj,this,XP h]
def fY (e:Ex):List Ex:=if e.op=5 then e.kids else if e.op=2 then [] else [e]
section
variable {n:Int} {ks:List Ex} (hk: ∀k∈ks,Gd n k)
include hk
theorem ff5:(bG 5 ks).filter (fun k=>decide (k.op≠2))=ks.flatMap fY:=by
 induction ks with
 | nil=>rfl
 | cons k ks ih=>
  have e:bG 5 (k::ks)=(if k.op=5 then k.kids else [k])++bG 5 ks:=by simp[bG]
  rw[e,mX,iC,ih fun k h=>hk k (by simp[h])]
  refine congrArg (· ++_) ?_
  unfold fY
  have h:=hk k (by simp)
  by_cases h4:k.op=5
  ·rw[ag h4,ag h4]
   exact oo.2 fun x hx=>dC (h.ok.2.2.1 h4 x hx).2.2
  ·rw[ah h4,ah h4]
   by_cases h1:k.op=2
   ·rw[ag h1];simp[h1]
   ·rw[ah h1];simp[h1]
theorem zm {l:Int}:ca 5 l ks=if ks.any (fun k=>decide (k.op=1)) then fk else gu 5 (ks.flatMap fY) fO:=by
 rw[wi,XM hk,ff5 hk]
theorem I4 (hu:ks.any (fun k=>decide (k.op=1))=false): ∀x∈ks.flatMap fY,x.op≠5∧x.op≠1∧x.op≠2:=fun x hx=>by
 obtain ⟨k,h1,h2⟩:=uH.1 hx
 unfold fY at h2
 split at h2
 ·rename_i h4;exact (hk k h1).ok.2.2.1 h4 x h2
 ·split at h2
  ·cases h2
  ·rename_i h4 h5
   rw[cV.1 h2]
   exact ⟨h4,of_decide_eq_false (any_false (by rw[hu];simp) k h1),h5⟩
end
theorem XQ {R:List Ex} (h: ∀x∈R,x.op≠5∧x.op≠1∧x.op≠2):fY (gu 5 R fO)=R∧(gu 5 R fO).op≠1:=by
 match R,h with
 | [],_=>exact ⟨by simp[gu,fY,fO,Ex.op],by simp[gu,fO,Ex.op]⟩
 | [k],h=>have:=h k (by simp);exact ⟨by simp[gu,fY,this.1,this.2.2],this.2.1⟩
 | k::k2::R,_=>exact ⟨by simp[gu,fY,Ex.op,Ex.kids],by simp[gu,Ex.op]⟩
theorem XR {n:Int} {A:List Ex} (hA: ∀k∈A,Gd n k):Gd n (ca 5 0 A):=by
 rw[zm hA]
 split
 ·exact C4
 ·rename_i hu
  have ha:=I4 hA (by simpa using hu)
  refine IY IV (fun x hx=> ?_) (Py ha) (by omega)
  obtain ⟨k,h1,h2⟩:=uH.1 hx
  unfold fY at h2
  split at h2
  ·exact (hA k h1).kids x h2
  ·split at h2
   ·cases h2
   ·rw[cV.1 h2];exact hA k h1
theorem XS {n l:Int} {P A B:List Ex} (hP: ∀k∈P,Gd n k) (hA: ∀k∈A,Gd n k) (hB: ∀k∈B,Gd n k):ca 5 l (P++ca 5 0 A::B)=ca 5 l (P++(A++B)):=by
 have hg:=XR hA
 have h1: ∀k∈P++ca 5 0 A::B,Gd n k:=fun k hk=>by
  rcases cZ.1 hk with hk|hk
  ·exact hP k hk
  ·rcases cH.1 hk with rfl|hk
   ·exact hg
   ·exact hB k hk
 have h2: ∀k∈P++(A++B),Gd n k:=fun k hk=>(cZ.1 hk).elim (hP k) fun hk=>(cZ.1 hk).elim (hA k) (hB k)
 rw[zm h1,zm h2,List.any_append,List.any_append,List.any_cons,List.any_append]
 rw[zm hA] at*
 by_cases hu:A.any (fun k=>decide (k.op=1))=true
 ·rw[ag hu,hu];simp[fk,Ex.op]
 ·have fW:A.any (fun k=>decide (k.op=1))=false:=by simpa using hu
  obtain ⟨m1,m2⟩:=XQ (R:=A.flatMap fY) (I4 hA fW)
  rw[ah hu,cL m2,fW]
  simp only[iC,xh,m1]
theorem I5 {n:Int} {x:Ex} (h:Gd n x):ca 5 0 [x]=x:=by
 rw[zm (n:=n) (by simpa using h)]
 simp only[List.any_cons,List.any_nil,Bool.or_false,iC,List.flatMap_nil,dc]
 by_cases hu:x.op=1
 ·rw[dC hu,ag rfl,empty_eq h hu]
 ·rw[cL hu,ah (by simp)]
  unfold fY
  by_cases h4:x.op=5
  ·rw[ag h4]
   have hs:=lS h.shape
   obtain ⟨o,l,ks⟩:=x
   simp only[Ex.op,Ex.kids,Ex.letter] at*
   rw[I0 (by omega),h4,show l=0 by omega]
  ·rw[ah h4]
   by_cases h1:x.op=2
   ·rw[ag h1,unit_eq h h1];rfl
   ·rw[ah h1];rfl
mutual
def pX (c:Int):Ex→List Ex
 | .node o l ks=>if o=3 then (if l=c then [fO] else []) else if o=4 then fZ c ks else if o=7 then (sE c ks).map fun p=>ca 5 0 [p,.node o l ks] else if o=5 then gv c ks else []
def fZ (c:Int):List Ex→List Ex
 | []=>[]
 | k::ks=>pX c k++fZ c ks
def sE (c:Int):List Ex→List Ex
 | []=>[]
 | k::_=>pX c k
def gv (c:Int):List Ex→List Ex
 | []=>[]
 | k::ks=>((pX c k).map fun p=>ca 5 0 (p::ks))++(if k.dJ=true then gv c ks else [])
end
mutual
def aX:Ex→List Ex
 | .node o l ks=>if o=3 then [fO] else if o=4 then sF ks else if o=7 then (nH ks).map fun p=>ca 5 0 [p,.node o l ks] else if o=5 then nJ ks else []
def sF:List Ex→List Ex
 | []=>[]
 | k::ks=>aX k++sF ks
def nH:List Ex→List Ex
 | []=>[]
 | k::_=>aX k
def nJ:List Ex→List Ex
 | []=>[]
 | k::ks=>((aX k).map fun p=>ca 5 0 (p::ks))++nJ ks
end
theorem lT {c o l:Int} {ks:List Ex}:pX c (.node o l ks)=if o=3 then (if l=c then [fO] else []) else if o=4 then fZ c ks else if o=7 then (sE c ks).map (fun p=>ca 5 0 [p,.node o l ks]) else if o=5 then gv c ks else []:=by rw[pX]
theorem ub {o l:Int} {ks:List Ex}:aX (.node o l ks)=if o=3 then [fO] else if o=4 then sF ks else if o=7 then (nH ks).map (fun p=>ca 5 0 [p,.node o l ks]) else if o=5 then nJ ks else []:=by rw[aX]
theorem I6 {c:Int} {x:Ex}: ∀{ks:List Ex},x∈fZ c ks↔∃k∈ks,x∈pX c k
 | []=>by simp[fZ]
 | k::ks=>by rw[fZ,cZ,I6 (ks:=ks)];simp
theorem zn {x:Ex}: ∀{ks:List Ex},x∈sF ks↔∃k∈ks,x∈aX k
 | []=>by simp[sF]
 | k::ks=>by rw[sF,cZ,zn (ks:=ks)];simp
theorem rk {c:Int} {k:Ex} {ks:List Ex} {x:Ex}:x∈gv c (k::ks)↔(∃p∈pX c k,x=ca 5 0 (p::ks))∨(k.dJ=true∧x∈gv c ks):=by
 rw[gv,cZ,fG]
 constructor
 ·rintro (⟨p,hp,rfl⟩|h)
  ·exact .inl ⟨p,hp,rfl⟩
  ·split at h
   ·next hk=>exact .inr ⟨hk,h⟩
   ·cases h
 ·rintro (⟨p,hp,rfl⟩|⟨hk,h⟩)
  ·exact .inl ⟨p,hp,rfl⟩
  ·rw[ag hk];exact .inr h
theorem uc {k:Ex} {ks:List Ex} {x:Ex}:x∈nJ (k::ks)↔(∃p∈aX k,x=ca 5 0 (p::ks))∨x∈nJ ks:=by
 rw[nJ,cZ,fG]
 simp only[eq_comm]
def Gn (e:Ex):Prop:=Gd 6 e∧e.op≠1
theorem PC {K:List Ex} (h: ∀k∈K,Gn k):K.any (fun k=>decide (k.op=1))=false:=ua fun x hx=>cL (h x hx).2
theorem join_eq {K:List Ex} (h: ∀k∈K,Gn k):ca 5 0 K=gu 5 (K.flatMap fY) fO:=by
 rw[zm (n:=6) fun k hk=>(h k hk).1,PC h];rfl
theorem XT {K:List Ex} (h: ∀k∈K,Gn k): ∀x∈K.flatMap fY,Gn x∧x.op≠5∧x.op≠2:=fun x hx=>by
 have ha:=I4 (n:=6) (fun k hk=>(h k hk).1) (PC h) x hx
 obtain ⟨k,h1,h2⟩:=uH.1 hx
 refine ⟨⟨?_,ha.2.1⟩,ha.1,ha.2.2⟩
 unfold fY at h2
 split at h2
 ·exact (h k h1).1.kids x h2
 ·split at h2
  ·cases h2
  ·rw[cV.1 h2];exact (h k h1).1
theorem ud {K:List Ex} (h: ∀k∈K,Gn k):Gn (ca 5 0 K):=by
 refine ⟨XR fun k hk=>(h k hk).1,?_⟩
 rw[join_eq h]
 exact (XQ (I4 (n:=6) (fun k hk=>(h k hk).1) (PC h))).2
theorem XU:Gn fO:=⟨IV,by simp[fO,Ex.op]⟩
theorem PD: ∀{M:List Ex},(∀x∈M,x.op≠5∧x.op≠2)→M.flatMap fY=M
 | [],_=>rfl
 | m::M,h=>by
  have hm:=h m (by simp)
  rw[iC,PD fun x hx=>h x (by simp[hx])]
  unfold fY
  rw[ah hm.1,ah hm.2]
  rfl
theorem XV {p:Ex} {K:List Ex} (hp:Gn p) (h: ∀k∈K,Gn k):ca 5 0 (p::K.flatMap fY)=ca 5 0 (p::K):=by
 have hm:=XT h
 have h1: ∀k∈p::K.flatMap fY,Gn k:=fun k hk=>by
  rcases cH.1 hk with rfl|hk
  ·exact hp
  ·exact (hm k hk).1
 have h2: ∀k∈p::K,Gn k:=fun k hk=>by
  rcases cH.1 hk with rfl|hk
  ·exact hp
  ·exact h k hk
 rw[join_eq h1,join_eq h2,iC,iC,PD fun x hx=>(hm x hx).2]
theorem wk {e:Ex} (h:Gn e) (ho:e.op=5∨e.op=4∨e.op=7): ∀k∈e.kids,Gn k:=fun k hk=>by
 refine ⟨h.1.kids k hk,?_⟩
 rcases ho with ho|ho|ho
 ·exact (h.1.ok.2.2.1 ho k hk).2.1
 ·exact ((h.1.ok.2.2.2.1 ho).2 k hk).2.1
 ·exact (h.1.ok.2.1 ho k hk).1
theorem o5 {c:Int}: ∀e:Ex,Gn e→∀x∈pX c e,Gn x:=ind fun o l ks ih he x hx=>by
 have hk:(o=5∨o=4∨o=7)→∀k∈ks,Gn k:=fun ho=>wk he ho
 rw[lT] at hx
 split at hx
 ·split at hx
  ·rw[cV.1 hx];exact XU
  ·cases hx
 split at hx
 ·next ho=>
  obtain ⟨k,h1,h2⟩:=I6.1 hx
  exact ih k h1 (hk (.inr (.inl ho)) k h1) x h2
 split at hx
 ·next ho=>
  obtain ⟨p,hp,rfl⟩:=fG.1 hx
  have rl:Gn p:=by
   cases ks with
   | nil=>simp[sE] at hp
   | cons k ks=>rw[sE] at hp;exact ih k (by simp) (hk (.inr (.inr ho)) k (by simp)) p hp
  exact ud fun k hk=>by
   rcases cH.1 hk with rfl|hk
   ·exact rl
   ·rw[cV.1 hk];exact he
 split at hx
 ·next ho=>
  have ej:=hk (.inl ho)
  clear hk he
  induction ks with
  | nil=>simp[gv] at hx
  | cons k ks kI=>
   rcases rk.1 hx with ⟨p,hp,rfl⟩|⟨_,h⟩
   ·exact ud fun z hz=>by
     rcases cH.1 hz with rfl|hz
     ·exact ih k (by simp) (ej k (by simp)) _ hp
     ·exact ej z (by simp[hz])
   ·exact kI (fun z hz=>ih z (by simp[hz])) h fun z hz=>ej z (by simp[hz])
 ·cases hx
theorem PE {c:Int} {x:Ex}: ∀{A B:List Ex},x∈gv c (A++B)↔(∃P k Q p,A=P++k::Q∧(∀z∈P,z.dJ=true)∧p∈pX c k∧x=ca 5 0 (p::(Q++B)))∨((∀z∈A,z.dJ=true)∧x∈gv c B)
 | [],B=>by simp
 | k::A,B=>by
  rw[List.cons_append,rk,PE (A:=A)]
  constructor
  ·rintro (⟨p,hp,rfl⟩|⟨hk,⟨P,k',Q,p,rfl,h1,h2,rfl⟩|⟨h1,h2⟩⟩)
   ·exact .inl ⟨[],k,A,p,rfl,by simp,hp,rfl⟩
   ·exact .inl ⟨k::P,k',Q,p,rfl,fun z hz=>by
     rcases cH.1 hz with rfl|hz
     ·exact hk
     ·exact h1 z hz,h2,rfl⟩
   ·exact .inr ⟨fun z hz=>by
     rcases cH.1 hz with rfl|hz
     ·exact hk
     ·exact h1 z hz,h2⟩
  ·rintro (⟨P,k',Q,p,e,h1,h2,rfl⟩|⟨h1,h2⟩)
   ·cases P with
    | nil=>
     obtain ⟨rfl,rfl⟩:=List.cons.inj e
     exact .inl ⟨p,h2,rfl⟩
    | cons a P=>
     obtain ⟨rfl,rfl⟩:=List.cons.inj e
     exact .inr ⟨h1 _ (by simp),.inl ⟨P,k',Q,p,rfl,fun z hz=>h1 z (by simp[hz]),h2,rfl⟩⟩
   ·exact .inr ⟨h1 k (by simp),.inr ⟨fun z hz=>h1 z (by simp[hz]),h2⟩⟩
theorem aiH {l:Int} {ks:List Ex}:(Ex.node 5 l ks).dJ=true↔∀k∈ks,k.dJ=true:=by
 have: ∀ks:List Ex,o4 ks=true↔∀k∈ks,k.dJ=true:=by
  intro ks
  induction ks with
  | nil=>simp[o4]
  | cons k ks ih=>simp[o4,ih]
 simp only[dJ]
 simpa using this ks
theorem PF {e:Ex} {o:Int} (h:e.op=o):e= .node o e.letter e.kids:=by
 obtain ⟨o',l,ks⟩:=e
 obtain rfl:o'=o:=h
 rfl
theorem XW {c:Int} {x:Ex}: ∀{K:List Ex},(∀k∈K,Gn k)→x∈gv c (K.flatMap fY)→x∈gv c K
 | [],_,h=>h
 | k::K,hg,h=>by
  have I7: ∀z∈K,Gn z:=fun z hz=>hg z (by simp[hz])
  have hk:=hg k (by simp)
  have ih:=XW (c:=c) (x:=x) I7
  rw[iC] at h
  rw[rk]
  by_cases h5:k.op=5
  ·have hm:fY k=k.kids:=by unfold fY;rw[ag h5]
   have mL:=wk hk (.inl h5)
   have hp:pX c k=gv c k.kids:=by
    have:=congrArg (pX c) (PF h5)
    rw[lT] at this
    simpa using this
   have hn:k.dJ=true↔∀z∈k.kids,z.dJ=true:=by
    have:=congrArg Ex.dJ (PF h5)
    rw[this];exact aiH
   rw[hm] at h
   rcases PE.1 h with ⟨P,q,Q,p,e,h1,h2,rfl⟩|⟨h1,h2⟩
   ·refine .inl ⟨ca 5 0 (p::Q),?_,?_⟩
    ·rw[hp,e]
     have:=(PE (c:=c) (x:=ca 5 0 (p::Q)) (A:=P++q::Q) (B:=[])).2 (.inl ⟨P,q,Q,p,rfl,h1,h2,by simp⟩)
     simpa using this
    ·have hq:Gn q:=mL q (by rw[e];simp)
     have rl:=o5 (c:=c) q hq p h2
     have hQ: ∀z∈p::Q,Gn z:=fun z hz=>by
      rcases cH.1 hz with rfl|hz
      ·exact rl
      ·exact mL z (by rw[e];simp[hz])
     have e1:=XS (n:=6) (l:=0) (P:=[]) (A:=p::Q) (B:=K) (by simp) (fun z hz=>(hQ z hz).1) (fun z hz=>(I7 z hz).1)
     rw[List.nil_append,List.nil_append] at e1
     rw[e1]
     have oN: ∀z∈Q++K,Gn z:=fun z hz=>(cZ.1 hz).elim (fun hz=>hQ z (by simp[hz])) (I7 z)
     have e2:=XV rl oN
     rw[List.cons_append,←e2,xh]
     have hQ5: ∀z∈Q,z.op≠5∧z.op≠2:=fun z hz=>by
      have:=hk.1.ok.2.2.1 h5 z (by rw[e];simp[hz])
      exact ⟨this.1,this.2.2⟩
     rw[PD hQ5]
   ·exact .inr ⟨hn.2 h1,ih h2⟩
  ·by_cases h2:k.op=2
   ·have hm:fY k=[]:=by unfold fY;rw[ah h5,ag h2]
    rw[hm,List.nil_append] at h
    refine .inr ⟨?_,ih h⟩
    have:=congrArg Ex.dJ (PF h2)
    rw[this];simp[dJ]
   ·have hm:fY k=[k]:=by unfold fY;rw[ah h5,ah h2]
    rw[hm,List.singleton_append,rk] at h
    rcases h with ⟨p,hp,rfl⟩|⟨hn,h⟩
    ·exact .inl ⟨p,hp,XV (o5 k hk p hp) I7⟩
    ·exact .inr ⟨hn,ih h⟩
theorem XX {c:Int} {K:List Ex} (hg: ∀k∈K,Gn k) {x:Ex} (h:x∈pX c (ca 5 0 K)):x∈gv c K:=by
 refine XW hg ?_
 rw[join_eq hg] at h
 have hm:=XT hg
 generalize K.flatMap fY=M at*
 match M,hm,h with
 | [],_,h=>simp[gu,fO,lT] at h
 | [m],hm,h=>
  have h:x∈pX c m:=h
  rw[rk]
  have hx:=o5 m (hm m (by simp)).1 x h
  exact .inl ⟨x,h,(I5 hx.1).symm⟩
 | m::m2::M,_,h=>
  have h:x∈pX c (.node 5 0 (m::m2::M)):=h
  rw[lT] at h
  simpa using h
theorem I8 {c:Int}: ∀e:Ex,∀x∈pX c e,x∈aX e:=ind fun o l ks ih x hx=>by
 rw[lT] at hx
 rw[ub]
 split at hx
 ·next ho=>
  rw[ag ho]
  split at hx
  ·exact hx
  ·cases hx
 next h3=>
 rw[ah h3]
 split at hx
 ·next ho=>
  rw[ag ho]
  obtain ⟨k,h1,h2⟩:=I6.1 hx
  exact zn.2 ⟨k,h1,ih k h1 x h2⟩
 next h4=>
 rw[ah h4]
 split at hx
 ·next ho=>
  rw[ag ho]
  obtain ⟨p,hp,rfl⟩:=fG.1 hx
  refine fG.2 ⟨p,?_,rfl⟩
  cases ks with
  | nil=>simp[sE] at hp
  | cons k ks=>rw[sE] at hp;rw[nH];exact ih k (by simp) p hp
 next h7=>
 rw[ah h7]
 split at hx
 ·next ho=>
  rw[ag ho]
  clear h3 h4 h7 ho
  induction ks with
  | nil=>simp[gv] at hx
  | cons k ks kI=>
   rcases rk.1 hx with ⟨p,hp,rfl⟩|⟨_,h⟩
   ·exact uc.2 (.inl ⟨p,ih k (by simp) p hp,rfl⟩)
   ·exact uc.2 (.inr (kI (fun z hz=>ih z (by simp[hz])) h))
 ·cases hx
theorem PH: ∀e:Ex,Gn e→∀x∈aX e,Gn x:=ind fun o l ks ih he x hx=>by
 have hk:(o=5∨o=4∨o=7)→∀k∈ks,Gn k:=fun ho=>wk he ho
 rw[ub] at hx
 split at hx
 ·rw[cV.1 hx];exact XU
 split at hx
 ·next ho=>
  obtain ⟨k,h1,h2⟩:=zn.1 hx
  exact ih k h1 (hk (.inr (.inl ho)) k h1) x h2
 split at hx
 ·next ho=>
  obtain ⟨p,hp,rfl⟩:=fG.1 hx
  have rl:Gn p:=by
   cases ks with
   | nil=>simp[nH] at hp
   | cons k ks=>rw[nH] at hp;exact ih k (by simp) (hk (.inr (.inr ho)) k (by simp)) p hp
  exact ud fun k hk=>by
   rcases cH.1 hk with rfl|hk
   ·exact rl
   ·rw[cV.1 hk];exact he
 split at hx
 ·next ho=>
  have ej:=hk (.inl ho)
  clear hk he
  induction ks with
  | nil=>simp[nJ] at hx
  | cons k ks kI=>
   rcases uc.1 hx with ⟨p,hp,rfl⟩|h
   ·exact ud fun z hz=>by
     rcases cH.1 hz with rfl|hz
     ·exact ih k (by simp) (ej k (by simp)) _ hp
     ·exact ej z (by simp[hz])
   ·exact kI (fun z hz=>ih z (by simp[hz])) h fun z hz=>ej z (by simp[hz])
 ·cases hx
theorem aiI {c:Int}: ∀e:Ex,Gn e→∀q∈aX e,∀x∈pX c q,x∈aX e:=ind fun o l ks ih he q hq x hx=>by
 have hk:(o=5∨o=4∨o=7)→∀k∈ks,Gn k:=fun ho=>wk he ho
 rw[ub] at hq⊢
 split at hq
 ·rw[cV.1 hq,fO,lT] at hx
  simp at hx
 next h3=>
 split at hq
 ·next ho=>
  rw[ah h3,ag ho]
  obtain ⟨k,h1,h2⟩:=zn.1 hq
  exact zn.2 ⟨k,h1,ih k h1 (hk (.inr (.inl ho)) k h1) q h2 x hx⟩
 next h4=>
 split at hq
 ·next ho=>
  rw[ah h3,ah h4,ag ho]
  obtain ⟨p,hp,rfl⟩:=fG.1 hq
  cases ks with
  | nil=>simp[nH] at hp
  | cons k ks=>
   rw[nH] at hp
   have ej:=hk (.inr (.inr ho)) k (by simp)
   have rl:=PH k ej p hp
   have PI: ∀z∈[p,Ex.node o l (k::ks)],Gn z:=fun z hz=>by
    rcases cH.1 hz with rfl|hz
    ·exact rl
    ·rw[cV.1 hz];exact he
   rcases rk.1 (XX PI hx) with ⟨p',hp',rfl⟩|⟨_,h⟩
   ·exact fG.2 ⟨p',by rw[nH];exact ih k (by simp) ej p hp p' hp',rfl⟩
   ·rcases rk.1 h with ⟨p',hp',rfl⟩|⟨_,h⟩
    ·rw[I5 (o5 _ he p' hp').1]
     have:=I8 _ p' hp'
     rw[ub,ah h3,ah h4,ag ho] at this
     exact this
    ·simp[gv] at h
 next h7=>
 split at hq
 ·next ho=>
  rw[ah h3,ah h4,ah h7,ag ho]
  have ej:=hk (.inl ho)
  clear h3 h4 h7 ho hk he
  induction ks with
  | nil=>simp[nJ] at hq
  | cons k ks kI=>
   have bd: ∀z∈ks,Gn z:=fun z hz=>ej z (by simp[hz])
   rcases uc.1 hq with ⟨p,hp,rfl⟩|h
   ·have rl:=PH k (ej k (by simp)) p hp
    have PI: ∀z∈p::ks,Gn z:=fun z hz=>by
     rcases cH.1 hz with rfl|hz
     ·exact rl
     ·exact bd z hz
    rcases rk.1 (XX PI hx) with ⟨p',hp',rfl⟩|⟨_,h⟩
    ·exact uc.2 (.inl ⟨p',ih k (by simp) (ej k (by simp)) p hp p' hp',rfl⟩)
    ·refine uc.2 (.inr ?_)
     have:=I8 (c:=c) (.node 5 0 ks) x (by rw[lT];simpa using h)
     rw[ub] at this
     simpa using this
   ·exact uc.2 (.inr (kI (fun z hz=>ih z (by simp[hz])) h bd))
 ·cases hq
theorem aiJ: ∀e:Ex,(aX e).length≤e.size:=ind fun o l ks ih=>by
 have h4: ∀ks:List Ex,(∀k∈ks,(aX k).length≤k.size)→(sF ks).length≤aF ks:=by
  intro ks
  induction ks with
  | nil=>intro _;simp[sF,aF]
  | cons k ks kI=>
   intro h
   have a:=h k (by simp)
   have b:=kI fun z hz=>h z (by simp[hz])
   simp only[sF,aF,bO];omega
 have h5: ∀ks:List Ex,(∀k∈ks,(aX k).length≤k.size)→(nJ ks).length≤aF ks:=by
  intro ks
  induction ks with
  | nil=>intro _;simp[nJ,aF]
  | cons k ks kI=>
   intro h
   have a:=h k (by simp)
   have b:=kI fun z hz=>h z (by simp[hz])
   simp only[nJ,aF,bO,aC];omega
 have h7:(nH ks).length≤aF ks:=by
  cases ks with
  | nil=>simp[nH]
  | cons k ks=>have:=ih k (by simp);simp only[nH,aF];omega
 have a:=h4 ks ih
 have b:=h5 ks ih
 rw[ub]
 simp only[size]
 repeat' split
 all_goals simp
 all_goals omega
theorem Da {p:Ex} {K:List Ex}:(ca 5 0 (p::K)).size≤1+(p.size+aF K):=by
 have h1:(ca 5 0 (p::K)).size≤1+aF (p::K):=by
  rw[wi]
  have:=rj 5 (p::K)
  have h2:=IW (fun k=>decide (k.op≠2)) (bG 5 (p::K))
  split
  ·simp only[fk,size,aF];omega
  ·exact IX (by omega) (by simp only[fO,size,aF];omega)
 simpa only[aF] using h1
theorem zo {a b:Nat} (h:a≤b):a*a+3*a≤b*b+3*b:=by
 have:=Nat.mul_le_mul h h
 omega
theorem XY: ∀e:Ex,∀x∈aX e,2*x.size+2≤e.size*e.size+3*e.size:=ind fun o l ks ih x hx=>by
 have hz:(Ex.node o l ks).size=1+aF ks:=by simp only[size]
 have pD:1*1+3*1≤(Ex.node o l ks).size*(Ex.node o l ks).size+3*(Ex.node o l ks).size:=zo (size_pos _)
 rw[ub] at hx
 split at hx
 ·rw[cV.1 hx];exact pD
 split at hx
 ·obtain ⟨k,h1,h2⟩:=zn.1 hx
  have a:=ih k h1 x h2
  have b:=ri h1
  have c:=zo (show k.size≤(Ex.node o l ks).size by omega)
  omega
 split at hx
 ·obtain ⟨p,hp,rfl⟩:=fG.1 hx
  cases ks with
  | nil=>simp[nH] at hp
  | cons k ks=>
   rw[nH] at hp
   have a:=ih k (by simp) p hp
   have b:=Da (p:=p) (K:=[.node o l (k::ks)])
   have c:=zo (show 1+k.size≤(Ex.node o l (k::ks)).size by rw[hz];simp only[aF];omega)
   have d:(Ex.node o l (k::ks)).size=1+k.size+aF ks:=by rw[hz];simp only[aF];omega
   have e:(1+k.size)*(1+k.size)=1+2*k.size+k.size*k.size:=by simp only[dY,Nat.mul_add];omega
   have f:(1+k.size+aF ks)*(1+k.size+aF ks)=(1+k.size)*(1+k.size)+2*((1+k.size)*aF ks)+aF ks*aF ks:=by
    rw[dY (1+k.size) (aF ks),Nat.mul_add (1+k.size) (1+k.size),Nat.mul_add (aF ks) (1+k.size),kS (aF ks) (1+k.size)];omega
   have g:aF ks≤(1+k.size)*aF ks:=by rw[dY];omega
   simp only[aF] at b
   rw[d] at b⊢
   omega
 split at hx
 ·have go: ∀ks:List Ex,(∀k∈ks,∀x∈aX k,2*x.size+2≤k.size*k.size+3*k.size)→x∈nJ ks→2*x.size+2≤(1+aF ks)*(1+aF ks)+3*(1+aF ks):=by
   intro ks
   induction ks with
   | nil=>intro _ h;simp[nJ] at h
   | cons k ks kI=>
    intro h hx
    rcases uc.1 hx with ⟨p,hp,rfl⟩|hx
    ·have a:=h k (by simp) p hp
     have b:=Da (p:=p) (K:=ks)
     simp only[aF,dY,Nat.mul_add] at*
     omega
    ·have a:=kI (fun z hz=>h z (by simp[hz])) hx
     have b:=zo (show 1+aF ks≤1+aF (k::ks) by simp only[aF];omega)
     omega
  rw[hz]
  exact go ks ih hx
 ·cases hx
theorem ue {c:Int}: ∀e:Ex,(pX c e).length≤e.size:=ind fun o l ks ih=>by
 have h4: ∀ks:List Ex,(∀k∈ks,(pX c k).length≤k.size)→(fZ c ks).length≤aF ks:=by
  intro ks
  induction ks with
  | nil=>intro _;simp[fZ,aF]
  | cons k ks kI=>
   intro h
   have a:=h k (by simp)
   have b:=kI fun z hz=>h z (by simp[hz])
   simp only[fZ,aF,bO];omega
 have h5: ∀ks:List Ex,(∀k∈ks,(pX c k).length≤k.size)→(gv c ks).length≤aF ks:=by
  intro ks
  induction ks with
  | nil=>intro _;simp[gv,aF]
  | cons k ks kI=>
   intro h
   have a:=h k (by simp)
   have b:=kI fun z hz=>h z (by simp[hz])
   rw[gv]
   simp only[aF,bO,aC]
   split
   ·omega
   ·simp;omega
 have h7:(sE c ks).length≤aF ks:=by
  cases ks with
  | nil=>simp[sE]
  | cons k ks=>have:=ih k (by simp);simp only[sE,aF];omega
 have a:=h4 ks ih
 have b:=h5 ks ih
 rw[lT]
 simp only[size]
 repeat' split
 all_goals simp
 all_goals omega
end Go.AM
set_option maxRecDepth 100000
namespace Go.AM
open Go.Proofs
noncomputable def XZ (C:af) (ak ay:Int) (aj:List V):Option (List V):=
 some [.bool ((ak:Int)==1)]
theorem aiK {ak ay:Int} {aj:List V} {r:Option (List V)} (h:XZ CC ak ay aj=r):CC ny [.int .i64 ak,.int .i64 ay,.list ab aj]=r:=
 bn (key:=145) (L:=cS) (bs:=[]) (by kernel_rfl) aw (bm (by kernel_rfl) h)
noncomputable def X0 (C:af) (ak ay:Int) (aj:List V):Option (List V):=
 some [.bool ((ak:Int)==2)]
theorem aiL {ak ay:Int} {aj:List V} {r:Option (List V)} (h:X0 CC ak ay aj=r):CC pU [.int .i64 ak,.int .i64 ay,.list ab aj]=r:=
 bn (key:=151) (L:=cS) (bs:=[]) (by kernel_rfl) aw (bm (by kernel_rfl) h)
noncomputable def X1 (C:af) (ak ay:Int) (aj:List V):Option (List V):=
 bif (ak:Int)==8 then
  bif ((aj.length:Int):Int)==1 then
  (aj[0]?).bind fun x1=>
  (C ny [.int .i64 ((x1.cell 0).toInt),.int .i64 ((x1.cell 1).toInt),.list ab ((x1.cell 2).toList)]).bind fun r2=>
  some [.bool ((V.nth r2 0).toBool)]
  else
  some [.bool false]
 else
  some [.bool false]
theorem aiM {ak ay:Int} {aj:List V} {r:Option (List V)} (h:X1 CC ak ay aj=r):CC nx [.int .i64 ak,.int .i64 ay,.list ab aj]=r:=
 bn (key:=116) (L:=cS) (bs:=[]) (by kernel_rfl) aw (bm (by kernel_rfl) h)
noncomputable abbrev X2:Code:=bU Tryz.prog (az.aT 188)
noncomputable def zp (C:af) (s:List V) (t7 t8:Int) {β:Type} (kn:Int→Option β) (kr:((Int) ⊕ (Int × Bool))→Option β):Option β:=
 bif decide ((t8:Int)<t7) then
  (idx s t8).bind fun x1=>
  (C ny [.int .i64 ((x1.cell 0).toInt),.int .i64 ((x1.cell 1).toInt),.list ab ((x1.cell 2).toList)]).bind fun r2=>
  bif (V.nth r2 0).toBool then
  kr (.inl t8)
  else
  kn (IntKind.wrap .i64 (t8+1))
 else
  kr (.inr (t8,decide ((t8:Int)<t7)))
noncomputable def wm (C:af) (s:List V) (t7:Int):(Int)→Option ((Int) ⊕ ((Int) ⊕ (Int × Bool))):=fun t8=>zp C s t7 t8 (fun y=>some (.inl y)) (fun r=>some (.inr r))
noncomputable def X3 (C:af):cj:=fun β n ds k=>
 bif Nat.beq n 33 then bt OU [false,false,true] [[0],[1,2,0,0]] (@zp C) ds k else
 none
abbrev aiN (C:af) (b:cg):Prop:=ch Tryz.prog az C (X3 C) 188 (cv Tryz.prog (az.aT 188)) (az.sin 188).bf.length b
theorem aiO (C:af):aiN C (.loop (aq [1,0,1,0,0] X2)):=
 bw OU [false,false,true] [[0],[1,2,0,0]] (@zp C) (by kernel_rfl) (aM (bs:=[]) (by kernel_rfl) aw) (fun ds=>by kernel_rfl) (fun i x=>by kernel_rfl) (fun i x β k=>by kernel_rfl) (fun β ds k=>by kernel_rfl)
noncomputable def PJ (C:af) (s:List V):Option (List V):=
 (Loop (wm C s (s.length:Int)) 0).bind (bD (fun (fN:Int)=>
  some [.int .i64 fN]) (un fun (jJ:Int) (kF:Bool)=>
  some [.int .i64 (-1)]))
theorem X4 {s:List V} {r:Option (List V)} (h:PJ CC s=r):CC CE [.list ab s]=r:=
 bn (key:=188) (L:=X3 CC) (bs:=[.loop (aq [1,0,1,0,0] X2)]) (by kernel_rfl) (aZ (aiO CC) aw) (bm (by kernel_rfl) h)
noncomputable def X5 (C:af) (s:List V):Option (List V):=
 (C CE [.list ab s]).bind fun r1=>
 some [.bool (decide ((((V.nth r1 0).toInt):Int)≥0))]
theorem aiP {s:List V} {r:Option (List V)} (h:X5 CC s=r):CC CD [.list ab s]=r:=
 bn (key:=187) (L:=cS) (bs:=[]) (by kernel_rfl) aw (bm (by kernel_rfl) h)
noncomputable abbrev X6:Code:=bU Tryz.prog (az.aT 196)
noncomputable def zq (C:af) (i j:Int) (ss:List V) {β:Type} (kn:(Int × Int × (List V))→Option β) (kr:(Int × Int × Bool × (List V))→Option β):Option β:=
 bif decide ((j:Int)<(ss.length:Int)) then
  bif (decide (0≤j))&&(decide (j<(ss.length:Int))) then
  (ss[(j:Int).toNat]?).bind fun x2=>
  (C ny [.int .i64 ((x2.cell 0).toInt),.int .i64 ((x2.cell 1).toInt),.list ab ((x2.cell 2).toList)]).bind fun r3=>
  bif !((V.nth r3 0).toBool) then
   bif (decide (0≤i))&&(decide (i<(ss.length:Int))) then
   (ss[(i:Int).toNat]?).bind fun x4=>
   kn (IntKind.wrap .i64 (i+1),IntKind.wrap .i64 (j+1),ss.set ((i:Int).toNat) (.agg [.int .i64 ((x2.cell 0).toInt),.int .i64 ((x2.cell 1).toInt),.list ab ((x2.cell 2).toList)]))
   else none
  else
   kn (i,IntKind.wrap .i64 (j+1),ss)
  else none
 else
  kr (i,j,decide ((j:Int)<(ss.length:Int)),ss)
noncomputable def wo (C:af):(Int × Int × (List V))→Option ((Int × Int × (List V)) ⊕ (Int × Int × Bool × (List V))):=un fun i=>un fun j ss=>zq C i j ss (fun y=>some (.inl y)) (fun r=>some (.inr r))
noncomputable def X7 (C:af):cj:=fun β n ds k=>
 bif Nat.beq n 81 then bt OZ [true,true,true] [[0,0,0,0]] (@zq C) ds k else
 none
abbrev aiQ (C:af) (b:cg):Prop:=ch Tryz.prog az C (X7 C) 196 (cv Tryz.prog (az.aT 196)) (az.sin 196).bf.length b
theorem aiR (C:af):aiQ C (.loop (aq [1,1,1,0,1,0,0] X6)):=
 bw OZ [true,true,true] [[0,0,0,0]] (@zq C) (by kernel_rfl) (aM (bs:=[]) (by kernel_rfl) aw) (fun ds=>by kernel_rfl) (fun i x=>by kernel_rfl) (fun i x β k=>by kernel_rfl) (fun β ds k=>by kernel_rfl)
noncomputable def PK (C:af) (ss:List V):Option (List V):=
 (C CE [.list ab ss]).bind fun r1=>
 bif (((V.nth r1 0).toInt):Int)==(-1) then
  some [V.bool true,.list ab ss]
 else
  (Loop (wo C) ((V.nth r1 0).toInt,IntKind.wrap .i64 (((V.nth r1 0).toInt)+1),ss)).bind (un fun (cB:Int)=>un fun (Db:Int)=>un fun (sC:Bool) (dR:List V)=>
   bif (decide (0≤cB))&&(decide (cB≤(dR.length:Int))) then
   bif (decide (0≤cB))&&(decide (cB≤((dR.take ((cB:Int).toNat)++(List.replicate (dR.length-((cB:Int).toNat)) (V.agg [.int .i64 0,.int .i64 0,.list ab ([]:List V)])++dR.drop (((cB:Int).toNat)+(dR.length-((cB:Int).toNat))))).length:Int))) then
    some [V.bool false,.list ab ((dR.take ((cB:Int).toNat)++(List.replicate (dR.length-((cB:Int).toNat)) (V.agg [.int .i64 0,.int .i64 0,.list ab ([]:List V)])++dR.drop (((cB:Int).toNat)+(dR.length-((cB:Int).toNat))))).take ((cB:Int).toNat))]
   else none
   else none)
theorem X8 {ss:List V} {r:Option (List V)} (h:PK CC ss=r):CC Ik [.list ab ss]=r:=
 bn (key:=196) (L:=X7 CC) (bs:=[.loop (aq [1,1,1,0,1,0,0] X6)]) (by kernel_rfl) (aZ (aiR CC) aw) (bm (by kernel_rfl) h)
end Go.AM
