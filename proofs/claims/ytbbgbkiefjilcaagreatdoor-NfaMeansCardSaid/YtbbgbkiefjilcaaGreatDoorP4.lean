/-
  Functions of the program, lifted to plain data.
-/
import Derived.Test.YtbbgbkiefjilcaaGreatDoorProg
import Derived.Tactics
import Derived.Tactics2
import Derived.StillTactics
import Derived.Laws.Pointers
import Derived.Lib.LazyBuf
import Derived.RegionTactic
import Derived.LoopTactic
import Derived.WalkKit
import Derived.Recover
import Derived.Laws.Externs
import Derived.Lib.Builder
import Derived.Test.YtbbgbkiefjilcaaGreatDoorRows
import Derived.Lib.LaidTab
import Derived.LaidHandle
import Derived.MakeChecks
import Derived.Lay
import Derived.Test.YtbbgbkiefjilcaaGreatDoorP3
set_option linter.unusedVariables false
set_option linter.unusedSimpArgs false
set_option maxRecDepth 100000
namespace Go.AM
open Go.Proofs
abbrev Ol:FuncId:=5
abbrev IV:FuncId:=6
abbrev IW:FuncId:=7
abbrev ti:FuncId:=8
abbrev Du:FuncId:=9
abbrev IX:FuncId:=14
abbrev IY:FuncId:=15
abbrev Ah:FuncId:=16
abbrev IZ:FuncId:=17
abbrev uQ:FuncId:=18
abbrev Ai:FuncId:=19
abbrev I0:FuncId:=20
abbrev Aj:FuncId:=21
abbrev w7:FuncId:=22
abbrev ag8:FuncId:=23
abbrev Dv:FuncId:=24
abbrev I1:FuncId:=25
abbrev uR:FuncId:=26
abbrev p9:FuncId:=27
abbrev w8:FuncId:=28
abbrev bP:FuncId:=29
abbrev kZ:FuncId:=30
abbrev Ak:FuncId:=31
abbrev cp:FuncId:=32
abbrev Dw:FuncId:=44
abbrev Dx:FuncId:=45
abbrev qa:FuncId:=46
abbrev w9:FuncId:=47
abbrev og:FuncId:=48
abbrev Al:FuncId:=49
abbrev Am:FuncId:=50
abbrev Dy:FuncId:=51
abbrev uS:FuncId:=52
abbrev An:FuncId:=53
abbrev Dz:FuncId:=54
abbrev DA:FuncId:=55
abbrev I4:FuncId:=56
abbrev DB:FuncId:=57
abbrev rr:FuncId:=58
abbrev xb:FuncId:=59
abbrev DC:FuncId:=60
abbrev ru:FuncId:=61
abbrev xc:FuncId:=62
abbrev qb:FuncId:=63
abbrev DD:FuncId:=64
abbrev rv:FuncId:=65
abbrev I5:FuncId:=66
abbrev xd:FuncId:=67
abbrev Om:FuncId:=68
abbrev DE:FuncId:=69
abbrev I6:FuncId:=70
abbrev I7:FuncId:=79
abbrev I8:FuncId:=82
abbrev I9:FuncId:=83
abbrev DF:FuncId:=84
abbrev DG:FuncId:=85
abbrev oh:FuncId:=86
abbrev ry:FuncId:=87
abbrev Ao:FuncId:=88
abbrev DH:FuncId:=89
abbrev o6:FuncId:=90
abbrev Ja:FuncId:=91
abbrev Jb:FuncId:=92
abbrev DI:FuncId:=93
abbrev Ap:FuncId:=94
abbrev On:FuncId:=95
abbrev Aq:FuncId:=96
abbrev Oo:FuncId:=97
abbrev Oq:FuncId:=98
abbrev Ot:FuncId:=99
abbrev Ou:FuncId:=100
abbrev Ov:FuncId:=101
abbrev Ow:FuncId:=102
abbrev Ox:FuncId:=103
abbrev Oy:FuncId:=104
abbrev Jc:FuncId:=106
abbrev Ar:FuncId:=111
abbrev rz:FuncId:=114
abbrev xe:FuncId:=115
abbrev mA:FuncId:=116
abbrev rA:FuncId:=117
abbrev rB:FuncId:=118
abbrev rC:FuncId:=119
abbrev rD:FuncId:=120
abbrev rE:FuncId:=121
abbrev rF:FuncId:=122
abbrev Jd:FuncId:=123
abbrev Je:FuncId:=124
abbrev Jf:FuncId:=125
abbrev xf:FuncId:=126
abbrev Oz:FuncId:=127
abbrev OA:FuncId:=128
abbrev OB:FuncId:=129
abbrev OC:FuncId:=130
abbrev OD:FuncId:=131
abbrev OE:FuncId:=132
abbrev OF:FuncId:=133
abbrev OG:FuncId:=134
abbrev OH:FuncId:=135
abbrev Jg:FuncId:=136
abbrev Jh:FuncId:=137
abbrev OI:FuncId:=138
abbrev OJ:FuncId:=139
abbrev nw:FuncId:=145
abbrev uT:FuncId:=146
abbrev As:FuncId:=147
abbrev oj:FuncId:=148
abbrev xg:FuncId:=149
abbrev rG:FuncId:=150
abbrev qc:FuncId:=151
abbrev OK:FuncId:=152
abbrev OL:FuncId:=153
abbrev OM:FuncId:=154
abbrev ON:FuncId:=155
abbrev rH:FuncId:=159
abbrev OO:FuncId:=160
abbrev kC:TypeId:=3
abbrev Yc:TypeId:=22
abbrev ag:TypeId:=24
abbrev aB:TypeId:=29
abbrev cR:TypeId:=52
abbrev mB:TypeId:=62
abbrev aJ:TypeId:=63
abbrev DJ:Nat:=187
abbrev DK:Nat:=188
abbrev OP:Nat:=189
abbrev DL:Nat:=190
abbrev Ji:Nat:=192
abbrev Jj:Nat:=193
abbrev Jk:Nat:=194
abbrev Jl:Nat:=195
abbrev Jm:Nat:=196
abbrev Jn:Nat:=197
abbrev OQ:Nat:=198
abbrev OR:Nat:=199
abbrev OS:Nat:=200
abbrev OT:Nat:=201
abbrev OU:Nat:=202
abbrev OV:Nat:=203
abbrev Jo:Nat:=204
abbrev OW:Nat:=205
abbrev Jp:Nat:=206
abbrev Jq:Nat:=207
abbrev OX:Nat:=208
def xh:List V:=[.int .u8 0,.int .u8 1,.int .u8 56,.int .u8 2,.int .u8 57,.int .u8 49,.int .u8 28,.int .u8 3,.int .u8 61,.int .u8 58,.int .u8 42,.int .u8 50,.int .u8 38,.int .u8 29,.int .u8 17,.int .u8 4,.int .u8 62,.int .u8 47,.int .u8 59,.int .u8 36,.int .u8 45,.int .u8 43,.int .u8 51,.int .u8 22,.int .u8 53,.int .u8 39,.int .u8 33,.int .u8 30,.int .u8 24,.int .u8 18,.int .u8 12,.int .u8 5,.int .u8 63,.int .u8 55,.int .u8 48,.int .u8 27,.int .u8 60,.int .u8 41,.int .u8 37,.int .u8 16,.int .u8 46,.int .u8 35,.int .u8 44,.int .u8 21,.int .u8 52,.int .u8 32,.int .u8 23,.int .u8 11,.int .u8 54,.int .u8 26,.int .u8 40,.int .u8 15,.int .u8 34,.int .u8 20,.int .u8 31,.int .u8 10,.int .u8 25,.int .u8 14,.int .u8 19,.int .u8 9,.int .u8 13,.int .u8 8,.int .u8 7,.int .u8 6]
abbrev aa:VS:= .one (.int .i64)
abbrev aG:VS:= .one (.bool)
abbrev cV:VS:= .one (.int .u64)
abbrev cu:VS:= .one (.list ag)
abbrev bE:VS:= .one (.whole ag 0)
abbrev cI:VS:= .one (.bh 0 0 0)
abbrev cv:VS:= .one (.whole cR 0)
abbrev cS:VS:= .one (.list aB)
abbrev ag9:VS:= .one (.whole aJ 3)
abbrev tj:VS:= .one (.str)
abbrev jv:VS:= .one (.bh 2 0 0)
abbrev kD:VS:= .one (.bh 1 0 0)
abbrev aha:VS:= .one (.whole aJ 4)
abbrev tk:VS:= .one (.whole ag 1)
abbrev OY:VS:= .one (.whole aB 4)
abbrev rI:VS:= .one (.list cR)
abbrev qd:VS:= .one (.bh 3 0 0)
abbrev Yd:VS:= .one (.whole aB 5)
abbrev ahb:VS:= .one (.whole cR 4)
abbrev ahc:VS:= .one (.whole cR 5)
abbrev Au:VS:= .one (.whole aB 3)
abbrev Av:VS:= .one (.whole kC 0)
abbrev Jr:VS:= .one (.whole aB 2)
abbrev ahd:VS:= .one (.whole aJ 5)
abbrev Js:VS:= .one (.whole kC 1)
abbrev ahe:VS:= .one (.whole cR 6)
abbrev Jt:VS:= .one (.whole ag 3)
abbrev Ju:VS:= .one (.whole aB 0)
abbrev ahf:VS:= .one (.whole aJ 0)
abbrev ahg:VS:= .one (.whole cR 1)
abbrev ahh:VS:= .one (.whole cR 3)
abbrev OZ:VS:= .one (.bh 4 0 0)
abbrev Jv:VS:= .one (.sub ag 0)
abbrev O0:VS:= .one (.whole aJ 2)
abbrev Ye:VS:= .one (.list mB)
abbrev Yf:VS:= .one (.list kC)
abbrev qe:VS:= .agg [.int .i64,.int .i64,.list ag]
abbrev O1:VS:= .agg [.str]
abbrev Jw:VS:= .agg [.int .i64,.int .i64,.whole ag 0]
abbrev O2:VS:= .agg [.int .i64,.int .i64,.int .u64,.int .u64,.list cR]
abbrev Yg:VS:= .agg [.int .i64,.int .i64,.int .u64,.int .u64,.whole cR 0]
abbrev tn:BS:= .var 66 [ag9]
abbrev uU:BS:= .var 3 [aa]
abbrev jw:BS:= .var 24 [aa,aa,cu]
abbrev om:BS:= .var 61 [tj]
abbrev xi:BS:= .var 66 [aha]
abbrev DM:BS:= .var 73 [cV,cV,aG]
abbrev Jx:BS:= .var 4 [aG]
abbrev ahi:BS:= .var 63 [OY]
abbrev Aw:BS:= .var 32 [aa,aa,cV,cV,ahb]
abbrev Jy:BS:= .var 143 [cV]
abbrev Ax:BS:= .var 32 [aa,aa,cV,cV,ahc]
abbrev ahj:BS:= .var 66 [ahd]
abbrev O3:BS:= .var 71 [aa,Yd]
abbrev Ay:BS:= .var 32 [aa,aa,cV,cV,rI]
abbrev ahk:BS:= .var 63 [Yd]
abbrev DN:BS:= .var 32 [aa,aa,cV,cV,ahe]
abbrev ahl:BS:= .var 32 [aa,aa,cV,cV,ahg]
abbrev ahm:BS:= .var 32 [aa,aa,cV,cV,ahh]
abbrev ahn:BS:= .var 71 [aa,OY]
abbrev aho:BS:= .var 63 [Jr]
abbrev mC:BS:= .arr ag false
abbrev iW:BS:= .arr cR false
abbrev fg:BS:= .arr aB false
abbrev kE:BS:= .arr kC false
abbrev fP:BS:= .nest aJ
abbrev Jz:BS:= .nest mB
abbrev bp:List BS:=[mC]
abbrev b8:List BS:=[iW]
abbrev eH:List BS:=[uU]
abbrev o7:List BS:=[ahi,tn,.dead,fP,fg]
abbrev rJ:List BS:=[.dead,mC]
abbrev rK:List BS:=[om,tn,jw,fP]
abbrev rL:List BS:=[tn,jw,xi,fP,fP]
abbrev uW:List BS:=[om,uU,tn,fP]
abbrev uX:List BS:=[om,xi,Jx,ahj,fP,fP]
abbrev Az:List BS:=[Jx,ahk,xi,.dead,fP,fg]
abbrev DO:List BS:=[mC,jw]
abbrev JA:List BS:=[ahl,iW]
abbrev JB:List BS:=[ahm,mC,Aw,iW,iW]
abbrev JC:List BS:=[ahn,.dead,DM,DM,fg]
abbrev JD:List BS:=[O3,.dead,DM,DM,DM,fg]
abbrev JE:List BS:=[iW,Jy]
abbrev JF:List BS:=[mC,Jy]
abbrev JG:List BS:=[aho,tn,fg,fP]
abbrev O4:List BS:=[Aw,mC,Ax,mC,iW,iW]
abbrev eV:List (Nat × VS):=[(0,aa)]
abbrev eW:List (Nat × VS):=[(0,aG)]
abbrev jx:List (Nat × VS):=[(0,qe)]
abbrev oo:List (Nat × VS):=[(0,bE)]
abbrev tp:List (Nat × VS):=[(0,qe),(1,aa)]
abbrev tq:List (Nat × VS):=[(0,cV)]
abbrev uY:List (Nat × VS):=[(0,tk)]
abbrev xj:List (Nat × VS):=[(4,aa)]
abbrev AA:List (Nat × VS):=[(0,aa),(1,aa)]
abbrev DP:List (Nat × VS):=[(0,ahf)]
abbrev JH:List (Nat × VS):=[(4,cI),(5,aa)]
abbrev JI:List (Nat × VS):=[(0,O1),(1,qe),(2,cS)]
abbrev JJ:List (Nat × VS):=[(0,aa),(1,cI),(2,kD),(3,jv)]
abbrev O5:List (Nat × VS):=[(0,qe),(1,qe)]
abbrev Yh:List (Nat × VS):=[(1,aa),(2,cI),(8,tk),(51,cu),(52,aa),(53,aa)]
abbrev Yi:List (Nat × VS):=[(0,cI),(4,jv),(9,qd),(12,OZ),(74,cu),(75,aa),(76,aa)]
def O6:Shape × List (Out × Shape):=(⟨[(1,aa),(4,cI),(7,tk),(8,jv),(9,aa),(10,aa),(12,qd),(13,aa),(32,aa),(33,aa),(42,.one (.whole ag 4)),(43,aa),(44,aa),(52,aG)],[Ax,mC,DN,jw,mC,iW,iW]⟩,[(.ret,⟨JH,JA⟩),(.norm,⟨[(1,aa),(4,cI),(7,tk),(8,jv),(9,aa),(10,aa),(13,aa),(32,aa),(33,aa),(42,Jt),(43,aa),(44,aa)],O4⟩)])
abbrev Yj:List (Nat × VS):=[(1,aa),(4,cI),(7,tk),(8,jv),(9,aa),(10,aa),(32,aa),(33,aa),(42,Jt),(43,aa),(44,aa)]
def O7:Shape × List (Out × Shape):=(⟨Yj,O4⟩,[(.ret,⟨JH,JA⟩),(.exit 4,⟨Yj++[(45,aG)],O4⟩)])
abbrev Yk:List (Nat × VS):=[(1,aa),(4,cI),(7,tk),(8,jv),(9,aa),(32,aa),(33,aa)]
def O8:Shape × List (Out × Shape):=(⟨Yk,JB⟩,[(.ret,⟨JH,JA⟩),(.exit 2,⟨Yk++[(34,aG)],JB⟩)])
abbrev Yl:List (Nat × VS):=[(1,aa),(4,cI),(7,tk),(8,jv),(9,aa)]
def O9:Shape × List (Out × Shape):=(⟨Yl,JB⟩,[(.ret,⟨JH,JA⟩),(.exit 0,⟨Yl++[(29,aG)],JB⟩)])
def Pb:Shape × List (Out × Shape):=(⟨[(4,cI),(7,Js),(8,jv),(10,qd),(48,aG)],[Aw,kE,O3,DN,iW,fg,iW]⟩,[(.norm,⟨[(4,cI),(7,Js),(8,jv),(10,qd)],[Aw,kE,O3,DN,iW,fg,iW]⟩)])
abbrev Ym:List (Nat × VS):=[(4,cI),(7,Js),(10,jv),(11,aa),(54,Au),(55,aa),(56,aa),(62,.one (.whole kC 4)),(63,aa),(64,aa)]
def Pd:Shape × List (Out × Shape):=(⟨Ym,[Ax,kE,DN,fg,kE,iW,iW]⟩,[(.exit 2,⟨Ym++[(65,aG)],[Ax,kE,DN,fg,kE,iW,iW]⟩)])
abbrev Yn:List (Nat × VS):=[(4,cI),(7,Js),(10,jv),(54,Au),(55,aa),(56,aa)]
def Pe:Shape × List (Out × Shape):=(⟨Yn,[Aw,kE,Ax,fg,iW,iW]⟩,[(.exit 0,⟨Yn++[(57,aG)],[Aw,kE,Ax,fg,iW,iW]⟩)])
abbrev Yo:List (Nat × VS):=[(0,tj),(1,aa),(5,aa)]
def Pf:Shape × List (Out × Shape):=(⟨Yo,[]⟩,[(.ret,⟨[(4,aG)],[]⟩),(.exit 0,⟨Yo++[(17,aG)],[]⟩)])
abbrev Yp:List (Nat × VS):=[(1,tj),(2,cI),(5,Ye),(6,cV),(23,aa),(24,aa)]
def Pg:Shape × List (Out × Shape):=(⟨Yp,[Ay]⟩,[(.exit 0,⟨Yp++[(25,aG)],[Ay]⟩)])
def Ph:Shape × List (Out × Shape):=(⟨[(1,aa),(2,cI),(5,aa),(6,aG),(39,aG)],[jw]⟩,[(.norm,⟨[(1,aa),(2,cI),(5,aa),(6,aG)],[jw]⟩)])
abbrev Yq:List (Nat × VS):=[(1,aa),(2,cI),(5,aa),(6,aG),(7,aa)]
def Pj:Shape × List (Out × Shape):=(⟨Yq,[jw]⟩,[(.exit 1,⟨Yq++[(63,aG)],[jw]⟩)])
abbrev Yr:List (Nat × VS):=[(1,aa),(2,cI),(6,aa),(7,aa),(8,aa)]
def Pk:Shape × List (Out × Shape):=(⟨Yr,[jw]⟩,[(.exit 0,⟨Yr++[(20,aG)],[jw]⟩)])
abbrev Ys:List (Nat × VS):=[(1,aa),(5,bE),(24,cu),(25,aa),(26,aa)]
def Pm:Shape × List (Out × Shape):=(⟨Ys,bp⟩,[(.exit 1,⟨Ys++[(27,aG)],bp⟩)])
def Pn:Shape × List (Out × Shape):=(⟨Yh,[jw,mC]⟩,[(.exit 3,⟨Yh,[jw,mC]⟩)])
def Po:Shape × List (Out × Shape):=(⟨[(0,cu),(1,.fn rr [] []),(7,aa),(8,aa)],[]⟩,[(.ret,⟨xj,[]⟩),(.exit 0,⟨[(0,cu),(1,.fn rr [] []),(7,aa),(8,aa),(9,aG)],[]⟩)])
abbrev Yt:List (Nat × VS):=[(19,cu),(20,aa),(21,aa)]
def Pp:Shape × List (Out × Shape):=(⟨Yt,[]⟩,[(.ret,⟨[(2,aG)],[]⟩),(.exit 1,⟨Yt++[(22,aG)],[]⟩)])
abbrev Yu:List (Nat × VS):=[(0,tj),(1,aa),(18,aa),(19,aa)]
def Pq:Shape × List (Out × Shape):=(⟨Yu,[]⟩,[(.ret,⟨[(4,aG)],[]⟩),(.exit 0,⟨Yu++[(20,aG)],[]⟩)])
abbrev Yv:List (Nat × VS):=[(1,cI),(2,kD),(3,.one (.whole ag 2)),(20,cu),(21,aa),(22,aa)]
def Pr:Shape × List (Out × Shape):=(⟨Yv,[jw,.var 24 [aa,aa,Jt],mC,mC]⟩,[(.exit 0,⟨Yv++[(23,aG)],[jw,.var 24 [aa,aa,Jt],mC,mC]⟩)])
abbrev Yw:List (Nat × VS):=[(3,Av),(13,cu),(14,aa),(15,aa)]
def Ps:Shape × List (Out × Shape):=(⟨Yw,[kE]⟩,[(.exit 0,⟨Yw++[(16,aG)],[kE]⟩)])
abbrev Yx:List (Nat × VS):=[(0,cI),(4,jv),(5,qd),(42,cu),(43,aa),(44,aa)]
def Pu:Shape × List (Out × Shape):=(⟨Yx,JC⟩,[(.exit 1,⟨Yx++[(45,aG)],JC⟩)])
def Pv:Shape × List (Out × Shape):=(⟨[(0,cI),(4,jv),(9,qd),(12,OZ),(74,cu),(75,aa),(76,aa),(90,aG)],JD⟩,[(.norm,⟨Yi,JD⟩)])
def Pw:Shape × List (Out × Shape):=(⟨[(0,cI),(4,jv),(9,qd),(12,OZ),(74,cu),(75,aa),(76,aa),(99,aG)],JD⟩,[(.norm,⟨Yi,JD⟩)])
abbrev Yy:List (Nat × VS):=[(0,cI),(4,jv),(9,qd),(74,cu),(75,aa),(76,aa)]
def Px:Shape × List (Out × Shape):=(⟨Yy,JC⟩,[(.exit 3,⟨Yy++[(77,aG)],JC⟩)])
def Py:Shape × List (Out × Shape):=(⟨[(0,cV),(3,Av)],[kE]⟩,[(.exit 0,⟨[(0,cV),(3,Av),(5,aG)],[kE]⟩)])
abbrev Yz:List (Nat × VS):=[(1,cI),(34,rI),(35,aa),(36,aa)]
def Pz:Shape × List (Out × Shape):=(⟨Yz,[Ay]⟩,[(.ret,⟨[(2,aa)],[]⟩),(.exit 0,⟨Yz++[(37,aG)],[Ay]⟩)])
abbrev YA:List (Nat × VS):=[(1,cI),(3,.one (.whole mB 1)),(11,aa),(12,aa)]
def PA:Shape × List (Out × Shape):=(⟨YA,[Ay,Jz]⟩,[(.exit 0,⟨YA++[(13,aG)],[Ay,Jz]⟩)])
abbrev YB:List (Nat × VS):=[(3,.one (.whole mB 0)),(23,rI),(24,aa),(25,aa)]
def PB:Shape × List (Out × Shape):=(⟨YB,[Jz]⟩,[(.exit 2,⟨YB++[(26,aG)],[Jz]⟩)])
abbrev YC:List (Nat × VS):=[(0,cS),(5,cV),(16,Av),(17,aa),(18,aa)]
def PC:Shape × List (Out × Shape):=(⟨YC,[kE]⟩,[(.exit 0,⟨YC++[(19,aG)],[kE]⟩)])
def PD:Shape × List (Out × Shape):=(⟨[(0,bE),(1,.fn ru [] []),(5,aa),(6,Jv),(7,aa)],bp⟩,[(.exit 2,⟨[(0,bE),(1,.fn ru [] []),(5,aa),(6,Jv),(7,aa),(35,aG)],bp⟩)])
def PE:Shape × List (Out × Shape):=(⟨[(0,bE),(1,.fn ru [] []),(5,aa)],bp⟩,[(.ret,⟨[(4,tk)],rJ⟩),(.exit 0,⟨[(0,bE),(1,.fn ru [] []),(5,aa),(15,aG)],bp⟩)])
def PF:Shape × List (Out × Shape):=(⟨[(0,bE),(1,.fn mA [] []),(5,aa),(6,aa)],bp⟩,[(.exit 0,⟨[(0,bE),(1,.fn mA [] []),(5,aa),(6,aa),(19,aG)],bp⟩)])
abbrev YD:List (Nat × VS):=[(1,cu),(5,bE),(11,cu),(12,aa),(13,aa)]
def PH:Shape × List (Out × Shape):=(⟨YD,bp⟩,[(.exit 0,⟨YD++[(14,aG)],bp⟩)])
def PI:Shape × List (Out × Shape):=(⟨[(0,cu),(1,cu),(2,.fn bP [] []),(11,cu),(12,aa),(13,aa)],[]⟩,[(.ret,⟨[(6,aa)],[]⟩),(.exit 0,⟨[(0,cu),(1,cu),(2,.fn bP [] []),(11,cu),(12,aa),(13,aa),(14,aG)],[]⟩)])
def PJ:Shape × List (Out × Shape):=(⟨[(0,cv),(1,aa),(2,aa),(3,aa),(4,.fn cp [] []),(10,aG),(11,aG),(12,aa),(39,aG)],b8⟩,[(.norm,⟨[(0,cv),(1,aa),(2,aa),(3,aa),(4,.fn cp [] []),(10,aG),(11,aG),(12,aa)],b8⟩)])
def PK:Shape × List (Out × Shape):=(⟨[(0,cv),(1,aa),(2,aa),(3,aa),(4,.fn cp [] []),(10,aG),(11,aG),(12,aa),(13,aa),(14,aa),(56,aG)],b8⟩,[(.norm,⟨[(0,cv),(1,aa),(2,aa),(3,aa),(4,.fn cp [] []),(10,aG),(11,aG),(12,aa),(13,aa),(14,aa)],b8⟩)])
def PL:Shape × List (Out × Shape):=(⟨[(0,cv),(1,aa),(2,aa),(3,aa),(4,.fn cp [] []),(10,aG),(11,aG),(12,aa),(13,aa),(75,aG)],b8⟩,[(.ret,⟨[(0,cv),(1,aa),(2,aa),(3,aa),(4,.fn cp [] []),(10,aG),(11,aG),(12,aa),(13,aa),(80,aG)],b8⟩),(.norm,⟨[(0,cv),(1,aa),(2,aa),(3,aa),(4,.fn cp [] []),(10,aG),(11,aG),(12,aa),(13,aa)],b8⟩)])
def PM:Shape × List (Out × Shape):=(⟨[(0,cv),(1,aa),(2,aa),(3,aa),(4,.fn cp [] []),(10,aG),(11,aG)],b8⟩,[(.ret,⟨[],b8⟩)])
abbrev YE:List (Nat × VS):=[(3,aa),(6,Yf),(7,aa),(8,aa)]
def PN:Shape × List (Out × Shape):=(⟨YE,[]⟩,[(.ret,⟨[(2,aa)],[]⟩),(.exit 0,⟨YE++[(9,aG)],[]⟩)])
abbrev YF:List (Nat × VS):=[(2,cS),(3,cI),(7,kD),(20,cu),(21,aa),(22,aa)]
def PO:Shape × List (Out × Shape):=(⟨YF,[om,.var 66 [O0],fP]⟩,[(.exit 0,⟨YF++[(23,aG)],[om,.var 66 [O0],fP]⟩)])
abbrev YG:List (Nat × VS):=[(3,cI),(4,kD),(7,Jr),(8,qd),(9,aa)]
def PQ:Shape × List (Out × Shape):=(⟨YG,[om,jw,fg,uU]⟩,[(.exit 0,⟨YG++[(28,aG)],[om,jw,fg,uU]⟩)])
abbrev YH:List (Nat × VS):=[(3,cI),(8,kD),(10,O0),(11,qd),(12,aa)]
def PS:Shape × List (Out × Shape):=(⟨YH,[om,uU,fP,xi,fP]⟩,[(.exit 2,⟨YH++[(48,aG)],[om,uU,fP,xi,fP]⟩)])
abbrev YI:List (Nat × VS):=[(2,cS),(3,cI),(4,kD),(7,jv),(20,cu),(21,aa),(22,aa)]
def PT:Shape × List (Out × Shape):=(⟨YI,[om,jw,tn,fP]⟩,[(.exit 0,⟨YI++[(23,aG)],[om,jw,tn,fP]⟩)])
def PU:Shape × List (Out × Shape):=(⟨[(1,.fn ry [] [.bh 0 0 0,.bh 1 0 0,.bh 2 0 0]),(4,aa),(5,cV),(6,cS),(7,aa),(8,aa)],rK⟩,[(.exit 2,⟨[(1,.fn ry [] [.bh 0 0 0,.bh 1 0 0,.bh 2 0 0]),(4,aa),(5,cV),(6,cS),(7,aa),(8,aa),(14,aG)],rK⟩)])
def PV:Shape × List (Out × Shape):=(⟨[(1,.fn ry [] [.bh 0 0 0,.bh 1 0 0,.bh 2 0 0]),(6,cS),(7,aa),(8,aa)],rK⟩,[(.exit 0,⟨[(1,.fn ry [] [.bh 0 0 0,.bh 1 0 0,.bh 2 0 0]),(6,cS),(7,aa),(8,aa),(9,aG)],rK⟩)])
def PW:Shape × List (Out × Shape):=(⟨[(0,aa),(1,cI),(2,kD),(3,jv),(10,aG)],rK⟩,[(.norm,⟨[],rK⟩)])
abbrev YJ:List (Nat × VS):=[(0,cI),(2,cV),(9,.one (.whole kC 2)),(10,aa),(11,aa)]
def PX:Shape × List (Out × Shape):=(⟨YJ,[.var 71 [aa,Au],.dead,kE,fg]⟩,[(.exit 0,⟨YJ++[(12,aG)],[.var 71 [aa,Au],.dead,kE,fg]⟩)])
abbrev YK:List (Nat × VS):=[(0,cS),(8,cS),(9,aa),(10,aa)]
def PY:Shape × List (Out × Shape):=(⟨YK,[]⟩,[(.ret,⟨[(2,aG)],[]⟩),(.exit 0,⟨YK++[(11,aG)],[]⟩)])
abbrev YL:List (Nat × VS):=[(1,aa),(53,cu),(54,aa),(55,aa)]
def PZ:Shape × List (Out × Shape):=(⟨YL,[]⟩,[(.ret,⟨[(4,aG)],[]⟩),(.exit 1,⟨YL++[(56,aG)],[]⟩)])
def P0:Shape × List (Out × Shape):=(⟨[(0,bE),(1,aa),(2,aa),(3,aa),(4,.fn bP [] []),(10,aG),(11,aG),(12,aa),(39,aG)],bp⟩,[(.norm,⟨[(0,bE),(1,aa),(2,aa),(3,aa),(4,.fn bP [] []),(10,aG),(11,aG),(12,aa)],bp⟩)])
def P1:Shape × List (Out × Shape):=(⟨[(0,bE),(1,aa),(2,aa),(3,aa),(4,.fn bP [] []),(10,aG),(11,aG),(12,aa),(13,aa),(14,aa),(56,aG)],bp⟩,[(.norm,⟨[(0,bE),(1,aa),(2,aa),(3,aa),(4,.fn bP [] []),(10,aG),(11,aG),(12,aa),(13,aa),(14,aa)],bp⟩)])
def P2:Shape × List (Out × Shape):=(⟨[(0,bE),(1,aa),(2,aa),(3,aa),(4,.fn bP [] []),(10,aG),(11,aG),(12,aa),(13,aa),(75,aG)],bp⟩,[(.ret,⟨[(0,bE),(1,aa),(2,aa),(3,aa),(4,.fn bP [] []),(10,aG),(11,aG),(12,aa),(13,aa),(80,aG)],bp⟩),(.norm,⟨[(0,bE),(1,aa),(2,aa),(3,aa),(4,.fn bP [] []),(10,aG),(11,aG),(12,aa),(13,aa)],bp⟩)])
def P4:Shape × List (Out × Shape):=(⟨[(0,bE),(1,aa),(2,aa),(3,aa),(4,.fn bP [] []),(10,aG),(11,aG)],bp⟩,[(.ret,⟨[],bp⟩)])
def P5:Shape × List (Out × Shape):=(⟨[(0,cv),(1,aa),(2,aa),(3,.fn cp [] []),(8,aa),(9,aa)],b8⟩,[(.exit 2,⟨[(0,cv),(1,aa),(2,aa),(3,.fn cp [] []),(8,aa),(9,aa),(34,aG)],b8⟩)])
def P6:Shape × List (Out × Shape):=(⟨[(0,cv),(1,aa),(2,aa),(3,.fn cp [] []),(8,aa)],b8⟩,[(.exit 0,⟨[(0,cv),(1,aa),(2,aa),(3,.fn cp [] []),(8,aa),(14,aG)],b8⟩)])
def P7:Shape × List (Out × Shape):=(⟨[(0,cv),(3,.fn cp [] []),(8,aa),(9,aa),(10,aa),(11,aa)],b8⟩,[(.exit 0,⟨[(0,cv),(3,.fn cp [] []),(8,aa),(9,aa),(10,aa),(11,aa),(21,aG)],b8⟩)])
def P8:Shape × List (Out × Shape):=(⟨[(0,cv),(3,.fn cp [] []),(8,aa),(9,aa),(12,aa)],b8⟩,[(.exit 2,⟨[(0,cv),(3,.fn cp [] []),(8,aa),(9,aa),(12,aa),(33,aG)],b8⟩)])
def P9:Shape × List (Out × Shape):=(⟨[(0,cv),(1,aa),(8,aa),(9,kD),(10,cV),(11,aa),(12,aa),(45,aG)],JE⟩,[(.norm,⟨[(0,cv),(1,aa),(8,aa),(9,kD),(10,cV),(11,aa),(12,aa)],JE⟩)])
abbrev YM:List (Nat × VS):=[(0,cv),(1,aa),(8,aa),(9,kD),(10,cV),(11,aa)]
def Qa:Shape × List (Out × Shape):=(⟨YM,JE⟩,[(.exit 0,⟨YM++[(35,aG)],JE⟩)])
def Qb:Shape × List (Out × Shape):=(⟨[(0,rI),(3,.fn cp [] []),(11,cI),(12,aa),(13,aa),(14,aa),(36,aG)],eH⟩,[(.norm,⟨[(0,rI),(3,.fn cp [] []),(11,cI),(12,aa),(13,aa),(14,aa)],eH⟩)])
def Qc:Shape × List (Out × Shape):=(⟨[(0,rI),(3,.fn cp [] []),(10,aa),(11,cI),(12,aa),(13,aa),(14,aa),(34,aG)],eH⟩,[(.norm,⟨[(11,cI),(13,aa)],eH⟩)])
abbrev YN:List (Nat × VS):=[(0,cv),(8,aa),(9,aa)]
def Qd:Shape × List (Out × Shape):=(⟨YN,b8⟩,[(.exit 0,⟨YN++[(15,aG)],b8⟩)])
def Qe:Shape × List (Out × Shape):=(⟨[(0,cv),(1,aa),(2,aa),(3,.fn cp [] []),(9,aa),(10,aa)],b8⟩,[(.exit 2,⟨[(0,cv),(1,aa),(2,aa),(3,.fn cp [] []),(9,aa),(10,aa),(36,aG)],b8⟩)])
def Qf:Shape × List (Out × Shape):=(⟨[(0,cv),(1,aa),(2,aa),(3,.fn cp [] []),(9,aa),(10,aa),(11,aa)],b8⟩,[(.exit 4,⟨[(0,cv),(1,aa),(2,aa),(3,.fn cp [] []),(9,aa),(10,aa),(11,aa)],b8⟩)])
def Qg:Shape × List (Out × Shape):=(⟨[(0,cv),(1,aa),(2,aa),(3,.fn cp [] []),(9,aa),(10,aa),(65,aG)],b8⟩,[(.norm,⟨[(0,cv),(1,aa),(2,aa),(3,.fn cp [] []),(9,aa),(10,aa)],b8⟩)])
def Qh:Shape × List (Out × Shape):=(⟨[(0,cv),(1,aa),(2,aa),(3,.fn cp [] []),(9,aa),(10,aa),(12,aa)],b8⟩,[(.exit 6,⟨[(0,cv),(1,aa),(2,aa),(3,.fn cp [] []),(9,aa),(10,aa),(12,aa)],b8⟩)])
def Qi:Shape × List (Out × Shape):=(⟨[(0,cv),(1,aa),(2,aa),(3,.fn cp [] []),(9,aa),(10,aa)],b8⟩,[(.ret,⟨[(8,aG)],b8⟩),(.exit 0,⟨[(0,cv),(1,aa),(2,aa),(3,.fn cp [] []),(9,aa),(10,aa),(16,aG)],b8⟩)])
def Qj:Shape × List (Out × Shape):=(⟨[(0,cv),(1,aa),(4,.fn cp [] []),(11,aa),(12,aa)],b8⟩,[(.exit 2,⟨[(0,cv),(1,aa),(4,.fn cp [] []),(11,aa),(12,aa),(47,aG)],b8⟩)])
def Qk:Shape × List (Out × Shape):=(⟨[(0,cv),(1,aa),(4,.fn cp [] []),(11,aa),(12,aa)],b8⟩,[(.exit 4,⟨[(0,cv),(1,aa),(4,.fn cp [] []),(11,aa),(12,aa),(65,aG)],b8⟩)])
def Ql:Shape × List (Out × Shape):=(⟨[(0,cv),(1,aa),(4,.fn cp [] []),(11,aa),(12,aa)],b8⟩,[(.exit 0,⟨[(0,cv),(1,aa),(4,.fn cp [] []),(11,aa),(12,aa),(70,aG)],b8⟩)])
def Qm:Shape × List (Out × Shape):=(⟨[(0,cv),(1,aa),(4,.fn cp [] []),(12,aa),(13,aa)],b8⟩,[(.exit 0,⟨[(0,cv),(1,aa),(4,.fn cp [] []),(12,aa),(13,aa),(47,aG)],b8⟩)])
def Qn:Shape × List (Out × Shape):=(⟨[(0,cv),(1,aa),(4,.fn cp [] []),(12,aa),(13,aa)],b8⟩,[(.exit 2,⟨[(0,cv),(1,aa),(4,.fn cp [] []),(12,aa),(13,aa),(66,aG)],b8⟩)])
def Qo:Shape × List (Out × Shape):=(⟨[(0,cv),(1,aa),(4,.fn cp [] []),(12,aa),(13,aa)],b8⟩,[(.exit 6,⟨[(0,cv),(1,aa),(4,.fn cp [] []),(12,aa),(13,aa),(120,aG)],b8⟩)])
def Qp:Shape × List (Out × Shape):=(⟨[(0,cv),(1,aa),(4,.fn cp [] []),(12,aa),(13,aa)],b8⟩,[(.exit 8,⟨[(0,cv),(1,aa),(4,.fn cp [] []),(12,aa),(13,aa),(139,aG)],b8⟩)])
def Qq:Shape × List (Out × Shape):=(⟨[(0,cv),(1,aa),(4,.fn cp [] []),(12,aa),(13,aa)],b8⟩,[(.exit 4,⟨[(0,cv),(1,aa),(4,.fn cp [] []),(12,aa),(13,aa),(144,aG)],b8⟩)])
def Qr:Shape × List (Out × Shape):=(⟨[(0,cV),(2,aa),(4,aG)],[]⟩,[(.norm,⟨[(0,cV),(2,aa)],[]⟩)])
def Qs:Shape × List (Out × Shape):=(⟨[(0,cV),(2,aa),(8,aG)],[]⟩,[(.norm,⟨[(0,cV),(2,aa)],[]⟩)])
abbrev YO:List (Nat × VS):=[(1,aa),(2,cI),(23,cu),(24,aa),(25,aa)]
def Qt:Shape × List (Out × Shape):=(⟨YO,eH⟩,[(.ret,⟨[(6,aG)],eH⟩),(.exit 0,⟨YO++[(26,aG)],eH⟩)])
abbrev YP:List (Nat × VS):=[(0,Ju),(1,cS),(6,aa)]
def Qu:Shape × List (Out × Shape):=(⟨YP,[fg]⟩,[(.exit 0,⟨YP++[(12,aG)],[fg]⟩)])
abbrev YQ:List (Nat × VS):=[(0,aa),(1,cI),(2,kD),(3,jv),(10,aa),(11,aa)]
def Qv:Shape × List (Out × Shape):=(⟨YQ,rL⟩,[(.exit 0,⟨YQ++[(12,aG)],rL⟩)])
abbrev YR:List (Nat × VS):=[(0,aa),(1,cI),(2,kD),(3,jv),(5,OY),(6,aa)]
def Qw:Shape × List (Out × Shape):=(⟨YR,[om,uU,tn,fP,fg]⟩,[(.exit 0,⟨YR++[(13,aG)],[om,uU,tn,fP,fg]⟩)])
def Qx:Shape × List (Out × Shape):=(⟨[(0,bE),(1,aa),(2,aa),(3,.fn bP [] []),(8,aa),(9,aa)],bp⟩,[(.exit 2,⟨[(0,bE),(1,aa),(2,aa),(3,.fn bP [] []),(8,aa),(9,aa),(34,aG)],bp⟩)])
def Qy:Shape × List (Out × Shape):=(⟨[(0,bE),(1,aa),(2,aa),(3,.fn bP [] []),(8,aa)],bp⟩,[(.exit 0,⟨[(0,bE),(1,aa),(2,aa),(3,.fn bP [] []),(8,aa),(14,aG)],bp⟩)])
def Qz:Shape × List (Out × Shape):=(⟨[(0,bE),(3,.fn bP [] []),(8,aa),(9,aa),(10,aa),(11,aa)],bp⟩,[(.exit 0,⟨[(0,bE),(3,.fn bP [] []),(8,aa),(9,aa),(10,aa),(11,aa),(21,aG)],bp⟩)])
def QA:Shape × List (Out × Shape):=(⟨[(0,bE),(3,.fn bP [] []),(8,aa),(9,aa),(12,aa)],bp⟩,[(.exit 2,⟨[(0,bE),(3,.fn bP [] []),(8,aa),(9,aa),(12,aa),(33,aG)],bp⟩)])
def QB:Shape × List (Out × Shape):=(⟨[(0,bE),(1,aa),(8,aa),(9,kD),(10,cV),(11,aa),(12,aa),(45,aG)],JF⟩,[(.norm,⟨[(0,bE),(1,aa),(8,aa),(9,kD),(10,cV),(11,aa),(12,aa)],JF⟩)])
abbrev YS:List (Nat × VS):=[(0,bE),(1,aa),(8,aa),(9,kD),(10,cV),(11,aa)]
def QC:Shape × List (Out × Shape):=(⟨YS,JF⟩,[(.exit 0,⟨YS++[(35,aG)],JF⟩)])
def QD:Shape × List (Out × Shape):=(⟨[(0,cu),(3,.fn bP [] []),(11,cI),(12,aa),(13,aa),(14,aa),(36,aG)],eH⟩,[(.norm,⟨[(0,cu),(3,.fn bP [] []),(11,cI),(12,aa),(13,aa),(14,aa)],eH⟩)])
def QE:Shape × List (Out × Shape):=(⟨[(0,cu),(3,.fn bP [] []),(10,aa),(11,cI),(12,aa),(13,aa),(14,aa),(34,aG)],eH⟩,[(.norm,⟨[(11,cI),(13,aa)],eH⟩)])
abbrev YT:List (Nat × VS):=[(0,bE),(8,aa),(9,aa)]
def QF:Shape × List (Out × Shape):=(⟨YT,bp⟩,[(.exit 0,⟨YT++[(15,aG)],bp⟩)])
def QG:Shape × List (Out × Shape):=(⟨[(0,bE),(1,aa),(2,aa),(3,.fn bP [] []),(9,aa),(10,aa)],bp⟩,[(.exit 2,⟨[(0,bE),(1,aa),(2,aa),(3,.fn bP [] []),(9,aa),(10,aa),(36,aG)],bp⟩)])
def QH:Shape × List (Out × Shape):=(⟨[(0,bE),(1,aa),(2,aa),(3,.fn bP [] []),(9,aa),(10,aa),(11,aa)],bp⟩,[(.exit 4,⟨[(0,bE),(1,aa),(2,aa),(3,.fn bP [] []),(9,aa),(10,aa),(11,aa)],bp⟩)])
def QI:Shape × List (Out × Shape):=(⟨[(0,bE),(1,aa),(2,aa),(3,.fn bP [] []),(9,aa),(10,aa),(65,aG)],bp⟩,[(.norm,⟨[(0,bE),(1,aa),(2,aa),(3,.fn bP [] []),(9,aa),(10,aa)],bp⟩)])
def QJ:Shape × List (Out × Shape):=(⟨[(0,bE),(1,aa),(2,aa),(3,.fn bP [] []),(9,aa),(10,aa),(12,aa)],bp⟩,[(.exit 6,⟨[(0,bE),(1,aa),(2,aa),(3,.fn bP [] []),(9,aa),(10,aa),(12,aa)],bp⟩)])
def QK:Shape × List (Out × Shape):=(⟨[(0,bE),(1,aa),(2,aa),(3,.fn bP [] []),(9,aa),(10,aa)],bp⟩,[(.ret,⟨[(8,aG)],bp⟩),(.exit 0,⟨[(0,bE),(1,aa),(2,aa),(3,.fn bP [] []),(9,aa),(10,aa),(16,aG)],bp⟩)])
def QL:Shape × List (Out × Shape):=(⟨[(0,bE),(1,aa),(4,.fn bP [] []),(11,aa),(12,aa)],bp⟩,[(.exit 2,⟨[(0,bE),(1,aa),(4,.fn bP [] []),(11,aa),(12,aa),(47,aG)],bp⟩)])
def QM:Shape × List (Out × Shape):=(⟨[(0,bE),(1,aa),(4,.fn bP [] []),(11,aa),(12,aa)],bp⟩,[(.exit 4,⟨[(0,bE),(1,aa),(4,.fn bP [] []),(11,aa),(12,aa),(65,aG)],bp⟩)])
def QN:Shape × List (Out × Shape):=(⟨[(0,bE),(1,aa),(4,.fn bP [] []),(11,aa),(12,aa)],bp⟩,[(.exit 0,⟨[(0,bE),(1,aa),(4,.fn bP [] []),(11,aa),(12,aa),(70,aG)],bp⟩)])
def QO:Shape × List (Out × Shape):=(⟨[(0,bE),(1,aa),(4,.fn bP [] []),(12,aa),(13,aa)],bp⟩,[(.exit 0,⟨[(0,bE),(1,aa),(4,.fn bP [] []),(12,aa),(13,aa),(47,aG)],bp⟩)])
def QP:Shape × List (Out × Shape):=(⟨[(0,bE),(1,aa),(4,.fn bP [] []),(12,aa),(13,aa)],bp⟩,[(.exit 2,⟨[(0,bE),(1,aa),(4,.fn bP [] []),(12,aa),(13,aa),(66,aG)],bp⟩)])
def QQ:Shape × List (Out × Shape):=(⟨[(0,bE),(1,aa),(4,.fn bP [] []),(12,aa),(13,aa)],bp⟩,[(.exit 6,⟨[(0,bE),(1,aa),(4,.fn bP [] []),(12,aa),(13,aa),(120,aG)],bp⟩)])
def QR:Shape × List (Out × Shape):=(⟨[(0,bE),(1,aa),(4,.fn bP [] []),(12,aa),(13,aa)],bp⟩,[(.exit 8,⟨[(0,bE),(1,aa),(4,.fn bP [] []),(12,aa),(13,aa),(139,aG)],bp⟩)])
def QS:Shape × List (Out × Shape):=(⟨[(0,bE),(1,aa),(4,.fn bP [] []),(12,aa),(13,aa)],bp⟩,[(.exit 4,⟨[(0,bE),(1,aa),(4,.fn bP [] []),(12,aa),(13,aa),(144,aG)],bp⟩)])
def QT:Shape × List (Out × Shape):=(⟨[(0,cv),(2,aa),(3,aa),(4,.fn cp [] []),(10,aa),(11,aa),(40,aG)],b8⟩,[(.norm,⟨[(0,cv),(2,aa),(3,aa),(4,.fn cp [] []),(10,aa),(11,aa)],b8⟩)])
def QU:Shape × List (Out × Shape):=(⟨[(0,cv),(2,aa),(3,aa),(4,.fn cp [] []),(10,aa)],b8⟩,[(.exit 0,⟨[(0,cv),(2,aa),(3,aa),(4,.fn cp [] []),(10,aa),(11,aa),(18,aG)],b8⟩),(.ret,⟨[(0,cv),(2,aa),(3,aa),(4,.fn cp [] []),(10,aa),(11,aa),(58,aG)],b8⟩)])
abbrev YU:List (Nat × VS):=[(0,aa),(5,bE),(8,cu),(9,aa),(10,aa)]
def QV:Shape × List (Out × Shape):=(⟨YU,bp⟩,[(.exit 0,⟨YU++[(11,aG)],bp⟩)])
def QW:Shape × List (Out × Shape):=(⟨[(0,bE),(2,aa),(3,aa),(4,.fn bP [] []),(10,aa),(11,aa),(40,aG)],bp⟩,[(.norm,⟨[(0,bE),(2,aa),(3,aa),(4,.fn bP [] []),(10,aa),(11,aa)],bp⟩)])
def QX:Shape × List (Out × Shape):=(⟨[(0,bE),(2,aa),(3,aa),(4,.fn bP [] []),(10,aa)],bp⟩,[(.exit 0,⟨[(0,bE),(2,aa),(3,aa),(4,.fn bP [] []),(10,aa),(11,aa),(18,aG)],bp⟩),(.ret,⟨[(0,bE),(2,aa),(3,aa),(4,.fn bP [] []),(10,aa),(11,aa),(58,aG)],bp⟩)])
def QY:Shape × List (Out × Shape):=(⟨[(0,cu),(1,.fn nw [] []),(7,aa),(8,aa)],[]⟩,[(.ret,⟨xj,[]⟩),(.exit 0,⟨[(0,cu),(1,.fn nw [] []),(7,aa),(8,aa),(9,aG)],[]⟩)])
def QZ:Shape × List (Out × Shape):=(⟨[(0,cu),(1,.fn mA [] []),(7,aa),(8,aa)],[]⟩,[(.ret,⟨xj,[]⟩),(.exit 0,⟨[(0,cu),(1,.fn mA [] []),(7,aa),(8,aa),(9,aG)],[]⟩)])
def Q0:Shape × List (Out × Shape):=(⟨[(0,cu),(1,.fn kZ [] []),(7,aa),(8,aa)],[]⟩,[(.ret,⟨xj,[]⟩),(.exit 0,⟨[(0,cu),(1,.fn kZ [] []),(7,aa),(8,aa),(9,aG)],[]⟩)])
def Q1:Shape × List (Out × Shape):=(⟨[(0,bE),(1,.fn qc [] []),(5,aa),(6,aa)],bp⟩,[(.exit 0,⟨[(0,bE),(1,.fn qc [] []),(5,aa),(6,aa),(19,aG)],bp⟩)])
def Q2:Shape × List (Out × Shape):=(⟨[(0,cu),(1,.fn qc [] []),(7,aa),(8,aa)],[]⟩,[(.ret,⟨xj,[]⟩),(.exit 0,⟨[(0,cu),(1,.fn qc [] []),(7,aa),(8,aa),(9,aG)],[]⟩)])
def Q3:Shape × List (Out × Shape):=(⟨[(0,bE),(1,.fn nw [] []),(5,aa),(6,aa)],bp⟩,[(.exit 0,⟨[(0,bE),(1,.fn nw [] []),(5,aa),(6,aa),(19,aG)],bp⟩)])
def Q4:Shape × List (Out × Shape):=(⟨[(1,.fn rC [] [.bh 0 0 0]),(4,aa),(5,cV),(6,cS),(7,aa),(8,aa)],eH⟩,[(.exit 2,⟨[(1,.fn rC [] [.bh 0 0 0]),(4,aa),(5,cV),(6,cS),(7,aa),(8,aa),(14,aG)],eH⟩)])
def Q5:Shape × List (Out × Shape):=(⟨[(1,.fn rC [] [.bh 0 0 0]),(6,cS),(7,aa),(8,aa)],eH⟩,[(.exit 0,⟨[(1,.fn rC [] [.bh 0 0 0]),(6,cS),(7,aa),(8,aa),(9,aG)],eH⟩)])
def Q6:Shape × List (Out × Shape):=(⟨[(1,.fn rF [] [.bh 0 0 0,.bh 1 0 0,.bh 2 0 0]),(4,aa),(5,cV),(6,cS),(7,aa),(8,aa)],uW⟩,[(.exit 2,⟨[(1,.fn rF [] [.bh 0 0 0,.bh 1 0 0,.bh 2 0 0]),(4,aa),(5,cV),(6,cS),(7,aa),(8,aa),(14,aG)],uW⟩)])
def Q7:Shape × List (Out × Shape):=(⟨[(1,.fn rF [] [.bh 0 0 0,.bh 1 0 0,.bh 2 0 0]),(6,cS),(7,aa),(8,aa)],uW⟩,[(.exit 0,⟨[(1,.fn rF [] [.bh 0 0 0,.bh 1 0 0,.bh 2 0 0]),(6,cS),(7,aa),(8,aa),(9,aG)],uW⟩)])
def Q8:Shape × List (Out × Shape):=(⟨[(1,.fn rE [] [.bh 0 0 0,.bh 1 0 0,.bh 2 0 0]),(4,aa),(5,cV),(6,cS),(7,aa),(8,aa)],rL⟩,[(.exit 2,⟨[(1,.fn rE [] [.bh 0 0 0,.bh 1 0 0,.bh 2 0 0]),(4,aa),(5,cV),(6,cS),(7,aa),(8,aa),(14,aG)],rL⟩)])
def Q9:Shape × List (Out × Shape):=(⟨[(1,.fn rE [] [.bh 0 0 0,.bh 1 0 0,.bh 2 0 0]),(6,cS),(7,aa),(8,aa)],rL⟩,[(.exit 0,⟨[(1,.fn rE [] [.bh 0 0 0,.bh 1 0 0,.bh 2 0 0]),(6,cS),(7,aa),(8,aa),(9,aG)],rL⟩)])
def Ra:Shape × List (Out × Shape):=(⟨[(1,.fn rD [] [.bh 0 0 0,.bh 1 0 0]),(4,aa),(5,cV),(6,cS),(7,aa),(8,aa)],o7⟩,[(.exit 2,⟨[(1,.fn rD [] [.bh 0 0 0,.bh 1 0 0]),(4,aa),(5,cV),(6,cS),(7,aa),(8,aa),(14,aG)],o7⟩)])
def Rb:Shape × List (Out × Shape):=(⟨[(1,.fn rD [] [.bh 0 0 0,.bh 1 0 0]),(6,cS),(7,aa),(8,aa)],o7⟩,[(.exit 0,⟨[(1,.fn rD [] [.bh 0 0 0,.bh 1 0 0]),(6,cS),(7,aa),(8,aa),(9,aG)],o7⟩)])
def Rc:Shape × List (Out × Shape):=(⟨[(1,.fn rz [] [.bh 0 0 0,.bh 1 0 0]),(4,aa),(5,cV),(6,cS),(7,aa),(8,aa)],o7⟩,[(.exit 2,⟨[(1,.fn rz [] [.bh 0 0 0,.bh 1 0 0]),(4,aa),(5,cV),(6,cS),(7,aa),(8,aa),(14,aG)],o7⟩)])
def Re:Shape × List (Out × Shape):=(⟨[(1,.fn rz [] [.bh 0 0 0,.bh 1 0 0]),(6,cS),(7,aa),(8,aa)],o7⟩,[(.exit 0,⟨[(1,.fn rz [] [.bh 0 0 0,.bh 1 0 0]),(6,cS),(7,aa),(8,aa),(9,aG)],o7⟩)])
def Rf:Shape × List (Out × Shape):=(⟨[(0,bE),(1,.fn rH [] []),(5,aa),(6,Jv),(7,aa)],bp⟩,[(.exit 2,⟨[(0,bE),(1,.fn rH [] []),(5,aa),(6,Jv),(7,aa),(35,aG)],bp⟩)])
def Rg:Shape × List (Out × Shape):=(⟨[(0,bE),(1,.fn rH [] []),(5,aa)],bp⟩,[(.ret,⟨[(4,tk)],rJ⟩),(.exit 0,⟨[(0,bE),(1,.fn rH [] []),(5,aa),(15,aG)],bp⟩)])
def Rh:Shape × List (Out × Shape):=(⟨[(1,.fn rA [] [.bh 0 0 0,.bh 1 0 0,.bh 2 0 0,.bh 3 0 0]),(4,aa),(5,cV),(6,cS),(7,aa),(8,aa)],uX⟩,[(.exit 2,⟨[(1,.fn rA [] [.bh 0 0 0,.bh 1 0 0,.bh 2 0 0,.bh 3 0 0]),(4,aa),(5,cV),(6,cS),(7,aa),(8,aa),(14,aG)],uX⟩)])
def Ri:Shape × List (Out × Shape):=(⟨[(1,.fn rA [] [.bh 0 0 0,.bh 1 0 0,.bh 2 0 0,.bh 3 0 0]),(6,cS),(7,aa),(8,aa)],uX⟩,[(.exit 0,⟨[(1,.fn rA [] [.bh 0 0 0,.bh 1 0 0,.bh 2 0 0,.bh 3 0 0]),(6,cS),(7,aa),(8,aa),(9,aG)],uX⟩)])
def Rj:Shape × List (Out × Shape):=(⟨[(1,.fn rB [] [.bh 0 0 0,.bh 1 0 0,.bh 2 0 0]),(4,aa),(5,cV),(6,cS),(7,aa),(8,aa)],Az⟩,[(.exit 2,⟨[(1,.fn rB [] [.bh 0 0 0,.bh 1 0 0,.bh 2 0 0]),(4,aa),(5,cV),(6,cS),(7,aa),(8,aa),(14,aG)],Az⟩)])
def Rk:Shape × List (Out × Shape):=(⟨[(1,.fn rB [] [.bh 0 0 0,.bh 1 0 0,.bh 2 0 0]),(6,cS),(7,aa),(8,aa)],Az⟩,[(.exit 0,⟨[(1,.fn rB [] [.bh 0 0 0,.bh 1 0 0,.bh 2 0 0]),(6,cS),(7,aa),(8,aa),(9,aG)],Az⟩)])
def Rl:Shape × List (Out × Shape):=(⟨[(0,bE),(1,.fn qb [] []),(5,aa),(6,aa)],bp⟩,[(.exit 0,⟨[(0,bE),(1,.fn qb [] []),(5,aa),(6,aa),(19,aG)],bp⟩)])
def Rm:Shape × List (Out × Shape):=(⟨[(0,cu),(1,.fn qb [] []),(7,aa),(8,aa)],[]⟩,[(.ret,⟨xj,[]⟩),(.exit 0,⟨[(0,cu),(1,.fn qb [] []),(7,aa),(8,aa),(9,aG)],[]⟩)])
def Rn:Shape × List (Out × Shape):=(⟨[(0,bE),(1,.fn w8 [] [.bh 1 0 0]),(7,aa),(8,aa)],DO⟩,[(.ret,⟨xj,DO⟩),(.exit 0,⟨[(0,bE),(1,.fn w8 [] [.bh 1 0 0]),(7,aa),(8,aa),(9,aG)],DO⟩)])
def ahp:List (Nat × FuncId):=[(5,Ol),
 (6,IV),
 (7,IW),
 (8,ti),
 (9,Du),
 (14,IX),
 (15,IY),
 (16,Ah),
 (17,IZ),
 (18,uQ),
 (19,Ai),
 (20,I0),
 (21,Aj),
 (22,w7),
 (23,ag8),
 (24,Dv),
 (25,I1),
 (26,uR),
 (27,p9),
 (28,w8),
 (29,bP),
 (30,kZ),
 (31,Ak),
 (32,cp),
 (44,Dw),
 (45,Dx),
 (46,qa),
 (47,w9),
 (48,og),
 (49,Al),
 (50,Am),
 (51,Dy),
 (52,uS),
 (53,An),
 (54,Dz),
 (55,DA),
 (56,I4),
 (57,DB),
 (58,rr),
 (59,xb),
 (60,DC),
 (61,ru),
 (62,xc),
 (63,qb),
 (64,DD),
 (65,rv),
 (66,I5),
 (67,xd),
 (68,Om),
 (69,DE),
 (70,I6),
 (79,I7),
 (82,I8),
 (83,I9),
 (84,DF),
 (85,DG),
 (86,oh),
 (87,ry),
 (88,Ao),
 (89,DH),
 (90,o6),
 (91,Ja),
 (92,Jb),
 (93,DI),
 (94,Ap),
 (95,On),
 (96,Aq),
 (97,Oo),
 (98,Oq),
 (99,Ot),
 (100,Ou),
 (101,Ov),
 (102,Ow),
 (103,Ox),
 (104,Oy),
 (106,Jc),
 (111,Ar),
 (114,rz),
 (115,xe),
 (116,mA),
 (117,rA),
 (118,rB),
 (119,rC),
 (120,rD),
 (121,rE),
 (122,rF),
 (123,Jd),
 (124,Je),
 (125,Jf),
 (126,xf),
 (127,Oz),
 (128,OA),
 (129,OB),
 (130,OC),
 (131,OD),
 (132,OE),
 (133,OF),
 (134,OG),
 (135,OH),
 (136,Jg),
 (137,Jh),
 (138,OI),
 (139,OJ),
 (145,nw),
 (146,uT),
 (147,As),
 (148,oj),
 (149,xg),
 (150,rG),
 (151,qc),
 (152,OK),
 (153,OL),
 (154,OM),
 (155,ON),
 (159,rH),
 (160,OO),
 (187,xd),
 (188,p9),
 (189,xd),
 (190,p9),
 (192,xd),
 (193,p9),
 (194,xc),
 (195,p9),
 (196,xc),
 (197,w9),
 (198,oh),
 (199,oh),
 (200,oh),
 (201,oh),
 (202,oh),
 (203,DC),
 (204,oh),
 (205,oh),
 (206,xc),
 (207,p9),
 (208,p9)]
def ahq:List (Nat × Shape):=[(5,⟨[(0,qe),(1,aa),(2,tj)],[]⟩),
 (6,⟨tp,[]⟩),
 (7,⟨jx,[]⟩),
 (8,⟨[],[]⟩),
 (9,⟨tp,[]⟩),
 (14,⟨[(0,qe),(1,tj)],[]⟩),
 (15,⟨jx,[]⟩),
 (16,⟨tp,[]⟩),
 (17,⟨[(0,tj),(1,aa)],[]⟩),
 (18,⟨[(0,O2),(1,tj)],[]⟩),
 (19,⟨eV,[]⟩),
 (20,⟨jx,[]⟩),
 (21,⟨tp,[]⟩),
 (22,⟨tp,[]⟩),
 (23,⟨[],[]⟩),
 (24,⟨tp,[]⟩),
 (25,⟨oo,bp⟩),
 (26,⟨tp,[]⟩),
 (27,⟨[(0,cu),(1,.fn rr [] [])],[]⟩),
 (28,⟨[(0,qe),(1,cI)],[jw]⟩),
 (29,⟨O5,[]⟩),
 (30,⟨jx,[]⟩),
 (31,⟨[(0,cv),(1,.fn cp [] [])],b8⟩),
 (32,⟨[(0,.agg [.int .i64,.int .i64,.int .i64]),(1,.agg [.int .i64,.int .i64,.int .i64])],[]⟩),
 (44,⟨jx,[]⟩),
 (45,⟨[(0,tj),(1,aa)],[]⟩),
 (46,⟨[(0,O1)],[]⟩),
 (47,⟨[(0,Ju),(1,aa)],[fg]⟩),
 (48,⟨JI,[]⟩),
 (49,⟨[(0,cS),(1,aa)],[]⟩),
 (50,⟨jx,[]⟩),
 (51,⟨jx,[]⟩),
 (52,⟨[(0,cI),(1,qe)],[.var 71 [aa,.one (.whole aB 1)],fg]⟩),
 (53,⟨tq,[]⟩),
 (54,⟨[(0,O2)],[]⟩),
 (55,⟨[(0,O2)],[]⟩),
 (56,⟨[(0,cS),(1,cV)],[]⟩),
 (57,⟨tp,[]⟩),
 (58,⟨jx,[]⟩),
 (59,⟨[(0,bE),(1,.fn bP [] [])],bp⟩),
 (60,⟨[(0,bE),(1,.fn ru [] [])],bp⟩),
 (61,⟨O5,[]⟩),
 (62,⟨[(0,bE),(1,.fn mA [] [])],bp⟩),
 (63,⟨jx,[]⟩),
 (64,⟨[(0,cu),(1,cu)],[]⟩),
 (65,⟨AA,[]⟩),
 (66,⟨[(0,cu),(1,cu),(2,.fn bP [] [])],[]⟩),
 (67,⟨[(0,cu),(1,.fn rr [] [])],[]⟩),
 (68,⟨[(0,cv),(1,aa),(2,aa),(3,aa),(4,.fn cp [] [])],b8⟩),
 (69,⟨tq,[]⟩),
 (70,⟨[(0,Yf)],[]⟩),
 (79,⟨jx,[]⟩),
 (82,⟨[(0,O1),(1,cu),(2,cS)],[]⟩),
 (83,⟨JI,[]⟩),
 (84,⟨JI,[]⟩),
 (85,⟨JI,[]⟩),
 (86,⟨[(0,cS),(1,.fn ry [] [.bh 0 0 0,.bh 1 0 0,.bh 2 0 0])],rK⟩),
 (87,⟨JJ,rK⟩),
 (88,⟨[(0,aa),(1,cu)],[]⟩),
 (89,⟨[(0,cI),(1,cV),(2,cV)],[.var 71 [aa,.one (.whole aB 1)],fg]⟩),
 (90,⟨tq,[]⟩),
 (91,⟨eV,[]⟩),
 (92,⟨[(0,cS)],[]⟩),
 (93,⟨eV,[]⟩),
 (94,⟨tp,[]⟩),
 (95,⟨[(0,bE),(1,aa),(2,aa),(3,aa),(4,.fn bP [] [])],bp⟩),
 (96,⟨eV,[]⟩),
 (97,⟨[(0,cv),(1,aa),(2,aa),(3,.fn cp [] [])],b8⟩),
 (98,⟨[(0,cv),(1,aa),(2,aa),(3,.fn cp [] [])],b8⟩),
 (99,⟨[(0,cv),(1,aa),(2,aa),(3,.fn cp [] [])],b8⟩),
 (100,⟨[(0,rI),(1,aa),(2,aa),(3,.fn cp [] [])],[]⟩),
 (101,⟨[(0,cv),(1,aa),(2,aa),(3,.fn cp [] [])],b8⟩),
 (102,⟨[(0,cv),(1,aa),(2,aa),(3,.fn cp [] [])],b8⟩),
 (103,⟨[(0,cv),(1,aa),(2,aa),(3,aa),(4,.fn cp [] [])],b8⟩),
 (104,⟨[(0,cv),(1,aa),(2,aa),(3,aa),(4,.fn cp [] [])],b8⟩),
 (106,⟨tq,[]⟩),
 (111,⟨[(0,qe),(1,aa),(2,cI)],eH⟩),
 (114,⟨[(0,aa),(1,cI),(2,kD)],JG⟩),
 (115,⟨[(0,Ju),(1,cS),(2,aa)],[fg]⟩),
 (116,⟨jx,[]⟩),
 (117,⟨[(0,aa),(1,cI),(2,kD),(3,jv),(4,qd)],uX⟩),
 (118,⟨JJ,[Jx,.var 63 [Au],xi,fg,fP]⟩),
 (119,⟨[(0,aa),(1,cI)],eH⟩),
 (120,⟨[(0,aa),(1,cI),(2,kD)],JG⟩),
 (121,⟨JJ,rL⟩),
 (122,⟨JJ,uW⟩),
 (123,⟨[(0,cu)],[]⟩),
 (124,⟨[(0,cu)],[]⟩),
 (125,⟨[(0,cu)],[]⟩),
 (126,⟨[],[]⟩),
 (127,⟨[(0,bE),(1,aa),(2,aa),(3,.fn bP [] [])],bp⟩),
 (128,⟨[(0,bE),(1,aa),(2,aa),(3,.fn bP [] [])],bp⟩),
 (129,⟨[(0,bE),(1,aa),(2,aa),(3,.fn bP [] [])],bp⟩),
 (130,⟨[(0,cu),(1,aa),(2,aa),(3,.fn bP [] [])],[]⟩),
 (131,⟨[(0,bE),(1,aa),(2,aa),(3,.fn bP [] [])],bp⟩),
 (132,⟨[(0,bE),(1,aa),(2,aa),(3,.fn bP [] [])],bp⟩),
 (133,⟨[(0,bE),(1,aa),(2,aa),(3,aa),(4,.fn bP [] [])],bp⟩),
 (134,⟨[(0,bE),(1,aa),(2,aa),(3,aa),(4,.fn bP [] [])],bp⟩),
 (135,⟨[(0,cv),(1,aa),(2,aa),(3,aa),(4,.fn cp [] [])],b8⟩),
 (136,⟨eV,[]⟩),
 (137,⟨[(0,cI)],[Jy]⟩),
 (138,⟨[(0,rI),(1,aa),(2,cI),(3,.fn cp [] [])],eH⟩),
 (139,⟨[(0,rI),(1,aa),(2,aa),(3,aa),(4,cI),(5,.fn cp [] [])],eH⟩),
 (145,⟨jx,[]⟩),
 (146,⟨[],[]⟩),
 (147,⟨[(0,aa),(1,cu)],[]⟩),
 (148,⟨[(0,aa),(1,cu),(2,qe)],[]⟩),
 (149,⟨oo,bp⟩),
 (150,⟨[],[]⟩),
 (151,⟨jx,[]⟩),
 (152,⟨[(0,bE),(1,aa),(2,aa),(3,aa),(4,.fn bP [] [])],bp⟩),
 (153,⟨[(0,cu),(1,aa),(2,cI),(3,.fn bP [] [])],eH⟩),
 (154,⟨[(0,cu),(1,aa),(2,aa),(3,aa),(4,cI),(5,.fn bP [] [])],eH⟩),
 (155,⟨[(0,rI),(1,aa),(2,aa),(3,cI),(4,.fn cp [] [])],eH⟩),
 (159,⟨O5,[]⟩),
 (160,⟨[(0,cu),(1,aa),(2,aa),(3,cI),(4,.fn bP [] [])],eH⟩),
 (187,⟨[(0,cu),(1,.fn nw [] [])],[]⟩),
 (188,⟨[(0,cu),(1,.fn nw [] [])],[]⟩),
 (189,⟨[(0,cu),(1,.fn mA [] [])],[]⟩),
 (190,⟨[(0,cu),(1,.fn mA [] [])],[]⟩),
 (192,⟨[(0,cu),(1,.fn kZ [] [])],[]⟩),
 (193,⟨[(0,cu),(1,.fn kZ [] [])],[]⟩),
 (194,⟨[(0,bE),(1,.fn qc [] [])],bp⟩),
 (195,⟨[(0,cu),(1,.fn qc [] [])],[]⟩),
 (196,⟨[(0,bE),(1,.fn nw [] [])],bp⟩),
 (197,⟨[(0,.one (.row aB 0 [0])),(1,aa)],[fP]⟩),
 (198,⟨[(0,cS),(1,.fn rC [] [.bh 0 0 0])],eH⟩),
 (199,⟨[(0,cS),(1,.fn rF [] [.bh 0 0 0,.bh 1 0 0,.bh 2 0 0])],uW⟩),
 (200,⟨[(0,cS),(1,.fn rE [] [.bh 0 0 0,.bh 1 0 0,.bh 2 0 0])],rL⟩),
 (201,⟨[(0,cS),(1,.fn rD [] [.bh 0 0 0,.bh 1 0 0])],JG⟩),
 (202,⟨[(0,cS),(1,.fn rz [] [.bh 0 0 0,.bh 1 0 0])],JG⟩),
 (203,⟨[(0,bE),(1,.fn rH [] [])],bp⟩),
 (204,⟨[(0,cS),(1,.fn rA [] [.bh 0 0 0,.bh 1 0 0,.bh 2 0 0,.bh 3 0 0])],uX⟩),
 (205,⟨[(0,cS),(1,.fn rB [] [.bh 0 0 0,.bh 1 0 0,.bh 2 0 0])],[Jx,.var 63 [Au],xi,fg,fP]⟩),
 (206,⟨[(0,bE),(1,.fn qb [] [])],bp⟩),
 (207,⟨[(0,cu),(1,.fn qb [] [])],[]⟩),
 (208,⟨[(0,bE),(1,.fn w8 [] [.bh 1 0 0])],DO⟩)]
def ahr:List (Nat × Shape):=[(5,⟨eW,[]⟩),
 (6,⟨eV,[]⟩),
 (7,⟨eV,[]⟩),
 (8,⟨eW,[]⟩),
 (9,⟨[(0,Yg),(1,aa)],b8⟩),
 (14,⟨eW,[]⟩),
 (15,⟨jx,[]⟩),
 (16,⟨[(0,Yg),(1,aa)],b8⟩),
 (17,⟨eW,[]⟩),
 (18,⟨eW,[]⟩),
 (19,⟨eW,[]⟩),
 (20,⟨eW,[]⟩),
 (21,⟨eW,[]⟩),
 (22,⟨AA,[]⟩),
 (23,⟨[(0,Jw)],bp⟩),
 (24,⟨eV,[]⟩),
 (25,⟨uY,rJ⟩),
 (26,⟨oo,bp⟩),
 (27,⟨eV,[]⟩),
 (28,⟨eW,[jw]⟩),
 (29,⟨eV,[]⟩),
 (30,⟨eW,[]⟩),
 (31,⟨[],b8⟩),
 (32,⟨eV,[]⟩),
 (44,⟨eW,[]⟩),
 (45,⟨eW,[]⟩),
 (46,⟨[(0,Ju)],[fg]⟩),
 (47,⟨[],[fg]⟩),
 (48,⟨DP,[fP]⟩),
 (49,⟨eW,[]⟩),
 (50,⟨jx,[]⟩),
 (51,⟨[(0,Av)],[kE]⟩),
 (52,⟨[(0,.agg [.int .u64,.int .u64,.bool])],[.var 71 [aa,Jr],.dead,fg]⟩),
 (53,⟨[(0,Av)],[kE]⟩),
 (54,⟨eV,[]⟩),
 (55,⟨[(0,Ye)],[]⟩),
 (56,⟨tq,[]⟩),
 (57,⟨eV,[]⟩),
 (58,⟨eW,[]⟩),
 (59,⟨[],bp⟩),
 (60,⟨uY,rJ⟩),
 (61,⟨eW,[]⟩),
 (62,⟨uY,rJ⟩),
 (63,⟨eW,[]⟩),
 (64,⟨oo,bp⟩),
 (65,⟨eV,[]⟩),
 (66,⟨eV,[]⟩),
 (67,⟨eW,[]⟩),
 (68,⟨[],b8⟩),
 (69,⟨eV,[]⟩),
 (70,⟨eV,[]⟩),
 (79,⟨eW,[]⟩),
 (82,⟨DP,[fP]⟩),
 (83,⟨DP,[fP]⟩),
 (84,⟨DP,[fP]⟩),
 (85,⟨DP,[fP]⟩),
 (86,⟨[],rK⟩),
 (87,⟨[],rK⟩),
 (88,⟨jx,[]⟩),
 (89,⟨[],[.var 71 [aa,Jr],.dead,fg]⟩),
 (90,⟨eV,[]⟩),
 (91,⟨tq,[]⟩),
 (92,⟨eW,[]⟩),
 (93,⟨tq,[]⟩),
 (94,⟨eW,[]⟩),
 (95,⟨[],bp⟩),
 (96,⟨eW,[]⟩),
 (97,⟨[],b8⟩),
 (98,⟨[],b8⟩),
 (99,⟨[],b8⟩),
 (100,⟨AA,[]⟩),
 (101,⟨[],b8⟩),
 (102,⟨eW,b8⟩),
 (103,⟨eV,b8⟩),
 (104,⟨[(0,aa),(1,aG)],b8⟩),
 (106,⟨eV,[]⟩),
 (111,⟨eW,eH⟩),
 (114,⟨[],o7⟩),
 (115,⟨[],[fg]⟩),
 (116,⟨eW,[]⟩),
 (117,⟨[],uX⟩),
 (118,⟨[],Az⟩),
 (119,⟨[],eH⟩),
 (120,⟨[],o7⟩),
 (121,⟨[],rL⟩),
 (122,⟨[],uW⟩),
 (123,⟨jx,[]⟩),
 (124,⟨jx,[]⟩),
 (125,⟨jx,[]⟩),
 (126,⟨[(0,Jw)],bp⟩),
 (127,⟨[],bp⟩),
 (128,⟨[],bp⟩),
 (129,⟨[],bp⟩),
 (130,⟨AA,[]⟩),
 (131,⟨[],bp⟩),
 (132,⟨eW,bp⟩),
 (133,⟨eV,bp⟩),
 (134,⟨[(0,aa),(1,aG)],bp⟩),
 (135,⟨[],b8⟩),
 (136,⟨tq,[]⟩),
 (137,⟨tq,[Jy]⟩),
 (138,⟨eV,eH⟩),
 (139,⟨eV,eH⟩),
 (145,⟨eW,[]⟩),
 (146,⟨[(0,Jw)],bp⟩),
 (147,⟨oo,bp⟩),
 (148,⟨jx,[]⟩),
 (149,⟨uY,rJ⟩),
 (150,⟨[(0,Jw)],bp⟩),
 (151,⟨eW,[]⟩),
 (152,⟨[],bp⟩),
 (153,⟨eV,eH⟩),
 (154,⟨eV,eH⟩),
 (155,⟨AA,eH⟩),
 (159,⟨eW,[]⟩),
 (160,⟨AA,eH⟩),
 (187,⟨eW,[]⟩),
 (188,⟨eV,[]⟩),
 (189,⟨eW,[]⟩),
 (190,⟨eV,[]⟩),
 (192,⟨eW,[]⟩),
 (193,⟨eV,[]⟩),
 (194,⟨uY,rJ⟩),
 (195,⟨eV,[]⟩),
 (196,⟨uY,rJ⟩),
 (197,⟨[],[fP]⟩),
 (198,⟨[],eH⟩),
 (199,⟨[],uW⟩),
 (200,⟨[],rL⟩),
 (201,⟨[],o7⟩),
 (202,⟨[],o7⟩),
 (203,⟨uY,rJ⟩),
 (204,⟨[],uX⟩),
 (205,⟨[],Az⟩),
 (206,⟨uY,rJ⟩),
 (207,⟨eV,[]⟩),
 (208,⟨eV,DO⟩)]
def ahs:List (Nat × Shape):=[(25,⟨oo,bp⟩),
 (60,⟨oo,bp⟩),
 (62,⟨oo,bp⟩),
 (149,⟨oo,bp⟩),
 (194,⟨oo,bp⟩),
 (196,⟨oo,bp⟩),
 (203,⟨oo,bp⟩),
 (206,⟨oo,bp⟩)]
def aht:List (Nat × List (Nat × List Nat)):=[(5,[(0,[1,2,3]),(1,[1,2,3,25]),(2,[6]),(3,[1,2,3,7,8]),(4,[1,2,3,7,8,9,10]),(5,[1,2,3,7,8,9,10,44]),(6,[6]),(7,[2,7,9,11]),(8,[6])]),
 (6,[(0,[1,2]),(1,[1,2,5]),(2,[4]),(3,[1,2,9]),(4,[4]),(5,[13]),(6,[4]),(7,[4])]),
 (7,[(0,[1]),(1,[3]),(2,[2])]),
 (8,[(0,[]),(1,[1,2]),(2,[0])]),
 (9,[(0,[1,2,4]),(1,[1,2,4,6]),(2,[1,2,4,6,18]),(3,[4,5]),(4,[1,4,7]),(5,[1,4,7,8]),(6,[1,4,7,8,9]),(7,[1,4,7,8,9,29]),(8,[1,4,7,8,9]),(9,[1,4,7,8,9,32,33]),(10,[1,4,7,8,9,32,33,34]),(11,[1,4,7,8,9,10,32,33]),(12,[1,4,7,8,9,10,32,33,42,43,44]),(13,[1,4,7,8,9,10,32,33,42,43,44,45]),(14,[1,4,7,8,9,10,12,32,33,42,43,44]),(15,[1,4,7,8,9,10,12,13,32,33,42,43,44]),(16,[1,4,7,8,9,10,12,13,32,33,42,43,44,52]),(17,[1,4,7,8,9,10,12,32,33,42,43,44,55]),(18,[4,5]),(19,[1,4,7,8,9,10,12,13,32,33,42,43,44]),(20,[1,4,7,8,9,10,13,32,33,42,43,44]),(21,[1,4,7,8,9,10,32,33,42,43,44]),(22,[1,4,7,8,9,10,32,33,42,43,44]),(23,[1,4,7,8,9,32,33]),(24,[1,4,7,8,9,78]),(25,[1,4,7,8,9]),(26,[4,8]),(27,[4,8]),(28,[4,5])]),
 (14,[(0,[1,2]),(1,[1,2,14]),(2,[4]),(3,[1,2,5]),(4,[1,2,5,6]),(5,[1,2,5,6]),(6,[4])]),
 (15,[(0,[1,2]),(1,[1,2,5]),(2,[2]),(3,[2])]),
 (16,[(0,[1,2,4]),(1,[1,2,4,6]),(2,[1,2,4,6,19]),(3,[4,5]),(4,[1,2,4,7]),(5,[1,2,4,7,28]),(6,[4,5]),(7,[1,2,4,7,8]),(8,[1,4,7,8,9]),(9,[1,4,7,8,9]),(10,[4,7,8,9,10]),(11,[4,7,8,10,48]),(12,[4,7,8,10]),(13,[4,7,10,54,55,56]),(14,[4,7,10,54,55,56,57]),(15,[4,7,10,11,12,54,55,56]),(16,[4,7,10,11,54,55,56,62,63,64]),(17,[4,7,10,11,54,55,56,62,63,64,65]),(18,[4,7,10,11,14,54,55,56,62,63,64]),(19,[4,7,10,11,54,55,56,62,63,64]),(20,[4,7,10,11,54,55,56,62,63,64]),(21,[4,7,10,54,55,56]),(22,[4,10]),(23,[4,5])]),
 (17,[(0,[0,1]),(1,[0,1,13]),(2,[4]),(3,[0,1,5]),(4,[0,1,5,17]),(5,[0,1,5]),(6,[0,1,5,32]),(7,[4]),(8,[4])]),
 (18,[(0,[1,2]),(1,[1,2,17]),(2,[4]),(3,[1,2,5,6]),(4,[1,2,5,6,23,24]),(5,[1,2,5,6,23,24,25]),(6,[1,2,5,6,7,23,24]),(7,[1,2,5,6,23,24]),(8,[1,2,5,6,23,24]),(9,[4])]),
 (19,[(0,[0]),(1,[2])]),
 (20,[(0,[1]),(1,[3,4]),(2,[2])]),
 (21,[(0,[1,2]),(1,[1,2,5]),(2,[1,2,5,6]),(3,[1,2,5,6,20]),(4,[1,2,5,6]),(5,[1,2,5,6,20,26]),(6,[1,2,5,6,20,26]),(7,[1,2,5,6,20,26]),(8,[1,2,5,6]),(9,[1,2,5,6,20,32]),(10,[1,2,5,6,32]),(11,[1,2,5,6]),(12,[1,2,5,6,39]),(13,[1,2,5,6]),(14,[1,2,5,6]),(15,[1,2,5,6,7]),(16,[1,2,5,6,7,63]),(17,[1,2,5,6,7]),(18,[1,2,5,6,7]),(19,[4])]),
 (22,[(0,[1,2]),(1,[1,2,6,7]),(2,[1,2,6,7,8]),(3,[1,2,6,7,8,20]),(4,[1,2,6,7,8]),(5,[1,2,6,7,8,9,10]),(6,[1,2,6,7,8]),(7,[4,5])]),
 (23,[(0,[0]),(1,[0,1,2]),(2,[0])]),
 (24,[(0,[1,2]),(1,[2,5]),(2,[2,5,10]),(3,[4]),(4,[13]),(5,[4]),(6,[4])]),
 (25,[(0,[0]),(1,[0]),(2,[0]),(3,[2])]),
 (26,[(0,[1,2]),(1,[1,2,12]),(2,[1,2,12,13]),(3,[18]),(4,[4]),(5,[1,2,12,21]),(6,[1,2,5]),(7,[1,5,24,25,26]),(8,[1,5,24,25,26,27]),(9,[1,5,7,24,25,26]),(10,[1,5,24,25,26]),(11,[1,5,24,25,26]),(12,[4]),(13,[1,2,12,37]),(14,[4]),(15,[1,2,48]),(16,[1,2,8]),(17,[1,2,8,51,52,53]),(18,[1,2,8,51,52,53,54]),(19,[1,2,8,9,10,51,52,53]),(20,[1,2,8,10,51,52,53]),(21,[1,2,8,51,52,53,71]),(22,[1,2,8,51,52,53]),(23,[4]),(24,[4])]),
 (27,[(0,[0,1]),(1,[0,1,7,8]),(2,[0,1,7,8,9]),(3,[0,1,5,7,8]),(4,[0,1,5,7,8,16]),(5,[4]),(6,[0,1,7,8]),(7,[4])]),
 (28,[(0,[1,2]),(1,[3])]),
 (29,[(0,[2,3]),(1,[2,3,9]),(2,[4]),(3,[2,3,19]),(4,[4]),(5,[4])]),
 (30,[(0,[1]),(1,[1,6]),(2,[1,6,7]),(3,[1,6,7]),(4,[2]),(5,[1,6,10]),(6,[2]),(7,[1,6,15]),(8,[1,6,15]),(9,[19,20,21]),(10,[19,20,21,22]),(11,[4,19,20,21]),(12,[19,20,21,27]),(13,[2]),(14,[19,20,21]),(15,[2]),(16,[1,29]),(17,[2]),(18,[2])]),
 (31,[(0,[0,1,4]),(1,[])]),
 (32,[(0,[2,3]),(1,[4])]),
 (44,[(0,[1]),(1,[2])]),
 (45,[(0,[0,1]),(1,[0,1,16]),(2,[4]),(3,[0,1,18,19]),(4,[0,1,18,19,20]),(5,[0,1,5,18,19]),(6,[0,1,18,19,34]),(7,[4]),(8,[0,1,18,19]),(9,[4])]),
 (46,[(0,[1]),(1,[2])]),
 (47,[(0,[])]),
 (48,[(0,[2,3,4]),(1,[2,3,4,9]),(2,[2,3,4,9,10]),(3,[6]),(4,[2,3,4,9,17]),(5,[6]),(6,[2,3,4,9,26]),(7,[2,3,4,9,26]),(8,[6]),(9,[2,3,4,33]),(10,[6]),(11,[2,3,4,7]),(12,[7]),(13,[6])]),
 (49,[(0,[0,1]),(1,[4])]),
 (50,[(0,[1,2]),(1,[1,2,9]),(2,[2]),(3,[1,2,3]),(4,[1,2,3,20,21,22]),(5,[1,2,3,20,21,22,23]),(6,[1,2,3,4,5,20,21,22]),(7,[1,2,3,20,21,22]),(8,[1,2,3,20,21,22]),(9,[2])]),
 (51,[(0,[1]),(1,[1,8]),(2,[2]),(3,[1,3]),(4,[3,13,14,15]),(5,[3,13,14,15,16]),(6,[3,5,13,14,15]),(7,[3,13,14,15]),(8,[3,13,14,15]),(9,[2])]),
 (52,[(0,[0,3,4]),(1,[0,3,4,15]),(2,[0,3,4,15,16]),(3,[4]),(4,[0,3,4,15,19]),(5,[0,4]),(6,[4]),(7,[0,3,4,15,39]),(8,[0,3,4,5]),(9,[0,4,5,42,43,44]),(10,[0,4,5,42,43,44,45]),(11,[0,4,5,7,42,43,44]),(12,[0,4,5,8,42,43,44]),(13,[0,4,5,42,43,44]),(14,[0,4,5,42,43,44]),(15,[4]),(16,[0,3,4,15,70]),(17,[0,3,4,9]),(18,[0,4,9,74,75,76]),(19,[0,4,9,74,75,76,77]),(20,[0,4,9,11,74,75,76]),(21,[0,4,9,12,74,75,76]),(22,[0,4,9,12,74,75,76]),(23,[0,4,9,12,74,75,76,90]),(24,[0,4,9,12,74,75,76]),(25,[0,4,9,12,74,75,76,99]),(26,[0,4,9,12,74,75,76]),(27,[0,4,9,12,74,75,76]),(28,[0,4,9,74,75,76]),(29,[0,4,9,74,75,76]),(30,[4]),(31,[0,3,4,116]),(32,[0,4,13]),(33,[4,13]),(34,[4,13]),(35,[4]),(36,[4])]),
 (53,[(0,[0]),(1,[0,3]),(2,[0,3,5]),(3,[0,3]),(4,[0,3]),(5,[2])]),
 (54,[(0,[1]),(1,[1,22]),(2,[2]),(3,[1,32]),(4,[2]),(5,[1,34,35,36]),(6,[1,34,35,36,37]),(7,[1,3,4,34,35,36]),(8,[1,3,4,34,35,36,65]),(9,[2]),(10,[1,34,35,36,88]),(11,[2]),(12,[1,34,35,36]),(13,[2])]),
 (55,[(0,[1]),(1,[1,3]),(2,[1,3,11,12]),(3,[1,3,11,12,13]),(4,[1,3,4,11,12]),(5,[1,3,11,12]),(6,[1,3,11,12]),(7,[3,23,24,25]),(8,[3,23,24,25,26]),(9,[3,6,23,24,25]),(10,[3,23,24,25]),(11,[3,23,24,25]),(12,[2])]),
 (56,[(0,[0,1]),(1,[0,1,10]),(2,[4]),(3,[0,1,5]),(4,[0,5,16,17,18]),(5,[0,5,16,17,18,19]),(6,[0,5,7,16,17,18]),(7,[0,5,16,17,18]),(8,[0,5,16,17,18]),(9,[4])]),
 (57,[(0,[1,2]),(1,[1,2,10]),(2,[4]),(3,[1,2,13]),(4,[4]),(5,[17]),(6,[4]),(7,[4])]),
 (58,[(0,[1]),(1,[2])]),
 (59,[(0,[0,1,4]),(1,[])]),
 (60,[(0,[0,1]),(1,[0,1,10]),(2,[4]),(3,[0,1,5]),(4,[0,1,5,15]),(5,[0,1,5]),(6,[0,1,5,28]),(7,[0,1,5,6]),(8,[0,1,5,6,7]),(9,[0,1,5,6,7,35]),(10,[0,1,5,6,7]),(11,[0,1,5,6,7,49]),(12,[0,1,5,6,7]),(13,[0,1,5,6,7]),(14,[0,5]),(15,[4]),(16,[4])]),
 (61,[(0,[2,3]),(1,[4])]),
 (62,[(0,[0,1]),(1,[0,1,5]),(2,[0,1,5,12]),(3,[4]),(4,[0,1,5,6]),(5,[0,1,5,6,19]),(6,[0,1,5,6]),(7,[0,1,5,6,7]),(8,[0,1,5,6,7,29]),(9,[0,1,5,6]),(10,[0,1,5,6]),(11,[0,5]),(12,[4])]),
 (63,[(0,[1]),(1,[2])]),
 (64,[(0,[0,1]),(1,[0,1,5]),(2,[1,5,11,12,13]),(3,[1,5,11,12,13,14]),(4,[1,5,6,7,11,12,13]),(5,[1,5,11,12,13]),(6,[1,5,11,12,13]),(7,[4])]),
 (65,[(0,[0,1]),(1,[0,1,5]),(2,[0,1,5,6]),(3,[0,1,6,11]),(4,[12]),(5,[4]),(6,[4]),(7,[0,1,13]),(8,[4]),(9,[0,1,16]),(10,[4]),(11,[19]),(12,[4]),(13,[4])]),
 (66,[(0,[0,1,2]),(1,[0,1,2,11,12,13]),(2,[0,1,2,11,12,13,14]),(3,[0,1,2,7,8,11,12,13]),(4,[0,1,2,7,8,11,12,13,21]),(5,[6]),(6,[0,1,2,8,9,11,12,13]),(7,[0,1,2,10,11,12,13]),(8,[0,1,2,10,11,12,13,31]),(9,[6]),(10,[0,1,2,11,12,13]),(11,[38]),(12,[6]),(13,[6])]),
 (67,[(0,[0,1]),(1,[4])]),
 (68,[(0,[0,1,2,3,4,10]),(1,[0,1,2,3,4,10,11]),(2,[0,1,2,3,4,10,11,12]),(3,[0,1,2,3,4,10,11,12,25]),(4,[]),(5,[0,1,2,3,4,10,11,12,32]),(6,[]),(7,[0,1,2,3,4,10,11,12,39]),(8,[0,1,2,3,4,10,11,12]),(9,[0,1,2,3,4,10,11,12]),(10,[0,1,2,3,4,10,11,12,13,14]),(11,[0,1,2,3,4,10,11,12,13,14,56]),(12,[0,1,2,3,4,10,11,12,13]),(13,[0,1,2,3,4,10,11,12,13]),(14,[0,1,2,3,4,10,11,12,13,14]),(15,[0,1,2,3,4,10,11,12,13,75]),(16,[0,1,2,3,4,10,11,12,13,80]),(17,[0,1,2,3,4,10,11,12,13,97]),(18,[0,2,3,4,10,11,15]),(19,[0,1,2,3,4,10,11]),(20,[0,1,2,3,4,12,16,17]),(21,[0,1,2,3,4,11,12,16]),(22,[0,1,2,3,4,11,12,16,18,19]),(23,[0,1,2,3,4,11,16,18,19,20]),(24,[0,1,2,3,4,11,16,18,19,20,125]),(25,[0,1,2,3,4,10,11,16]),(26,[0,2,3,4,10,11,16]),(27,[0,1,2,3,4,10,11]),(28,[0,1,2,3,4,10,11,16]),(29,[0,1,3,4,10,11,16]),(30,[0,1,2,3,4,10,11])]),
 (69,[(0,[0]),(1,[2]),(2,[2])]),
 (70,[(0,[0]),(1,[0,3]),(2,[3,6,7,8]),(3,[3,6,7,8,9]),(4,[3,5,6,7,8]),(5,[3,5,6,7,8,14]),(6,[2]),(7,[3,6,7,8]),(8,[2])]),
 (79,[(0,[1]),(1,[1,3]),(2,[2])]),
 (82,[(0,[1,2,3]),(1,[1,2,3,7]),(2,[2,3,7,20,21,22]),(3,[2,3,7,20,21,22,23]),(4,[2,3,7,9,20,21,22]),(5,[2,3,7,9,10,20,21,22]),(6,[2,3,7,9,10,20,21,22]),(7,[2,3,7,9,11,20,21,22]),(8,[2,3,7,11,12,20,21,22]),(9,[2,3,7,20,21,22]),(10,[2,3,7,20,21,22]),(11,[6])]),
 (83,[(0,[2,3,4]),(1,[2,3,4,7,8]),(2,[3,4,7,8]),(3,[3,4,7,8,9]),(4,[3,4,7,8,9,28]),(5,[3,4,7,8,9]),(6,[3,4,7,8,9]),(7,[3,8,10]),(8,[3,8,10,11]),(9,[3,8,10,11,12]),(10,[3,8,10,11,12,48]),(11,[3,8,10,11,12]),(12,[3,8,10,11,12,13]),(13,[3,8,10,11,12,13]),(14,[3,8,10,11,12,13]),(15,[3,8,10,11,12]),(16,[6])]),
 (84,[(0,[2,3,4]),(1,[2,3,4,7]),(2,[2,3,4,7,20,21,22]),(3,[2,3,4,7,20,21,22,23]),(4,[2,3,4,7,9,20,21,22]),(5,[2,3,4,7,10,20,21,22]),(6,[2,3,4,7,20,21,22]),(7,[2,3,4,7,20,21,22]),(8,[6])]),
 (85,[(0,[2,3,4]),(1,[2,3,7]),(2,[2,3,7,8]),(3,[7]),(4,[6])]),
 (86,[(0,[1,6,7,8]),(1,[1,6,7,8,9]),(2,[1,4,5,6,7,8]),(3,[1,4,5,6,7,8,14]),(4,[1,4,5,6,7,8]),(5,[1,4,5,6,7,8]),(6,[1,6,7,8])]),
 (87,[(0,[0,1,2,3]),(1,[0,1,2,3,10]),(2,[]),(3,[0,2,20]),(4,[])]),
 (88,[(0,[0,1,4]),(1,[0,1,4,6]),(2,[0,1,4,6,7]),(3,[4]),(4,[0,1,4,6,11]),(5,[4]),(6,[0,1,4,15]),(7,[4]),(8,[0,1,4,21]),(9,[4]),(10,[0,4,5]),(11,[4,5,26]),(12,[4,5,26,27]),(13,[4,5,37]),(14,[4]),(15,[4]),(16,[4,5,45]),(17,[4,5,47]),(18,[4]),(19,[4,5,57]),(20,[4]),(21,[4]),(22,[4])]),
 (89,[(0,[0,2,9,10,11]),(1,[0,2,9,10,11,12]),(2,[0,2,7,9,10,11]),(3,[0,2,9,10,11]),(4,[0,2,9,10,11])]),
 (90,[(0,[0]),(1,[0,4]),(2,[2]),(3,[2])]),
 (91,[(0,[0]),(1,[2])]),
 (92,[(0,[0]),(1,[0,7]),(2,[2]),(3,[0,8,9,10]),(4,[0,8,9,10,11]),(5,[0,4,8,9,10]),(6,[0,8,9,10,19]),(7,[2]),(8,[0,8,9,10]),(9,[2])]),
 (93,[(0,[0]),(1,[2])]),
 (94,[(0,[1,2]),(1,[1,2,9]),(2,[4]),(3,[1,2,27]),(4,[4]),(5,[1,2,29]),(6,[4]),(7,[1,2,29,30]),(8,[1,2,29,30]),(9,[4]),(10,[1,2,29,37]),(11,[1,2,29,37]),(12,[1,2,29,37]),(13,[1,2,44]),(14,[4]),(15,[1,2,29,45]),(16,[1,2,45]),(17,[1,2,51]),(18,[4]),(19,[1,53,54,55]),(20,[1,53,54,55,56]),(21,[1,6,53,54,55]),(22,[1,53,54,55,62]),(23,[4]),(24,[1,53,54,55]),(25,[4])]),
 (95,[(0,[0,1,2,3,4,10]),(1,[0,1,2,3,4,10,11]),(2,[0,1,2,3,4,10,11,12]),(3,[0,1,2,3,4,10,11,12,25]),(4,[]),(5,[0,1,2,3,4,10,11,12,32]),(6,[]),(7,[0,1,2,3,4,10,11,12,39]),(8,[0,1,2,3,4,10,11,12]),(9,[0,1,2,3,4,10,11,12]),(10,[0,1,2,3,4,10,11,12,13,14]),(11,[0,1,2,3,4,10,11,12,13,14,56]),(12,[0,1,2,3,4,10,11,12,13]),(13,[0,1,2,3,4,10,11,12,13]),(14,[0,1,2,3,4,10,11,12,13,14]),(15,[0,1,2,3,4,10,11,12,13,75]),(16,[0,1,2,3,4,10,11,12,13,80]),(17,[0,1,2,3,4,10,11,12,13,97]),(18,[0,2,3,4,10,11,15]),(19,[0,1,2,3,4,10,11]),(20,[0,1,2,3,4,12,16,17]),(21,[0,1,2,3,4,11,12,16]),(22,[0,1,2,3,4,11,12,16,18,19]),(23,[0,1,2,3,4,11,16,18,19,20]),(24,[0,1,2,3,4,11,16,18,19,20,125]),(25,[0,1,2,3,4,10,11,16]),(26,[0,2,3,4,10,11,16]),(27,[0,1,2,3,4,10,11]),(28,[0,1,2,3,4,10,11,16]),(29,[0,1,3,4,10,11,16]),(30,[0,1,2,3,4,10,11])]),
 (96,[(0,[0]),(1,[2])]),
 (97,[(0,[0,1,2,3,8]),(1,[0,1,2,3,8,14]),(2,[0,1,2,3,8]),(3,[0,1,2,3,8,9]),(4,[0,1,2,3,8,9,34]),(5,[0,1,2,3,8,9]),(6,[0,1,2,3,8,9])]),
 (98,[(0,[0,1,2,3,8]),(1,[0,1,2,3,8,9]),(2,[0,3,8,9,10]),(3,[0,3,8,9,10,11]),(4,[0,3,8,9,10,11,21]),(5,[0,3,8,9,10,11]),(6,[0,3,8,9,10,11]),(7,[0,3,8,9,12]),(8,[0,3,8,9,12,33]),(9,[0,3,8,9,12]),(10,[0,3,8,9,12]),(11,[0,3,8,9,12])]),
 (99,[(0,[0,1,8]),(1,[0,1,8,17]),(2,[0,1,8,9]),(3,[0,1,8,9,10]),(4,[0,1,8,9,10,11]),(5,[0,1,8,9,10,11,35]),(6,[0,1,8,9,10,11]),(7,[0,1,8,9,10,11,12]),(8,[0,1,8,9,10,11,12,45]),(9,[0,1,8,9,10,11,12]),(10,[0,1,8,9,10,11])]),
 (100,[(0,[0,1,2,3]),(1,[0,1,3,10]),(2,[0,1,3,10,11]),(3,[0,1,3,10,11,12]),(4,[0,1,3,10,11,12,13]),(5,[0,3,10,11,12,13,14]),(6,[0,3,10,11,12,13,14,34]),(7,[0,3,11,12,13,14,36]),(8,[0,3,11,12,13,14]),(9,[0,3,11,12,13,14]),(10,[0,3,11,12,13,14]),(11,[11,13]),(12,[13,55]),(13,[8,9]),(14,[13,55,57]),(15,[8,9]),(16,[13,60]),(17,[8,9])]),
 (101,[(0,[0,2,8]),(1,[0,8,9]),(2,[0,8,9,15]),(3,[0,8,9]),(4,[0,8,9]),(5,[0,8,9])]),
 (102,[(0,[0,1,2,3]),(1,[0,1,2,3,9]),(2,[0,1,2,3,9,10]),(3,[0,1,2,3,9,10,16]),(4,[0,1,2,3,9,10]),(5,[0,1,2,3,9,10,36]),(6,[0,1,2,3,9,10]),(7,[0,1,2,3,9,10,41]),(8,[8]),(9,[0,1,2,3,9,10,45]),(10,[8]),(11,[0,1,2,3,9,10]),(12,[0,1,2,3,9,10,65]),(13,[0,1,2,3,9,10,11]),(14,[0,1,2,3,9,10,11,69]),(15,[0,1,2,3,9,10,11]),(16,[0,1,2,3,9,10,11,84]),(17,[0,1,2,3,9,10,11]),(18,[0,1,2,3,9,10,104]),(19,[0,1,2,3,9,10,12]),(20,[0,1,2,3,9,10,12,109]),(21,[0,1,2,3,9,10,12]),(22,[0,1,2,3,9,10,12,124]),(23,[0,1,2,3,9,10,12]),(24,[8])]),
 (103,[(0,[0,1,2,3,4]),(1,[0,1,2,4]),(2,[0,1,4,11,12]),(3,[0,1,4,11,12,47]),(4,[0,1,4,11,12]),(5,[0,1,4,11,12,65]),(6,[0,1,4,11,12]),(7,[0,1,4,11,12,70]),(8,[0,1,4,11,12]),(9,[0,1,4,11,12]),(10,[0,1,4,11,12]),(11,[10])]),
 (104,[(0,[0,1,2,3,4]),(1,[0,1,2,4]),(2,[0,1,4,12,13]),(3,[0,1,4,12,13,47]),(4,[0,1,4,12,13]),(5,[0,1,4,12,13,66]),(6,[0,1,4,12,13]),(7,[0,1,4,12,13,71]),(8,[13]),(9,[10,11]),(10,[0,1,4,12,13]),(11,[0,1,4,12,13]),(12,[0,1,4,12,13]),(13,[0,1,4,12,13,120]),(14,[0,1,4,12,13]),(15,[0,1,4,12,13,139]),(16,[0,1,4,12,13]),(17,[0,1,4,12,13,144]),(18,[0,1,4,12,13]),(19,[0,1,4,12,13]),(20,[0,1,4,12,13]),(21,[13]),(22,[10,11])]),
 (106,[(0,[0,2]),(1,[0,2,4]),(2,[0]),(3,[0,2]),(4,[0,2,8]),(5,[0,2]),(6,[0,2]),(7,[0,2,14]),(8,[0,2]),(9,[0,2]),(10,[2])]),
 (111,[(0,[1,2,3]),(1,[1,2,3,16]),(2,[6]),(3,[1,2,3]),(4,[1,2,23,24,25]),(5,[1,2,23,24,25,26]),(6,[1,2,8,23,24,25]),(7,[1,2,23,24,25,34]),(8,[6]),(9,[1,2,23,24,25]),(10,[6])]),
 (114,[(0,[])]),
 (115,[(0,[0,1,6]),(1,[0,1,6,12]),(2,[0,1,6]),(3,[0,1,6])]),
 (116,[(0,[1]),(1,[2])]),
 (117,[(0,[0,2,3,4,6]),(1,[0,2,6]),(2,[])]),
 (118,[(0,[0,2,3,12]),(1,[])]),
 (119,[(0,[])]),
 (120,[(0,[0,1,2,7]),(1,[])]),
 (121,[(0,[0,1,2,3,10,11]),(1,[0,1,2,3,10,11,12]),(2,[0,1,2,3,5,10,11]),(3,[0,1,2,3,5,10,11,16]),(4,[0,1,2,3,10,11]),(5,[0,1,2,3,10,11]),(6,[0,1,2,3,10,11])]),
 (122,[(0,[0,1,2,3,5]),(1,[0,1,2,3,5,6]),(2,[0,1,2,3,5,6,13]),(3,[0,1,2,3,5,6]),(4,[0,1,2,3,5,6]),(5,[0,1,2,3,5]),(6,[0,3,5]),(7,[])]),
 (123,[(0,[0,2]),(1,[0,2,5]),(2,[2]),(3,[2,3]),(4,[2])]),
 (124,[(0,[0,2]),(1,[0,2,5]),(2,[2]),(3,[2,3]),(4,[2])]),
 (125,[(0,[0,2]),(1,[0,2,5]),(2,[2]),(3,[2,3]),(4,[2])]),
 (126,[(0,[0]),(1,[0])]),
 (127,[(0,[0,1,2,3,8]),(1,[0,1,2,3,8,14]),(2,[0,1,2,3,8]),(3,[0,1,2,3,8,9]),(4,[0,1,2,3,8,9,34]),(5,[0,1,2,3,8,9]),(6,[0,1,2,3,8,9])]),
 (128,[(0,[0,1,2,3,8]),(1,[0,1,2,3,8,9]),(2,[0,3,8,9,10]),(3,[0,3,8,9,10,11]),(4,[0,3,8,9,10,11,21]),(5,[0,3,8,9,10,11]),(6,[0,3,8,9,10,11]),(7,[0,3,8,9,12]),(8,[0,3,8,9,12,33]),(9,[0,3,8,9,12]),(10,[0,3,8,9,12]),(11,[0,3,8,9,12])]),
 (129,[(0,[0,1,8]),(1,[0,1,8,17]),(2,[0,1,8,9]),(3,[0,1,8,9,10]),(4,[0,1,8,9,10,11]),(5,[0,1,8,9,10,11,35]),(6,[0,1,8,9,10,11]),(7,[0,1,8,9,10,11,12]),(8,[0,1,8,9,10,11,12,45]),(9,[0,1,8,9,10,11,12]),(10,[0,1,8,9,10,11])]),
 (130,[(0,[0,1,2,3]),(1,[0,1,3,10]),(2,[0,1,3,10,11]),(3,[0,1,3,10,11,12]),(4,[0,1,3,10,11,12,13]),(5,[0,3,10,11,12,13,14]),(6,[0,3,10,11,12,13,14,34]),(7,[0,3,11,12,13,14,36]),(8,[0,3,11,12,13,14]),(9,[0,3,11,12,13,14]),(10,[0,3,11,12,13,14]),(11,[11,13]),(12,[13,55]),(13,[8,9]),(14,[13,55,57]),(15,[8,9]),(16,[13,60]),(17,[8,9])]),
 (131,[(0,[0,2,8]),(1,[0,8,9]),(2,[0,8,9,15]),(3,[0,8,9]),(4,[0,8,9]),(5,[0,8,9])]),
 (132,[(0,[0,1,2,3]),(1,[0,1,2,3,9]),(2,[0,1,2,3,9,10]),(3,[0,1,2,3,9,10,16]),(4,[0,1,2,3,9,10]),(5,[0,1,2,3,9,10,36]),(6,[0,1,2,3,9,10]),(7,[0,1,2,3,9,10,41]),(8,[8]),(9,[0,1,2,3,9,10,45]),(10,[8]),(11,[0,1,2,3,9,10]),(12,[0,1,2,3,9,10,65]),(13,[0,1,2,3,9,10,11]),(14,[0,1,2,3,9,10,11,69]),(15,[0,1,2,3,9,10,11]),(16,[0,1,2,3,9,10,11,84]),(17,[0,1,2,3,9,10,11]),(18,[0,1,2,3,9,10,104]),(19,[0,1,2,3,9,10,12]),(20,[0,1,2,3,9,10,12,109]),(21,[0,1,2,3,9,10,12]),(22,[0,1,2,3,9,10,12,124]),(23,[0,1,2,3,9,10,12]),(24,[8])]),
 (133,[(0,[0,1,2,3,4]),(1,[0,1,2,4]),(2,[0,1,4,11,12]),(3,[0,1,4,11,12,47]),(4,[0,1,4,11,12]),(5,[0,1,4,11,12,65]),(6,[0,1,4,11,12]),(7,[0,1,4,11,12,70]),(8,[0,1,4,11,12]),(9,[0,1,4,11,12]),(10,[0,1,4,11,12]),(11,[10])]),
 (134,[(0,[0,1,2,3,4]),(1,[0,1,2,4]),(2,[0,1,4,12,13]),(3,[0,1,4,12,13,47]),(4,[0,1,4,12,13]),(5,[0,1,4,12,13,66]),(6,[0,1,4,12,13]),(7,[0,1,4,12,13,71]),(8,[13]),(9,[10,11]),(10,[0,1,4,12,13]),(11,[0,1,4,12,13]),(12,[0,1,4,12,13]),(13,[0,1,4,12,13,120]),(14,[0,1,4,12,13]),(15,[0,1,4,12,13,139]),(16,[0,1,4,12,13]),(17,[0,1,4,12,13,144]),(18,[0,1,4,12,13]),(19,[0,1,4,12,13]),(20,[0,1,4,12,13]),(21,[13]),(22,[10,11])]),
 (135,[(0,[0,2,3,4,10]),(1,[0,2,3,4,10,11]),(2,[0,2,3,4,10,11,18]),(3,[0,2,3,4,10,11,40]),(4,[0,2,3,4,10,11]),(5,[0,2,3,4,10,11,58]),(6,[0,2,3,4,11]),(7,[0,2,3,4,10])]),
 (136,[(0,[0]),(1,[2])]),
 (137,[(0,[0]),(1,[0]),(2,[0]),(3,[0]),(4,[2])]),
 (138,[(0,[0,1,2,3]),(1,[8])]),
 (139,[(0,[0,1,2,3,4,5]),(1,[0,1,2,3,4,5]),(2,[0,1,2,4,5]),(3,[2]),(4,[12])]),
 (145,[(0,[1]),(1,[2])]),
 (146,[(0,[0]),(1,[0])]),
 (147,[(0,[0,1]),(1,[0,1,5]),(2,[0,5,8,9,10]),(3,[0,5,8,9,10,11]),(4,[0,5,7,8,9,10]),(5,[0,5,7,8,9,10,17]),(6,[0,5,8,9,10]),(7,[0,5,8,9,10]),(8,[0,5,8,9,10]),(9,[4])]),
 (148,[(0,[0,1,5,6]),(1,[0,1,5,6,8]),(2,[0,1,5,6,8,9]),(3,[6]),(4,[0,1,6,12]),(5,[6]),(6,[6])]),
 (149,[(0,[0]),(1,[0]),(2,[2])]),
 (150,[(0,[0]),(1,[0])]),
 (151,[(0,[1]),(1,[2])]),
 (152,[(0,[0,2,3,4,10]),(1,[0,2,3,4,10,11]),(2,[0,2,3,4,10,11,18]),(3,[0,2,3,4,10,11,40]),(4,[0,2,3,4,10,11]),(5,[0,2,3,4,10,11,58]),(6,[0,2,3,4,11]),(7,[0,2,3,4,10])]),
 (153,[(0,[0,1,2,3]),(1,[8])]),
 (154,[(0,[0,1,2,3,4,5]),(1,[0,1,2,3,4,5]),(2,[0,1,2,4,5]),(3,[2]),(4,[12])]),
 (155,[(0,[0,1,2,3,4]),(1,[1,2,3,22]),(2,[1,2]),(3,[10,11]),(4,[10,11])]),
 (159,[(0,[2,3]),(1,[4])]),
 (160,[(0,[0,1,2,3,4]),(1,[1,2,3,22]),(2,[1,2]),(3,[10,11]),(4,[10,11])])]
def ahu:List (Nat × List (Nat × List Nat)):=[(5,[(25,[1,2,3]),(44,[1,2,3,7,9])]),
 (6,[(5,[]),(9,[]),(13,[])]),
 (7,[]),
 (8,[]),
 (9,[(18,[1,2,4]),(29,[1,4,7,8,9]),(34,[1,4,7,8,9,32,33]),(45,[1,4,7,8,9,10,32,33,42,43,44]),(52,[1,4,7,8,9,10,13,32,33,42,43,44]),(55,[1,4,7,8,9,10,12,32,33,42,43,44]),(78,[1,4,7,8,9])]),
 (14,[(14,[1,2])]),
 (15,[(5,[1,2])]),
 (16,[(19,[1,2,4]),(28,[1,2,4,7]),(48,[4,7,8,10]),(57,[4,7,10,54,55,56]),(65,[4,7,10,11,54,55,56,62,63,64])]),
 (17,[(13,[0,1]),(17,[0,1,5]),(32,[0,1,5])]),
 (18,[(17,[1,2]),(25,[1,2,5,6,23,24])]),
 (19,[]),
 (20,[]),
 (21,[(26,[1,2,5,6,20,26]),(32,[1,2,5,6,32]),(39,[1,2,5,6]),(63,[1,2,5,7])]),
 (22,[(20,[1,2,6,7,8])]),
 (23,[]),
 (24,[(10,[2]),(13,[])]),
 (25,[]),
 (26,[(13,[]),(18,[]),(21,[]),(27,[1,5,24,25,26]),(37,[]),(48,[]),(54,[1,2,8,51,52,53]),(71,[1,2,8,51,52,53])]),
 (27,[(9,[0,1,7,8]),(16,[0,1,7,8])]),
 (28,[]),
 (29,[(9,[2,3]),(19,[2,3])]),
 (30,[(7,[1,6,7]),(10,[]),(15,[1,6,15]),(22,[19,20,21]),(27,[19,20,21]),(29,[])]),
 (31,[]),
 (32,[]),
 (44,[]),
 (45,[(16,[0,1]),(20,[0,1,18,19]),(34,[0,1,18,19])]),
 (46,[]),
 (47,[]),
 (48,[(10,[2,3,4]),(17,[2,3,4]),(26,[2,3,4,9,26]),(33,[2,3,4])]),
 (49,[]),
 (50,[(9,[1,2]),(23,[1,2,3,20,21,22])]),
 (51,[(8,[1]),(16,[3,13,14,15])]),
 (52,[(16,[4]),(19,[4]),(39,[4]),(45,[0,4,5,42,43,44]),(70,[4]),(77,[0,4,9,74,75,76]),(90,[0,4,9,12,74,75,76]),(99,[0,4,9,12,74,75,76]),(116,[4])]),
 (53,[(5,[0,3])]),
 (54,[(22,[1]),(32,[1]),(37,[1,34,35,36]),(65,[1,3,4,34,35,36]),(88,[1,34,35,36])]),
 (55,[(13,[1,3,11,12]),(26,[3,23,24,25])]),
 (56,[(10,[0,1]),(19,[0,5,16,17,18])]),
 (57,[(10,[1,2]),(13,[1,2]),(17,[])]),
 (58,[]),
 (59,[]),
 (60,[(10,[0,1]),(15,[0,1,5]),(28,[0,1,5]),(35,[0,1,5,6,7]),(49,[0,1,5,6,7])]),
 (61,[]),
 (62,[(12,[0,1,5]),(19,[0,1,5,6]),(29,[0,1,5,6])]),
 (63,[]),
 (64,[(14,[1,5,11,12,13])]),
 (65,[(11,[0,1,6]),(12,[]),(13,[0,1]),(16,[0,1]),(19,[])]),
 (66,[(14,[0,1,2,11,12,13]),(21,[0,1,2,7,8,11,12,13]),(31,[0,1,2,11,12,13]),(38,[])]),
 (67,[]),
 (68,[(25,[0,1,2,3,4,10,11,12]),(32,[0,1,2,3,4,10,11,12]),(39,[0,1,2,3,4,10,11,12]),(56,[0,1,2,3,4,10,11,12,13,14]),(75,[0,1,2,3,4,10,11,12,13]),(80,[0,1,2,3,4,10,11,12,13]),(97,[0,1,2,3,4,12,13]),(125,[0,1,2,3,4,10,11])]),
 (69,[]),
 (70,[(9,[3,6,7,8]),(14,[3,6,7,8])]),
 (79,[]),
 (82,[(23,[2,3,7,20,21,22])]),
 (83,[(28,[3,4,7,8,9]),(48,[3,8,10,11,12])]),
 (84,[(23,[2,3,4,7,20,21,22])]),
 (85,[]),
 (86,[(9,[1,6,7,8]),(14,[1,4,5,6,7,8])]),
 (87,[(10,[]),(20,[])]),
 (88,[(7,[0,1,4]),(11,[0,1,4]),(15,[0,1,4]),(21,[0,1,4]),(27,[4]),(37,[4,5]),(45,[4]),(47,[4,5]),(57,[4,5])]),
 (89,[(12,[0,2,9,10,11])]),
 (90,[(4,[0])]),
 (91,[]),
 (92,[(7,[0]),(11,[0,8,9,10]),(19,[0,8,9,10])]),
 (93,[]),
 (94,[(9,[1,2]),(27,[1,2]),(30,[1,2,29,30]),(37,[1,2,29,37]),(44,[1,2]),(45,[1,2,45]),(51,[1,2]),(56,[1,53,54,55]),(62,[1,53,54,55])]),
 (95,[(25,[0,1,2,3,4,10,11,12]),(32,[0,1,2,3,4,10,11,12]),(39,[0,1,2,3,4,10,11,12]),(56,[0,1,2,3,4,10,11,12,13,14]),(75,[0,1,2,3,4,10,11,12,13]),(80,[0,1,2,3,4,10,11,12,13]),(97,[0,1,2,3,4,12,13]),(125,[0,1,2,3,4,10,11])]),
 (96,[]),
 (97,[(14,[0,1,2,3,8]),(34,[0,1,2,3,8,9])]),
 (98,[(21,[0,3,8,9,10,11]),(33,[0,3,8,9,12])]),
 (99,[(17,[]),(35,[0,1,8,9,10,11]),(45,[0,1,8,9,10,11,12])]),
 (100,[(34,[11,13]),(36,[0,3,11,12,13,14]),(57,[8,9]),(60,[8,9])]),
 (101,[(15,[0,8,9])]),
 (102,[(16,[0,1,2,3,9,10]),(36,[0,1,2,3,9,10]),(41,[0,1,2,3,9,10]),(45,[0,1,2,3,9,10]),(65,[0,1,2,3,9,10]),(69,[0,1,2,3,9,10,11]),(84,[0,1,2,3,9,10,11]),(104,[0,1,2,3,9,10]),(109,[0,1,2,3,9,10,12]),(124,[0,1,2,3,9,10,12])]),
 (103,[(47,[0,1,4,11,12]),(65,[0,1,4,11,12]),(70,[0,1,4,11,12])]),
 (104,[(47,[0,1,4,12,13]),(66,[0,1,4,12,13]),(71,[0,1,4,12,13]),(120,[0,1,4,12,13]),(139,[0,1,4,12,13]),(144,[0,1,4,12,13])]),
 (106,[(4,[0,2]),(8,[0,2]),(14,[0,2])]),
 (111,[(16,[1,2,3]),(26,[1,2,23,24,25]),(34,[1,2,23,24,25])]),
 (114,[]),
 (115,[(12,[0,1,6])]),
 (116,[]),
 (117,[]),
 (118,[(12,[])]),
 (119,[]),
 (120,[(7,[])]),
 (121,[(12,[0,1,2,3,10,11]),(16,[0,1,2,3,10,11])]),
 (122,[(13,[0,1,2,3,5,6])]),
 (123,[(5,[0,2])]),
 (124,[(5,[0,2])]),
 (125,[(5,[0,2])]),
 (126,[]),
 (127,[(14,[0,1,2,3,8]),(34,[0,1,2,3,8,9])]),
 (128,[(21,[0,3,8,9,10,11]),(33,[0,3,8,9,12])]),
 (129,[(17,[]),(35,[0,1,8,9,10,11]),(45,[0,1,8,9,10,11,12])]),
 (130,[(34,[11,13]),(36,[0,3,11,12,13,14]),(57,[8,9]),(60,[8,9])]),
 (131,[(15,[0,8,9])]),
 (132,[(16,[0,1,2,3,9,10]),(36,[0,1,2,3,9,10]),(41,[0,1,2,3,9,10]),(45,[0,1,2,3,9,10]),(65,[0,1,2,3,9,10]),(69,[0,1,2,3,9,10,11]),(84,[0,1,2,3,9,10,11]),(104,[0,1,2,3,9,10]),(109,[0,1,2,3,9,10,12]),(124,[0,1,2,3,9,10,12])]),
 (133,[(47,[0,1,4,11,12]),(65,[0,1,4,11,12]),(70,[0,1,4,11,12])]),
 (134,[(47,[0,1,4,12,13]),(66,[0,1,4,12,13]),(71,[0,1,4,12,13]),(120,[0,1,4,12,13]),(139,[0,1,4,12,13]),(144,[0,1,4,12,13])]),
 (135,[(18,[0,2,3,4,10,11]),(40,[0,2,3,4,10,11]),(58,[0,2,3,4,10,11])]),
 (136,[]),
 (137,[]),
 (138,[]),
 (139,[]),
 (145,[]),
 (146,[]),
 (147,[(11,[0,5,8,9,10]),(17,[0,5,8,9,10])]),
 (148,[(9,[0,1,6]),(12,[0,1,6])]),
 (149,[]),
 (150,[]),
 (151,[]),
 (152,[(18,[0,2,3,4,10,11]),(40,[0,2,3,4,10,11]),(58,[0,2,3,4,10,11])]),
 (153,[]),
 (154,[]),
 (155,[(22,[1,2])]),
 (159,[]),
 (160,[(22,[1,2])])]
def ahv:List (Nat × List (Nat × List Nat)):=[(5,[]),
 (6,[(0,[])]),
 (7,[]),
 (8,[]),
 (9,[(0,[4,7,8]),(1,[1,4,7,8,9]),(2,[1,4,7,8,9]),(3,[1,4,7,8,9,32,33]),(4,[1,4,7,8,9,32,33]),(5,[1,4,7,8,9,10,32,33,42,43,44])]),
 (14,[]),
 (15,[]),
 (16,[(0,[4,10]),(1,[4,7,10,54,55,56]),(2,[4,7,10,54,55,56]),(3,[4,7,10,11,54,55,56,62,63,64])]),
 (17,[(0,[]),(1,[0,1,5])]),
 (18,[(0,[2,6]),(1,[1,2,5,6,23,24])]),
 (19,[]),
 (20,[]),
 (21,[(0,[1,2,5,6]),(1,[6]),(2,[1,2,5,6,7])]),
 (22,[(0,[6,7]),(1,[1,2,6,7,8])]),
 (23,[]),
 (24,[]),
 (25,[]),
 (26,[(0,[]),(1,[5]),(2,[1,5,24,25,26]),(3,[8]),(4,[1,2,8,51,52,53])]),
 (27,[(0,[]),(1,[0,1,7,8])]),
 (28,[]),
 (29,[]),
 (30,[(0,[]),(1,[]),(2,[19,20,21])]),
 (31,[]),
 (32,[]),
 (44,[]),
 (45,[(0,[]),(1,[0,1,18,19])]),
 (46,[]),
 (47,[]),
 (48,[(0,[2,3,4])]),
 (49,[]),
 (50,[(0,[1,2,3]),(1,[1,2,3,20,21,22])]),
 (51,[(0,[3]),(1,[3,13,14,15])]),
 (52,[(0,[4]),(1,[4,5]),(2,[0,4,5,42,43,44]),(3,[4,9]),(4,[0,4,9,74,75,76])]),
 (53,[(0,[3]),(1,[0,3])]),
 (54,[(0,[]),(1,[1,34,35,36])]),
 (55,[(0,[1,3]),(1,[1,3,11,12]),(2,[3]),(3,[3,23,24,25])]),
 (56,[(0,[5]),(1,[0,5,16,17,18])]),
 (57,[]),
 (58,[]),
 (59,[]),
 (60,[(0,[0]),(1,[0,1,5]),(2,[0,5]),(3,[0,1,5,6,7])]),
 (61,[]),
 (62,[(0,[0,5]),(1,[0,1,5,6])]),
 (63,[]),
 (64,[(0,[5]),(1,[1,5,11,12,13])]),
 (65,[]),
 (66,[(0,[0,1]),(1,[0,1,2,11,12,13])]),
 (67,[]),
 (68,[(0,[]),(1,[0,1,2,3,4,10,11])]),
 (69,[]),
 (70,[(0,[3]),(1,[3,6,7,8])]),
 (79,[]),
 (82,[(0,[7]),(1,[2,3,7,20,21,22])]),
 (83,[(0,[3,4,7,8]),(1,[3,4,7,8,9]),(2,[11]),(3,[3,8,10,11,12])]),
 (84,[(0,[7]),(1,[2,3,4,7,20,21,22])]),
 (85,[]),
 (86,[(0,[]),(1,[1,6,7,8]),(2,[1,6,7,8]),(3,[1,4,5,6,7,8])]),
 (87,[(0,[])]),
 (88,[(0,[0,1,4]),(1,[4]),(2,[4,5])]),
 (89,[(0,[]),(1,[0,2,9,10,11])]),
 (90,[]),
 (91,[]),
 (92,[(0,[]),(1,[0,8,9,10])]),
 (93,[]),
 (94,[(0,[1,2]),(1,[]),(2,[1,53,54,55])]),
 (95,[(0,[]),(1,[0,1,2,3,4,10,11])]),
 (96,[]),
 (97,[(0,[]),(1,[0,1,2,3,8]),(2,[0,1,2,3,8]),(3,[0,1,2,3,8,9])]),
 (98,[(0,[0,3,8,9,10]),(1,[0,3,8,9,10,11]),(2,[]),(3,[0,3,8,9,12])]),
 (99,[(0,[]),(1,[0,1,8,9,10,11])]),
 (100,[(0,[8,9])]),
 (101,[(0,[]),(1,[0,8,9])]),
 (102,[(0,[]),(1,[0,1,2,3,9,10]),(2,[0,1,2,3,9,10]),(3,[0,1,2,3,9,10]),(4,[0,1,2,3,9,10]),(5,[0,1,2,3,9,10,11]),(6,[0,1,2,3,9,10]),(7,[0,1,2,3,9,10,12])]),
 (103,[(0,[11]),(1,[0,1,4,11,12]),(2,[0,1,4,11,12]),(3,[0,1,4,11,12]),(4,[0,1,4,11,12]),(5,[0,1,4,11,12])]),
 (104,[(0,[0,1,4,12,13]),(1,[0,1,4,12,13]),(2,[0,1,4,12,13]),(3,[0,1,4,12,13]),(4,[0,1,13]),(5,[0,1,4,12,13]),(6,[0,1,4,12,13]),(7,[0,1,4,12,13]),(8,[0,1,4,12,13]),(9,[0,1,4,12,13])]),
 (106,[]),
 (111,[(0,[]),(1,[1,2,23,24,25])]),
 (114,[]),
 (115,[(0,[]),(1,[0,1,6])]),
 (116,[]),
 (117,[]),
 (118,[]),
 (119,[]),
 (120,[]),
 (121,[(0,[]),(1,[0,1,2,3,10,11])]),
 (122,[(0,[0,1,2,3,5]),(1,[0,1,2,3,5,6])]),
 (123,[]),
 (124,[]),
 (125,[]),
 (126,[]),
 (127,[(0,[]),(1,[0,1,2,3,8]),(2,[0,1,2,3,8]),(3,[0,1,2,3,8,9])]),
 (128,[(0,[0,3,8,9,10]),(1,[0,3,8,9,10,11]),(2,[]),(3,[0,3,8,9,12])]),
 (129,[(0,[]),(1,[0,1,8,9,10,11])]),
 (130,[(0,[8,9])]),
 (131,[(0,[]),(1,[0,8,9])]),
 (132,[(0,[]),(1,[0,1,2,3,9,10]),(2,[0,1,2,3,9,10]),(3,[0,1,2,3,9,10]),(4,[0,1,2,3,9,10]),(5,[0,1,2,3,9,10,11]),(6,[0,1,2,3,9,10]),(7,[0,1,2,3,9,10,12])]),
 (133,[(0,[11]),(1,[0,1,4,11,12]),(2,[0,1,4,11,12]),(3,[0,1,4,11,12]),(4,[0,1,4,11,12]),(5,[0,1,4,11,12])]),
 (134,[(0,[0,1,4,12,13]),(1,[0,1,4,12,13]),(2,[0,1,4,12,13]),(3,[0,1,4,12,13]),(4,[0,1,13]),(5,[0,1,4,12,13]),(6,[0,1,4,12,13]),(7,[0,1,4,12,13]),(8,[0,1,4,12,13]),(9,[0,1,4,12,13])]),
 (135,[(0,[]),(1,[0,2,3,4,10])]),
 (136,[]),
 (137,[]),
 (138,[]),
 (139,[]),
 (145,[]),
 (146,[]),
 (147,[(0,[5]),(1,[0,5,8,9,10])]),
 (148,[(0,[0,1,6])]),
 (149,[]),
 (150,[]),
 (151,[]),
 (152,[(0,[]),(1,[0,2,3,4,10])]),
 (153,[]),
 (154,[]),
 (155,[]),
 (159,[]),
 (160,[])]
def ahw:List (Nat × List (Nat × List Nat)):=[]
def ahx:List (Nat × List Nat):=[(15,[0]),
 (50,[0]),
 (55,[0]),
 (88,[0]),
 (123,[0]),
 (124,[0]),
 (125,[0])]
def ahy:List (Nat × List (Nat × List (Nat × Nat))):=[(5,[(1,[(2,6),(6,7)]),(2,[(0,8)]),(3,[(2,16)]),(4,[(2,9)]),(6,[(8,8)]),(7,[(2,17),(6,14)]),(8,[(2,18),(8,18),(13,8)])]),
 (6,[(1,[(1,19)]),(3,[(1,20)]),(5,[(2,21)])]),
 (7,[(1,[(1,22)])]),
 (8,[(1,[(0,23),(1,16)]),(2,[(15,18),(19,18)])]),
 (9,[(1,[(2,24)]),(4,[(1,15)]),(12,[(5,26),(6,25)]),(15,[(2,208)]),(24,[(4,30)]),(27,[(2,31)])]),
 (14,[(1,[(1,44),(5,45)]),(4,[(1,46)]),(5,[(1,47)]),(6,[(3,48),(8,49)])]),
 (15,[(1,[(1,44)]),(3,[(1,50)])]),
 (16,[(1,[(2,24)]),(4,[(2,51)]),(8,[(1,52)]),(16,[(1,53)]),(22,[(2,31)])]),
 (17,[(1,[(1,19)])]),
 (18,[(1,[(1,54),(7,45)]),(3,[(1,55)]),(7,[(8,56)])]),
 (20,[(1,[(1,22)])]),
 (21,[(18,[(6,21)])]),
 (22,[(5,[(6,22)])]),
 (24,[(1,[(2,57)]),(4,[(1,58)])]),
 (25,[(1,[(1,59)]),(2,[(1,60)]),(3,[(1,206)])]),
 (26,[(10,[(3,26)]),(14,[(5,26),(8,64)]),(20,[(3,26),(9,64)]),(21,[(1,30)])]),
 (27,[(4,[(5,58)])]),
 (28,[(1,[(2,29)])]),
 (29,[(2,[(4,65)]),(4,[(4,65)]),(5,[(4,66)])]),
 (30,[(6,[(2,192)]),(12,[(1,30)]),(17,[(9,30)])]),
 (31,[(1,[(4,69),(6,68)])]),
 (32,[(1,[(4,65),(9,65),(14,65),(16,70)])]),
 (44,[(1,[(1,57)])]),
 (48,[(3,[(4,82)]),(5,[(6,83)]),(8,[(3,84)]),(10,[(6,85)]),(12,[(2,86)])]),
 (50,[(7,[(3,50)]),(9,[(3,88)])]),
 (51,[(7,[(2,51)])]),
 (52,[(12,[(2,52)]),(21,[(2,52)]),(22,[(5,89)]),(32,[(5,52)]),(33,[(5,89)])]),
 (53,[(4,[(2,90)])]),
 (54,[(3,[(7,91)]),(10,[(19,32)])]),
 (56,[(1,[(1,92)]),(4,[(3,93),(5,53)])]),
 (57,[(3,[(1,79)]),(5,[(2,94)])]),
 (58,[(1,[(11,67)])]),
 (59,[(1,[(4,69),(6,95)])]),
 (60,[(6,[(10,61)]),(11,[(10,61)])]),
 (61,[(1,[(2,29)])]),
 (62,[(1,[(2,190)]),(8,[(2,116)])]),
 (64,[(5,[(6,88)])]),
 (65,[(1,[(1,96)]),(2,[(1,96)])]),
 (66,[(7,[(3,29)])]),
 (67,[(1,[(2,27)])]),
 (68,[(4,[(4,97)]),(6,[(4,98)]),(8,[(4,99)]),(10,[(4,100)]),(12,[(4,101)]),(16,[(4,102)]),(17,[(13,32)]),(18,[(5,103)]),(20,[(5,104)]),(26,[(5,68)]),(29,[(6,68)])]),
 (69,[(2,[(1,106)])]),
 (79,[(2,[(1,111)])]),
 (82,[(1,[(5,48)]),(5,[(1,46)]),(6,[(2,202)]),(7,[(3,48)]),(8,[(5,116)]),(9,[(2,204)])]),
 (83,[(1,[(1,46)]),(2,[(2,198)]),(6,[(2,47)]),(7,[(3,48)]),(12,[(1,46)]),(13,[(2,47)]),(14,[(5,201)])]),
 (84,[(1,[(6,48)]),(5,[(3,48)]),(6,[(2,200)])]),
 (85,[(1,[(3,48)]),(3,[(2,199)])]),
 (86,[(5,[(4,90),(6,87)])]),
 (87,[(0,[(3,46)]),(2,[(5,197)]),(4,[(6,197)])]),
 (88,[(3,[(1,123)]),(5,[(1,124)]),(7,[(1,125)]),(18,[(0,126)]),(19,[(5,116)])]),
 (89,[(0,[(1,53)])]),
 (92,[(6,[(3,93)])]),
 (94,[(22,[(2,94)])]),
 (95,[(4,[(4,127)]),(6,[(4,128)]),(8,[(4,129)]),(10,[(4,130)]),(12,[(4,131)]),(16,[(4,132)]),(17,[(13,29)]),(18,[(5,133)]),(20,[(5,134)]),(26,[(5,95)]),(29,[(6,95)])]),
 (97,[(4,[(14,32)])]),
 (98,[(6,[(5,135)]),(11,[(5,135)])]),
 (99,[(3,[(1,136)]),(7,[(0,137)])]),
 (100,[(8,[(3,138)]),(9,[(3,138)]),(10,[(3,138)]),(11,[(5,139)])]),
 (102,[(5,[(14,32)]),(16,[(10,32)]),(22,[(10,32)])]),
 (103,[(3,[(13,32)]),(5,[(13,32)])]),
 (104,[(3,[(13,32)]),(5,[(13,32)]),(13,[(13,32)]),(15,[(13,32)])]),
 (111,[(7,[(4,111)])]),
 (114,[(0,[(6,115)])]),
 (116,[(1,[(14,145)])]),
 (117,[(0,[(1,46)]),(1,[(5,205)])]),
 (118,[(0,[(5,49)]),(1,[(6,115)])]),
 (120,[(0,[(2,49)]),(1,[(6,115)])]),
 (122,[(0,[(1,46)])]),
 (123,[(1,[(1,189)]),(2,[(0,146)]),(3,[(1,147),(2,196)]),(4,[(1,149),(2,150),(3,148)])]),
 (124,[(1,[(1,187)]),(2,[(0,150)]),(3,[(1,147),(2,194)]),(4,[(1,126),(2,148)])]),
 (125,[(1,[(1,187)]),(2,[(0,150)]),(3,[(1,147),(2,62)]),(4,[(1,149),(2,146),(3,148)])]),
 (127,[(4,[(14,29)])]),
 (128,[(6,[(5,152)]),(11,[(5,152)])]),
 (129,[(3,[(1,136)]),(7,[(0,137)])]),
 (130,[(8,[(3,153)]),(9,[(3,153)]),(10,[(3,153)]),(11,[(5,154)])]),
 (132,[(5,[(14,29)]),(16,[(10,29)]),(22,[(10,29)])]),
 (133,[(3,[(13,29)]),(5,[(13,29)])]),
 (134,[(3,[(13,29)]),(5,[(13,29)]),(13,[(13,29)]),(15,[(13,29)])]),
 (135,[(3,[(19,32)]),(5,[(13,32)])]),
 (136,[(1,[(2,69)])]),
 (138,[(1,[(8,139)])]),
 (139,[(1,[(5,155)]),(2,[(5,155)]),(3,[(5,155)])]),
 (146,[(1,[(0,150)])]),
 (149,[(1,[(1,59)]),(2,[(1,203)])]),
 (152,[(3,[(19,29)]),(5,[(13,29)])]),
 (153,[(1,[(8,154)])]),
 (154,[(1,[(5,160)]),(2,[(5,160)]),(3,[(5,160)])]),
 (155,[(1,[(9,32)])]),
 (159,[(1,[(2,29)])]),
 (160,[(1,[(9,29)])]),
 (187,[(1,[(2,188)])]),
 (188,[(4,[(5,145)])]),
 (189,[(1,[(2,190)])]),
 (190,[(4,[(5,116)])]),
 (192,[(1,[(2,193)])]),
 (193,[(4,[(5,30)])]),
 (194,[(1,[(2,195)]),(8,[(2,151)])]),
 (195,[(4,[(5,151)])]),
 (196,[(1,[(2,188)]),(8,[(2,145)])]),
 (198,[(5,[(4,90),(6,119)])]),
 (199,[(5,[(4,90),(6,122)])]),
 (200,[(5,[(4,90),(6,121)])]),
 (201,[(5,[(4,90),(6,120)])]),
 (202,[(5,[(4,90),(6,114)])]),
 (203,[(6,[(10,159)]),(11,[(10,159)])]),
 (204,[(5,[(4,90),(6,117)])]),
 (205,[(5,[(4,90),(6,118)])]),
 (206,[(1,[(2,207)]),(8,[(2,63)])]),
 (207,[(4,[(5,63)])]),
 (208,[(4,[(5,28)])])]
def ahz:List (Nat × List (Nat × (Shape × List (Out × Shape)))):=[(9,[(847,O6),(209,O7),(161,O8),(113,O9)]),
 (16,[(783,Pb),(273,Pd),(225,Pe)]),
 (17,[(65,Pf)]),
 (18,[(81,Pg)]),
 (21,[(639,Ph),(257,Pj)]),
 (22,[(49,Pk)]),
 (26,[(129,Pm),(289,Pn)]),
 (27,[(33,Po)]),
 (30,[(161,Pp)]),
 (45,[(65,Pq)]),
 (50,[(81,Pr)]),
 (51,[(81,Ps)]),
 (52,[(161,Pu),(1455,Pv),(1599,Pw),(305,Px)]),
 (53,[(33,Py)]),
 (54,[(97,Pz)]),
 (55,[(49,PA),(129,PB)]),
 (56,[(81,PC)]),
 (60,[(145,PD),(65,PE)]),
 (62,[(81,PF)]),
 (64,[(49,PH)]),
 (66,[(33,PI)]),
 (68,[(639,PJ),(911,PK),(1215,PL),(33,PM)]),
 (70,[(49,PN)]),
 (82,[(49,PO)]),
 (83,[(65,PQ),(161,PS)]),
 (84,[(49,PT)]),
 (86,[(49,PU),(17,PV)]),
 (87,[(175,PW)]),
 (89,[(17,PX)]),
 (92,[(65,PY)]),
 (94,[(321,PZ)]),
 (95,[(639,P0),(911,P1),(1215,P2),(33,P4)]),
 (97,[(65,P5),(17,P6)]),
 (98,[(65,P7),(129,P8)]),
 (99,[(735,P9),(81,Qa)]),
 (100,[(591,Qb),(559,Qc)]),
 (101,[(33,Qd)]),
 (102,[(81,Qe),(225,Qf),(1055,Qg),(321,Qh),(49,Qi)]),
 (103,[(49,Qj),(81,Qk),(50,Ql)]),
 (104,[(49,Qm),(81,Qn),(209,Qo),(241,Qp),(210,Qq)]),
 (106,[(79,Qr),(143,Qs)]),
 (111,[(81,Qt)]),
 (115,[(17,Qu)]),
 (121,[(17,Qv)]),
 (122,[(33,Qw)]),
 (127,[(65,Qx),(17,Qy)]),
 (128,[(65,Qz),(129,QA)]),
 (129,[(735,QB),(81,QC)]),
 (130,[(591,QD),(559,QE)]),
 (131,[(33,QF)]),
 (132,[(81,QG),(225,QH),(1055,QI),(321,QJ),(49,QK)]),
 (133,[(49,QL),(81,QM),(50,QN)]),
 (134,[(49,QO),(81,QP),(209,QQ),(241,QR),(210,QS)]),
 (135,[(655,QT),(17,QU)]),
 (147,[(49,QV)]),
 (152,[(655,QW),(17,QX)]),
 (188,[(33,QY)]),
 (190,[(33,QZ)]),
 (193,[(33,Q0)]),
 (194,[(81,Q1)]),
 (195,[(33,Q2)]),
 (196,[(81,Q3)]),
 (198,[(49,Q4),(17,Q5)]),
 (199,[(49,Q6),(17,Q7)]),
 (200,[(49,Q8),(17,Q9)]),
 (201,[(49,Ra),(17,Rb)]),
 (202,[(49,Rc),(17,Re)]),
 (203,[(145,Rf),(65,Rg)]),
 (204,[(49,Rh),(17,Ri)]),
 (205,[(49,Rj),(17,Rk)]),
 (206,[(81,Rl)]),
 (207,[(33,Rm)]),
 (208,[(33,Rn)])]
def ahA:List (Nat × List (Nat × List Nat)):=[(48,[(11,[46])]),
 (55,[(1,[9])]),
 (60,[(15,[64])]),
 (62,[(12,[41])]),
 (83,[(8,[42])]),
 (194,[(12,[41])]),
 (196,[(12,[41])]),
 (203,[(15,[64])]),
 (206,[(12,[41])])]
def JK (k:Nat):FuncId:=(en ahp k).getD 0
def kh:cP where
 hY:=JK
 sin:=fun k=>(en ahq k).getD ⟨[],[]⟩
 gb:=fun k=>(en ahr k).getD ⟨[],[]⟩
 live:=fun k r=>(en ((en aht (JK k)).getD []) r).getD []
 join:=fun k r=>(en ((en ahu (JK k)).getD []) r).getD []
 blk:=fun k r=>(en ((en ahv (JK k)).getD []) r).getD []
 pur:=fun k r=>(en ((en ahw k).getD []) r).getD []
 vP:=fun k=>(en ahx k).getD []
 alt:=fun k=>en ahs k
 UF:=fun k r=>(en ((en ahA k).getD []) r).getD []
 ck:=fun k r i=>(en ((en ((en ahy k).getD []) r).getD []) i).getD 0
 iC:=fun k x=>en ((en ahz k).getD []) x
 zc:=[]
 G0:=fun _=>0
 ext:=fun f=>bif Nat.beq f 142 then some 101 else none
 pH:=fun f=>none
 idle:=fun f=>Nat.beq f 107
 mv:=fun k=>(en ([(52,[1]),(80,[1]),(81,[1]),(89,[1]),(112,[1]),(113,[1]),(114,[2]),(118,[3]),(120,[2]),(143,[1]),(201,[2]),(202,[2]),(205,[3])]:List (Nat × List Nat)) k).getD []
 aO:=fun g=>bif Nat.beq g 0 then .pref [5,5,5,5,5,5,5,5,5,5,5,5,5,5,5,5,5,5,5,5,5,5,5,5,5,5,5,5,5,5,5,5,5,5,5,5,5,5,5,5,5,5,5,5,5,5,5,5,5,5,5,5,5,5,5,5,5,5,5,5,5,5,5,5] xh else .undef
noncomputable abbrev PG:Program:=Tryz.prog
noncomputable abbrev CC:ae:=Call Tryz.prog kh
noncomputable abbrev Lp (p:List Nat) (k:Nat):nu:= .loop (jX p (iP PG (kh.hY k)))
noncomputable abbrev Cd (t:Nat) (p q:List Nat) (k:Nat):nu:= .cond t (jX p (iP PG (kh.hY k))) (jX q (iP PG (kh.hY k)))
abbrev ba (C:ae) (L:bI) (k:Nat) (b:nu):Prop:=rp PG kh C L k (Cs PG (kh.hY k)) (kh.sin k).cA.length b
end Go.AM
set_option maxRecDepth 100000
namespace Go.AM
open Go.Proofs Go.RowKit
theorem ahB (hP:Da PG) (f:FuncId) (e:TypeId) (h:kh.pH f=some e):WB PG f e:=by
 have h1:kh.pH f=none:=by kernel_rfl
 rw[h1] at h
 cases h
theorem ahC (args:Array Value) (n:Nat):n≤(args++Array.replicate (n-args.size) undef).size:=by simp;omega
def opsOf:Code→Array Oper
 | .region _ ops _=>ops
 | _=> #[]
def YV:Code→Nat
 | .region id _ _=>id
 | _=>0
section
variable {P:Program} {ops:Array Oper} {Q:Exit→Act→List Frame→World→Prop} {a:Act} {cs:List Frame} {w:World} {i:Nat} {rest:List Nat} {o:Oper}
theorem ahD (ho:ops[i]? =some o) (hg:o.guard=none) (he:(execOp a.eval o).run P w= .ok .recover w) (hr:recoverD cs=none) (h:wpOpsS P ops Q rest (a.put o.dst .nilIface) cs w):wpOpsS P ops Q (i::rest) a cs w:=by
 simp only[wpOpsS,ho,Region.wanted,hg,cL,he,hr]
 exact h
theorem Ro {v:Value} (ho:ops[i]? =some o) (hg:o.guard=none) (he:(execOp a.eval o).run P w= .ok (.value v) w) (h:wpOpsS P ops Q rest (a.put o.dst v) cs w):wpOpsS P ops Q (i::rest) a cs w:=by
 simp only[wpOpsS,ho,Region.wanted,hg,cL,he,Oper.upon_value]
 exact h
end
theorem ahE (w:World):(binOp .neq 20 .nilIface .nilIface).run Tryz.prog w= .ok (.bool false) w:=by
 have hd:Tryz.prog.underlying 20=some (.interface #[]):=by kernel_rfl
 have h0: ∀k:Nat,(Op.equalIn (k+1) 20 .nilIface .nilIface).run Tryz.prog w= .ok true w:=fun k=>by simp[Op.equalIn,run_underlying hd]
 simp only[binOp]
 simp[Op.equal,Op.maxDepth,h0 9999]
theorem ahF (args:Array Value) (w:World):CallsD Tryz.prog 107 args .returning w fun e u' w'=>(∃v,e= .returned v)∧u'= .returning∧w'=w:=by
 refine callsD_of_wpS (c:=(iP Tryz.prog 107)) Tryz.func107 (by kernel_rfl) fun ahG cs hu=> ?_
 rw[show Tryz.f107.ntmps=20 by kernel_rfl]
 have bw:=ahC args 20
 generalize args++Array.replicate (20-args.size) undef=tm at bw
 have hb:iP Tryz.prog 107= .seq (.region (YV (jX [0] (iP Tryz.prog 107))) (opsOf (jX [0] (iP Tryz.prog 107))) false) (.seq (.region (YV (jX [1,0] (iP Tryz.prog 107))) (opsOf (jX [1,0] (iP Tryz.prog 107))) false) (.cond (.tmp 8) (jX [1,1,0] (iP Tryz.prog 107)) .skip)):=by kernel_rfl
 have hr:recoverD (ahG::cs)=none:=by simp[recoverD,hu]
 have o0:(opsOf (jX [0] (iP Tryz.prog 107))).map (fun o=>(o.dst,o.op,o.guard))= #[(some 6,.call ⟨.builtin .recover,#[],#[]⟩,none),(some 3,.assign (.tmp 6),none)]:=by kernel_rfl
 have o1:(opsOf (jX [1,0] (iP Tryz.prog 107))).map (fun o=>(o.dst,o.op,o.guard))= #[(some 7,.move (.tmp 3),none),(some 8,.binOp .neq 20 (.tmp 7) (.const .nilIface) 20,none)]:=by kernel_rfl
 rw[hb]
 generalize opsOf (jX [0] (iP Tryz.prog 107))=atZ at o0⊢
 generalize opsOf (jX [1,0] (iP Tryz.prog 107))=at0 at o1⊢
 generalize jX [1,1,0] (iP Tryz.prog 107)=c2
 have get: ∀(ops:Array Oper) (l:Array (Option Nat × Op × Option (Nat × Bool))),ops.map (fun o=>(o.dst,o.op,o.guard))=l→ops.size=l.size∧∀(i:Nat) d p g,l[i]? =some (d,p,g)→∃o,ops[i]? =some o∧o.dst=d∧o.op=p∧o.guard=g:=by
  intro ops l h
  subst h
  refine ⟨by simp,fun i d p g h=> ?_⟩
  rw[Array.getElem?_map] at h
  cases ho:ops[i]? with
  | none=>rw[ho] at h;cases h
  | some o=>rw[ho] at h;simp at h;exact ⟨o,rfl,h⟩
 obtain ⟨s0,g0⟩:=get _ _ o0
 obtain ⟨s1,g1⟩:=get _ _ o1
 obtain ⟨x0,a0,b0,c0,d0⟩:=g0 0 _ _ _ rfl
 obtain ⟨x1,a1,b1,c1,d1⟩:=g0 1 _ _ _ rfl
 obtain ⟨y0,e0,f0,p0,q0⟩:=g1 0 _ _ _ rfl
 obtain ⟨y1,e1,f1,p1,q1⟩:=g1 1 _ _ _ rfl
 refine wpS_seq (wpS_region ?_)
 rw[s0]
 change wpOpsS _ _ _ [0,1] _ _ _
 refine ahD a0 d0 (by simp[execOp,c0,resolve,invoke,builtin]) hr ?_
 refine Ro (v:= .nilIface) a1 d1 ?_ ?_
 ·simp[execOp,c1,Act.eval,Act.put,b0,show 6<tm.size by omega]
 rw[b0,b1]
 change Exit.thenS _ _ .normal _ _ _
 simp only[Exit.thenS]
 refine wpS_seq (wpS_region ?_)
 rw[s1]
 change wpOpsS _ _ _ [0,1] _ _ _
 refine Ro (v:= .nilIface) e0 q0 ?_ ?_
 ·simp[execOp,p0,Act.eval,Act.put,show 3<tm.size by omega]
 rw[f0]
 refine Ro (v:= .bool false) e1 q1 ?_ ?_
 ·simp[execOp,p1,Act.eval,Act.put,show 7<tm.size by omega]
  simp[eqGuard,ahE]
 rw[f1]
 change Exit.thenS _ _ .normal _ _ _
 simp only[Exit.thenS]
 refine wpS_cond (t:=false) (by simp[Act.eval,Act.put,show 8<tm.size by omega]) ?_
 simp only[Bool.false_eq_true,ga]
 refine wpS_of_wp (wp_skip ?_)
 refine ⟨rfl,.returning,by rw[←hu],.tuple #[],?_,⟨_,rfl⟩,rfl,rfl⟩
 simp[results,show Tryz.f107.results= #[] by kernel_rfl]
theorem ahH {w:World} {b:Nat} {C:Array Value} {T:TypeId} (h:w.heap[b]? =some (.cells C T (0,0))):w.shape? b=some (T,C.size)∧w.frozen? ⟨b,0,none⟩=false∧w.cell? ⟨b,0,none⟩=C[0]? :=by
 refine ⟨by simp[World.shape?,h],by simp[World.frozen?,h],cell?_cells h⟩
set_option maxHeartbeats 1000000 in
theorem ahI (b:Nat) (w:World) (h0:w.cell? ⟨b,0,none⟩=some (.pointer (some ⟨b,0,none⟩))):
  Calls Tryz.prog 142 #[.pointer (some ⟨b,0,none⟩)] w fun e w'=>e= .returned (.tuple #[])∧w'=w:=by
 obtain ⟨j,hj⟩:=BR.1 (show (Tryz.prog.info? 101).isSome=true by kernel_rfl)
 have hu:Tryz.prog.underlying 98=some (.pointer 101):=by kernel_rfl
 go_enter Tryz.func142,Tryz.ntmps142
 go_wp2
 rw[Lib.run_neq_ptr_same w _ hu hj]
 go_wp2
 go_end0
 exact ⟨rfl,rfl⟩
set_option maxHeartbeats 1000000 in
theorem ahJ (b n:Nat) (w:World) (hn:0<n) (h0:w.cell? ⟨b,0,none⟩=some (.pointer none)) (uZ:w.shape? b=some (101,n)) (NZ:w.frozen? ⟨b,0,none⟩=false) (hl:liesAt Tryz.prog Tryz.prog.depth 101 (n/Tryz.prog.cellsOf 101) 0 101 1=true):
  Calls Tryz.prog 142 #[.pointer (some ⟨b,0,none⟩)] w fun e w'=>e= .returned (.tuple #[])∧w'=w.setCell ⟨b,0,none⟩ (.pointer (some ⟨b,0,none⟩)):=by
 obtain ⟨j,hj⟩:=BR.1 (show (Tryz.prog.info? 101).isSome=true by kernel_rfl)
 have hjs:j.size≠0:=by
  have h2:(Tryz.prog.info? 101).map (·.size)=some 2:=by kernel_rfl
  rw[hj] at h2
  simp at h2
  omega
 have hu:Tryz.prog.underlying 98=some (.pointer 101):=by kernel_rfl
 have n0:Tryz.prog.underlying 159=some .unsafePointer:=by kernel_rfl
 go_enter Tryz.func142,Tryz.ntmps142
 go_wp2
 rw[Lib.run_to_unsafe w ⟨b,0,none⟩ hu n0 hj hjs uZ hn]
 simp only[Result.andThen]
 rw[Oper.upon_value]
 go_wp2
 rw[run_callFunc_extern Tryz.func158 (by kernel_rfl) (by kernel_rfl) (by kernel_rfl) (e:=Extern.AbiNoEscape.same) (by kernel_rfl)]
 rw[Lib.run_noEscape]
 simp only[Result.andThen]
 rw[Oper.upon_value]
 go_wp2
 rw[Lib.run_from_unsafe w ⟨b,0,none⟩ n0 hu hj uZ hl]
 simp only[Result.andThen]
 rw[Oper.upon_value]
 go_wp2
 go_end0
 exact ⟨rfl,rfl⟩
theorem ahK (hP:Da Tryz.prog):jt Tryz.prog kh where
 count:=hP
 pH:=ahB hP
 ext:=by
  intro f T h b C w hh hs hc
  have hf:f=142∧T=101:=by
   have h1:kh.ext f=bif Nat.beq f 142 then some 101 else none:=by kernel_rfl
   rw[h1] at h
   cases hb:Nat.beq f 142 with
   | true=>rw[hb] at h;rw[bq] at hb;exact ⟨hb,(dh h).symm⟩
   | false=>rw[hb] at h;cases h
  obtain ⟨rfl,rfl⟩:=hf
  obtain ⟨h1,h2,h3⟩:=ahH hh
  refine ⟨MuLone.run_callFunc_enter Tryz.func142 (hP _ _ Tryz.func142) (by kernel_rfl:Tryz.f142.body=some (iP Tryz.prog 142)) _ _,?_⟩
  have jM:Tryz.prog.cellsOf 101=2:=by kernel_rfl
  rcases hc with hc|hc
  ·refine (ahJ b C.size w (by omega) (h3.trans hc) h1 h2 (by rw[hs,jM];kernel_rfl)).mono ?_
   rintro e w' ⟨rfl,rfl⟩
   exact ⟨rfl,.inr rfl⟩
  ·refine (ahI b w (h3.trans hc)).mono ?_
   rintro e w' ⟨rfl,rfl⟩
   exact ⟨rfl,.inl rfl⟩
 idle:=by
  intro f h
  have hf:f=107:=by
   have h1:kh.idle f=Nat.beq f 107:=by kernel_rfl
   rw[h1,bq] at h
   exact h
  subst hf
  exact ⟨MuLone.run_callFunc_enter Tryz.func107 (hP _ _ Tryz.func107) (by kernel_rfl:Tryz.f107.body=some (iP Tryz.prog 107)),ahF⟩
end Go.AM
set_option maxRecDepth 100000
namespace Go.AM
open Go.Proofs Go.Proofs.YtbbgbkiefjilcaaGreatDoor Go.Lib Go.MakeChecks
def tt:List Int:=[0,1,56,2,57,49,28,3,61,58,42,50,38,29,17,4,62,47,59,36,45,43,51,22,53,39,33,30,24,18,12,5,63,55,48,27,60,41,37,16,46,35,44,21,52,32,23,11,54,26,40,15,34,20,31,10,25,14,19,9,13,8,7,6]
theorem ahL:xh=tt.map fun z=> .int .u8 z:=by kernel_rfl
theorem ahM:Rows.laid_math_bits_deBruijn64tab (H:=Unit)=tabData .u8 tt:=by kernel_rfl
def DQ : List (String × DataW Unit) := [("math/bits.deBruijn64tab", Rows.laid_math_bits_deBruijn64tab)]
theorem aef {W:World} (h:laidMetH Tryz.prog DQ W):iD Tryz.prog kh.aO W (nt W):=by
 have h1 : laidMetH Tryz.prog [("math/bits.deBruijn64tab", tabData .u8 tt)] W := by
  have : DQ = [("math/bits.deBruijn64tab", tabData .u8 tt)] := by unfold DQ; rw [ahM]
  rwa [this] at h
 rw[laidMetH_plain _ _ _ (by kernel_rfl)] at h1
 have hn : Tryz.prog.globalNamed "math/bits.deBruijn64tab" = some 0 := by kernel_rfl
 have ht:=tabIs_of_head (g:=0) (t:=137) (e:=5) (n:=64) hn (by kernel_rfl) (by kernel_rfl) (by kernel_rfl) (by kernel_rfl) (by kernel_rfl) h1
 have hlen:tt.length=64:=by kernel_rfl
 have hc: ∀i,i<64→W.cell? ⟨0,i,none⟩=some (.int .u8 (tt.getD i 0)):=fun i hi=>ht.cell hn i (by rw[hlen];exact hi)
 intro g
 have hg:kh.aO g=bif Nat.beq g 0 then .pref (List.replicate 64 5) xh else .undef:=by kernel_rfl
 rw[hg]
 cases hb:Nat.beq g 0 with
 | false=>exact .inl rfl
 | true=>
  rw[bq] at hb
  subst hb
  refine .inr ⟨List.replicate 64 5,xh,rfl,by kernel_rfl,fun _=> ?_,fun j t x hj hx=> ?_⟩
  ·have h0:=hc 0 (by omega)
   unfold nt
   unfold World.cell? at h0
   by_cases hz:0<W.heap.size
   ·exact hz
   ·have:W.heap[0]? =none:=Array.getElem?_eq_none (by omega)
    simp[this] at h0
  ·have JL:j<64:=by
    have:=(bL.1 hj).1
    simpa using this
   rw[tZ,ai JL] at hj
   cases hj
   rw[ahL,fI] at hx
   have oS:tt[j]? =some (tt.getD j 0):=by
    rw[cq (by rw[hlen];exact JL)]
    simp[List.getD,cq (show j<tt.length by rw[hlen];exact JL)]
   rw[oS] at hx
   cases hx
   exact ⟨_,by simpa using hc j JL,.int (by kernel_rfl)⟩
theorem own:ownKnob Tryz.prog.godebug=none:=by kernel_rfl
theorem ahN:Da Tryz.prog:=agY (by kernel_rfl)
theorem mixed:Tryz.prog.follows .mixedOrders=true:=by kernel_rfl
theorem aee:jt Tryz.prog kh:=ahK ahN
noncomputable def UD (os:Os):World:=World.laidAll Tryz.prog os DQ
theorem aec (os:Os) (args:Array Value):laidMetH Tryz.prog DQ ((UD os).forCall (fun _ _=>0) ⟨#[],args,[]⟩).memory:=by
 rw[laidMetH_plain _ _ _ (by kernel_rfl)]
 exact laidMet_laidAll args (by kernel_rfl) (by kernel_rfl)
end Go.AM
namespace Go.AM
theorem wrap_u64 (n:Int):IntKind.u64.wrap n=n %18446744073709551616:=by simp[IntKind.wrap,IntKind.bits,IntKind.signed]
theorem rM {A:Nat} (h:A<2^64):IntKind.wrap .u64 (A:Int)=A:=by
 rw[wrap_u64];omega
theorem AB {n A:Nat} (h:A<2^n):(BitVec.ofInt n (A:Int)).toNat=A:=by
 rw[BitVec.ofInt_natCast,BitVec.toNat_ofNat];exact Nat.mod_eq_of_lt h
theorem ahO {n A B:Nat} (hA:A<2^n) (hB:B<2^n):(BitVec.ofInt n (A:Int)|||BitVec.ofInt n (B:Int)).toNat=A|||B:=by
 rw[BitVec.toNat_or,AB hA,AB hB]
theorem bv_and {n A B:Nat} (hA:A<2^n) (hB:B<2^n):(BitVec.ofInt n (A:Int)&&&BitVec.ofInt n (B:Int)).toNat=A&&&B:=by
 rw[BitVec.toNat_and,AB hA,AB hB]
theorem ahP {n A B:Nat} (hA:A<2^n) (i:Nat):(BitVec.ofInt n (A:Int)&&& ~~~ BitVec.ofInt n (B:Int)).toNat.testBit i=(A.testBit i&& !(B.testBit i)):=by
 rw[BitVec.testBit_toNat,BitVec.ofInt_natCast,BitVec.ofInt_natCast]
 by_cases hi:i<n
 ·simp only[BitVec.getLsbD_and,BitVec.getLsbD_not,BitVec.getLsbD_ofNat,hi,pA,ki]
 ·have hf:A.testBit i=false:=BW (mX hA (ue (by omega) (by omega)))
  rw[hf,yW,BitVec.getLsbD_of_ge _ _ (by omega)]
theorem u64_or {A B:Nat} (hA:A<2^64) (hB:B<2^64):IntKind.wrap .u64 ((BitVec.ofInt (IntKind.bits .u64) (A:Int)|||BitVec.ofInt (IntKind.bits .u64) (B:Int)).toNat)=((A|||B:Nat):Int):=by
 rw[ahO (n:=IntKind.bits .u64) hA hB]
 exact rM (qJ hA hB)
theorem u64_and {A B:Nat} (hA:A<2^64) (hB:B<2^64):IntKind.wrap .u64 ((BitVec.ofInt (IntKind.bits .u64) (A:Int)&&&BitVec.ofInt (IntKind.bits .u64) (B:Int)).toNat)=((A&&&B:Nat):Int):=by
 rw[bv_and (n:=IntKind.bits .u64) hA hB]
 exact rM (nH yX hA)
theorem u64_andNot {A:Nat} (B:Nat) (hA:A<2^64): ∃D:Nat,D<2^64∧(∀i,D.testBit i=(A.testBit i&& !(B.testBit i)))∧
  IntKind.wrap .u64 ((BitVec.ofInt (IntKind.bits .u64) (A:Int)&&& ~~~ BitVec.ofInt (IntKind.bits .u64) (B:Int)).toNat)=(D:Int):=
 ⟨(BitVec.ofInt (IntKind.bits .u64) (A:Int)&&& ~~~ BitVec.ofInt (IntKind.bits .u64) (B:Int)).toNat,BitVec.isLt _,fun i=>ahP hA i,rM (BitVec.isLt _)⟩
theorem AD {m:Nat} (h:m<64):IntKind.wrap .u64 (1*2^(min m (IntKind.bits .u64)))=((2^m:Nat):Int):=by
 have e:min m (IntKind.bits .u64)=m:=Nat.min_eq_left (by show m≤64;omega)
 rw[e]
 have:(1*2^m:Int)=((2^m:Nat):Int):=by simp
 rw[this]
 exact rM (qK (by omega) h)
theorem AE {A m:Nat} (h:m<64):Int.fdiv (A:Int) (2^(min m (IntKind.bits .u64)))=((A/2^m:Nat):Int):=by
 have e:min m (IntKind.bits .u64)=m:=Nat.min_eq_left (by show m≤64;omega)
 rw[e]
 have:(2^m:Int)=((2^m:Nat):Int):=by simp
 rw[this,Int.fdiv_eq_ediv_of_nonneg _ (Int.natCast_nonneg _)]
 exact Int.natCast_ediv ..
theorem ahQ {A m:Nat} (hA:A<2^64) (h:m<64):
  (IntKind.wrap .u64 ((BitVec.ofInt (IntKind.bits .u64) (Int.fdiv (A:Int) (2^(min m (IntKind.bits .u64))))&&&BitVec.ofInt (IntKind.bits .u64) 1).toNat)==1)=A.testBit m:=by
 rw[AE h]
 have:=u64_and (A:=A/2^m) (B:=1) (nH (Nat.div_le_self _ _) hA) (by omega)
 rw[show ((1:Nat):Int)=1 from rfl] at this
 rw[this]
 rw[Nat.and_one_is_mod,Nat.testBit_eq_decide_div_mod_eq]
 by_cases hb:A/2^m %2=1
 ·simp[hb]
 ·have:A/2^m %2=0:=by omega
  simp[this]
end Go.AM
set_option maxRecDepth 100000
namespace Go.AM
open Go.Proofs
theorem lR:maxLen≤9223372036854775807:=by unfold maxLen;omega
theorem jY:db=35184372088832:=by unfold db;rfl
section
variable {α β:Type} {o:Option α} {a:α} {f:α→Option β} {r:Option β} {x y z:β} {b:Bool}
theorem bs (h:o=some a) (h2:f a=r):o.bind f=r:=by rw[h];exact h2
theorem bT (hb:b=true) (h:x=z):(bif b then x else y)=z:=by rw[hb];exact h
theorem bF (hb:b=false) (h:y=z):(bif b then x else y)=z:=by rw[hb];exact h
end
section
variable {X R A α:Type} {step:X→Option (X ⊕ R)}
theorem YW (l:List α) (s:Nat→A→X) (f:A→α→A) (r:A→R) (Inv:Nat→A→Prop)
  (h: ∀(i:Nat) (a:A) (hi:i<l.length),Inv i a→step (s i a)=some (.inl (s (i+1) (f a l[i])))∧Inv (i+1) (f a l[i]))
  (he: ∀a,Inv l.length a→step (s l.length a)=some (.inr (r a))) (a0:A) (h0:Inv 0 a0):
  Loop step (s 0 a0)=some (r (l.foldl f a0))∧Inv l.length (l.foldl f a0):=by
 have go: ∀(k:Nat) (a:A),k≤l.length→Inv k a→Loop step (s k a)=some (r ((l.drop k).foldl f a))∧Inv l.length ((l.drop k).foldl f a):=by
  intro k
  generalize hd:l.length-k=d
  induction d generalizing k with
  | zero=>
   intro a hk hi
   have:k=l.length:=by omega
   subst this
   simp only[List.drop_length,List.foldl_nil]
   exact ⟨br (he a hi),hi⟩
  | succ d ih=>
   intro a hk hi
   have dP:k<l.length:=by omega
   obtain ⟨h1,h2⟩:=h k a dP hi
   rw[bS h1,List.drop_eq_getElem_cons dP,List.foldl_cons]
   exact ih (k+1) (by omega) _ (by omega) h2
 simpa using go 0 a0 (by omega) h0
theorem Rp (good:Nat→Prop) [DecidablePred good] (n:Nat) (s:Nat→X) (bad ok:R) (h: ∀i,i<n→step (s i)=some (if good i then .inl (s (i+1)) else .inr bad)) (he:step (s n)=some (.inr ok)):
  Loop step (s 0)=some (if∀i,i<n→good i then ok else bad):=by
 have go: ∀(d k:Nat),k+d=n→((∀i,k≤i→i<n→good i)→Loop step (s k)=some ok)∧((¬∀i,k≤i→i<n→good i)→Loop step (s k)=some bad):=by
  intro d
  induction d with
  | zero=>
   intro k hk
   have:k=n:=by omega
   subst this
   exact ⟨fun _=>br he,fun hx=>absurd (fun i h1 h2=>by omega) hx⟩
  | succ d ih=>
   intro k hk
   have h1:=h k (by omega)
   by_cases hg:good k
   ·rw[ai hg] at h1
    rw[bS h1]
    obtain ⟨i1,i2⟩:=ih (k+1) (by omega)
    refine ⟨fun ha=>i1 fun i h1 h2=>ha i (by omega) h2,fun ha=>i2 fun hx=>ha fun i h1 h2=> ?_⟩
    by_cases hi:i=k
    ·rw[hi];exact hg
    ·exact hx i (by omega) h2
   ·rw[aj hg] at h1
    rw[br h1]
    exact ⟨fun ha=>absurd (ha k (bC _) (by omega)) hg,fun _=>rfl⟩
 obtain ⟨g1,g2⟩:=go n 0 (by omega)
 by_cases ha: ∀i,i<n→good i
 ·rw[ai ha];exact g1 fun i _ h=>ha i h
 ·rw[aj ha];exact g2 fun hx=>ha fun i h=>hx i (by omega) h
end
inductive Ex where
 | node (op letter:Int) (kids:List Ex)
namespace Ex
def op:Ex→Int| .node o _ _=>o
def letter:Ex→Int| .node _ l _=>l
def kids:Ex→List Ex| .node _ _ ks=>ks
theorem ind {p:Ex→Prop} (h: ∀o l ks,(∀k∈ks,p k)→p (.node o l ks)): ∀e,p e
 | .node o l ks=>h o l ks fun k hk=>ind h k
termination_by e=>SizeOf.sizeOf e
decreasing_by
 have:=GF hk
 simp
 omega
mutual
def enc:Ex→V
 | .node o l ks=> .agg [.int .i64 o,.int .i64 l,.list ag (DR ks)]
def DR:List Ex→List V
 | []=>[]
 | k::ks=>enc k::DR ks
end
theorem YX: ∀ks,DR ks=ks.map enc
 | []=>by simp only[DR,kP]
 | k::ks=>by simp only[DR,dw,YX ks]
theorem ja (e:Ex):e.enc= .agg [.int .i64 e.op,.int .i64 e.letter,.list ag (e.kids.map enc)]:=by
 cases e;simp only[enc,op,letter,kids,YX]
mutual
def size:Ex→Nat
 | .node _ _ ks=>1+aL ks
def aL:List Ex→Nat
 | []=>0
 | k::ks=>size k+aL ks
end
mutual
def depth:Ex→Nat
 | .node _ _ ks=>1+lS ks
def lS:List Ex→Nat
 | []=>0
 | k::ks=>max (depth k) (lS ks)
end
theorem size_pos: ∀e:Ex,0<e.size
 | .node _ _ ks=>by simp only[size];omega
theorem ahR: ∀e:Ex,e.depth≤e.size:=ind fun o l ks ih=>by
 have: ∀ks:List Ex,(∀k∈ks,k.depth≤k.size)→lS ks≤aL ks:=by
  intro ks
  induction ks with
  | nil=>intro _;simp only[lS,aL];omega
  | cons k ks ih=>
   intro h
   have h1:=h k (by simp)
   have h2:=ih fun k hk=>h k (by simp[hk])
   simp only[lS,aL];omega
 have:=this ks ih
 simp only[depth,size];omega
inductive Ok:Ex→Prop
 | node {o l:Int} {ks:List Ex}:(-9223372036854775808≤o∧o≤9223372036854775807)→(-9223372036854775808≤l∧l≤9223372036854775807)→ks.length≤maxLen→(∀k∈ks,Ok k)→Ok (.node o l ks)
theorem Ok.iJ {o l:Int} {ks:List Ex} (h:Ok (.node o l ks)): ∀k∈ks,Ok k:=by cases h;assumption
theorem Ok.len {o l:Int} {ks:List Ex} (h:Ok (.node o l ks)):ks.length≤maxLen:=by cases h;assumption
end Ex
open Ex
abbrev cJ (e:Ex) (l:List V):List V:= .int .i64 e.op:: .int .i64 e.letter:: .list ag (e.kids.map enc)::l
theorem UC: ∀(n:Nat) (x:V),SizeOf.sizeOf x<n→kL PG ag x→∃e:Ex,x=e.enc∧e.Ok
 | 0,x,h,_=>by omega
 | n+1,x,h,hw=>by
  obtain ⟨xs,rfl,hl,hx⟩:=hw.mj (by kernel_rfl)
  have e1:bx PG ag=[kC,kC,Yc]:=by kernel_rfl
  rw[e1] at hl hx
  match xs,hl,hx,h with
  | [a,b,c],_,hx,h=>
   obtain ⟨o,rfl,ho⟩:=(hx 0 kC a rfl rfl).eD (k:= .i64) (by kernel_rfl)
   obtain ⟨l,rfl,hl⟩:=(hx 1 kC b rfl rfl).eD (k:= .i64) (by kernel_rfl)
   obtain ⟨es,rfl,he,VZ⟩:=(hx 2 Yc c rfl rfl).agZ (e:=ag) (by kernel_rfl)
   have: ∃ks:List Ex,es=ks.map enc∧∀k∈ks,k.Ok:=XS fun y hy=>UC n y (by
    have:=GF hy
    simp at h
    omega) (VZ y hy)
   obtain ⟨ks,rfl,bD⟩:=this
   refine ⟨.node o l ks,by rw[ja];rfl,.node ?_ ?_ (by simpa using he) bD⟩
   ·exact ho
   ·exact hl
noncomputable def YY (C:ae) (ak ay:Int) (ah:LV) (letters:Int):Option LV:=
 bif decide ((letters:Int)<1) then
  some [V.int .i64 1]
 else
  bif decide ((letters:Int)>6) then
  some [V.int .i64 1]
  else
  (C I7 [V.int .i64 ak,V.int .i64 ay,.list ag ah]).bind fun r1=>
  bif !((V.nth r1 0).toBool) then
   some [V.int .i64 3]
  else
   (C Ap [V.int .i64 ak,V.int .i64 ay,.list ag ah,V.int .i64 letters]).bind fun r2=>
   bif !((V.nth r2 0).toBool) then
   some [V.int .i64 4]
   else
   some [V.int .i64 0]
theorem ahS {ak ay:Int} {ah:LV} {letters:Int} {r:Option LV} (h:YY CC ak ay ah letters=r):CC DB [V.int .i64 ak,V.int .i64 ay,.list ag ah,V.int .i64 letters]=r:=aV (L:=aW) ar h
noncomputable def YZ (C:ae) (ak ay:Int) (ah:LV):Option LV:=
 (C Ar [V.int .i64 ak,V.int .i64 ay,.list ag ah,V.int .i64 40,V.int .i64 400]).bind fun r1=>
 some [.bool ((V.nth r1 0).toBool)]
theorem ahT {ak ay:Int} {ah:LV} {r:Option LV} (h:YZ CC ak ay ah=r):CC I7 [V.int .i64 ak,V.int .i64 ay,.list ag ah]=r:=aV (L:=aW) ar h
noncomputable def AF (C:ae) (depth:Int) (t23:LV) (t24 t25 o8:Int) {β:Type} (kn:(Int × Int)→Option β) (kr:((Bool × Int) ⊕ (Int × Bool × Int))→Option β):Option β:=
 bif decide ((t25:Int)<t24) then
  (idx t23 t25).bind fun x1=>
  (C Ar [V.int .i64 ((x1.cell 0).toInt),V.int .i64 ((x1.cell 1).toInt),.list ag ((x1.cell 2).toList),V.int .i64 (IntKind.wrap .i64 (depth-1)),V.int .i64 o8]).bind fun r2=>
  bif !((V.nth r2 0).toBool) then
  kr (.inl (false,(V.nth (r2.drop 1) 0).toInt))
  else
  kn (IntKind.wrap .i64 (t25+1),(V.nth (r2.drop 1) 0).toInt)
 else
  kr (.inr (t25,decide ((t25:Int)<t24),o8))
noncomputable def xk (C:ae) (depth:Int) (t23:LV) (t24:Int):=un fun t25 o8=>AF C depth t23 t24 t25 o8 (fun y=>some (Sum.inl y)) (fun r=>some (Sum.inr r))
noncomputable def ahU (C:ae):bI:=bu 81 Qt [false,false,false,true,true] [[0,0],[1,2,3,0,0,0]] (@AF C) aW
theorem ahV (C:ae):ba C (ahU C) 111 (Lp [1,1,1,0,1,0,0] 111):=bt Qt [false,false,false,true,true] [[0,0],[1,2,3,0,0,0]] (@AF C) (aK ar)
noncomputable def DS (C:ae) (ak ay:Int) (ah:LV) (depth o8:Int):Option LV:=
 bif (depth:Int)==0 then
  some [.bool false,V.int .i64 o8]
 else
  bif (o8:Int)==0 then
  some [.bool false,V.int .i64 o8]
  else
  (Loop (xk C depth ah (ah.length:Int)) (0,IntKind.wrap .i64 (o8-1))).bind (cf (un fun (fy:Bool) (Rq:Int)=>
   some [.bool fy,V.int .i64 Rq]) (un fun (gB:Int)=>un fun (qf:Bool) (ahW:Int)=>
   some [.bool true,V.int .i64 ahW]))
theorem JM {ak ay:Int} {ah:LV} {depth o8:Int} {r:Option LV} (h:DS CC ak ay ah depth o8=r):CC Ar [V.int .i64 ak,V.int .i64 ay,.list ag ah,V.int .i64 depth,V.int .i64 o8]=r:=aV (aZ (ahV CC) ar) h
noncomputable def AG (C:ae) (letters:Int) (t53:LV) (t54 t55:Int) {β:Type} (kn:Int→Option β) (kr:((Bool) ⊕ (Int × Bool))→Option β):Option β:=
 bif decide ((t55:Int)<t54) then
  (idx t53 t55).bind fun x1=>
  (C Ap [V.int .i64 ((x1.cell 0).toInt),V.int .i64 ((x1.cell 1).toInt),.list ag ((x1.cell 2).toList),V.int .i64 letters]).bind fun r2=>
  bif !((V.nth r2 0).toBool) then
  kr (.inl false)
  else
  kn (IntKind.wrap .i64 (t55+1))
 else
  kr (.inr (t55,decide ((t55:Int)<t54)))
noncomputable def gC (C:ae) (letters:Int) (t53:LV) (t54:Int):=fun t55=>AG C letters t53 t54 t55 (fun y=>some (Sum.inl y)) (fun r=>some (Sum.inr r))
noncomputable def ahX (C:ae):bI:=bu 321 PZ [false,false,false,true] [[0],[1,2,3,0,0]] (@AG C) aW
theorem ahY (C:ae):ba C (ahX C) 94 (Lp [1,1,1,1,0,1,0,0] 94):=bt PZ [false,false,false,true] [[0],[1,2,3,0,0]] (@AG C) (aK ar)
noncomputable def Y0 (C:ae) (ak ay:Int) (ah:LV) (letters:Int):Option LV:=
 bif (ak:Int)==3 then
  bif ((ah.length:Int):Int)==0 then
  bif decide ((ay:Int)≥0) then
   some [.bool (decide ((ay:Int)<letters))]
  else
   some [.bool false]
  else
  some [.bool false]
 else
  bif (ay:Int) != 0 then
  some [.bool false]
  else
  bif (ak:Int)==1 then
   bif (ak:Int)==1 then
   some [.bool (((ah.length:Int):Int)==0)]
   else
   bif (ak:Int)==4 then
    bif (ak:Int)==4 then
    bif decide (((ah.length:Int):Int)<2) then
     some [.bool false]
    else
     (Loop (gC C letters ah (ah.length:Int)) 0).bind (cf (fun (fy:Bool)=>
      some [.bool fy]) (un fun (jy:Int) (gB:Bool)=>
      some [.bool true]))
    else
    bif (ak:Int)==7 then
     bif (ak:Int)==7 then
     bif ((ah.length:Int):Int) != 1 then
      some [.bool false]
     else
      (Loop (gC C letters ah (ah.length:Int)) 0).bind (cf (fun (qf:Bool)=>
       some [.bool qf]) (un fun (rN:Int) (rO:Bool)=>
       some [.bool true]))
     else
     some [.bool false]
    else
     bif (ak:Int)==8 then
     bif ((ah.length:Int):Int) != 1 then
      some [.bool false]
     else
      (Loop (gC C letters ah (ah.length:Int)) 0).bind (cf (fun (o9:Bool)=>
       some [.bool o9]) (un fun (xl:Int) (tu:Bool)=>
       some [.bool true]))
     else
     some [.bool false]
   else
    bif (ak:Int)==5 then
    bif (ak:Int)==5 then
     bif decide (((ah.length:Int):Int)<2) then
     some [.bool false]
     else
     (Loop (gC C letters ah (ah.length:Int)) 0).bind (cf (fun (DT:Bool)=>
      some [.bool DT]) (un fun (Rr:Int) (DU:Bool)=>
      some [.bool true]))
    else
     bif (ak:Int)==7 then
     bif (ak:Int)==7 then
      bif ((ah.length:Int):Int) != 1 then
      some [.bool false]
      else
      (Loop (gC C letters ah (ah.length:Int)) 0).bind (cf (fun (xm:Bool)=>
       some [.bool xm]) (un fun (JN:Int) (ahZ:Bool)=>
       some [.bool true]))
     else
      some [.bool false]
     else
     bif (ak:Int)==8 then
      bif ((ah.length:Int):Int) != 1 then
      some [.bool false]
      else
      (Loop (gC C letters ah (ah.length:Int)) 0).bind (cf (fun (Y1:Bool)=>
       some [.bool Y1]) (un fun (at1:Int) (Y2:Bool)=>
       some [.bool true]))
     else
      some [.bool false]
    else
    bif (ak:Int)==6 then
     bif decide (((ah.length:Int):Int)<2) then
     some [.bool false]
     else
     (Loop (gC C letters ah (ah.length:Int)) 0).bind (cf (fun (Rs:Bool)=>
      some [.bool Rs]) (un fun (JO:Int) (Ru:Bool)=>
      some [.bool true]))
    else
     bif (ak:Int)==7 then
     bif (ak:Int)==7 then
      bif ((ah.length:Int):Int) != 1 then
      some [.bool false]
      else
      (Loop (gC C letters ah (ah.length:Int)) 0).bind (cf (fun (ah0:Bool)=>
       some [.bool ah0]) (un fun (Y3:Int) (DV:Bool)=>
       some [.bool true]))
     else
      some [.bool false]
     else
     bif (ak:Int)==8 then
      bif ((ah.length:Int):Int) != 1 then
      some [.bool false]
      else
      (Loop (gC C letters ah (ah.length:Int)) 0).bind (cf (fun (Y4:Bool)=>
       some [.bool Y4]) (un fun (at2:Int) (Y5:Bool)=>
       some [.bool true]))
     else
      some [.bool false]
  else
   bif (ak:Int)==2 then
   some [.bool (((ah.length:Int):Int)==0)]
   else
   bif (ak:Int)==4 then
    bif (ak:Int)==4 then
    bif decide (((ah.length:Int):Int)<2) then
     some [.bool false]
    else
     (Loop (gC C letters ah (ah.length:Int)) 0).bind (cf (fun (Y6:Bool)=>
      some [.bool Y6]) (un fun (at3:Int) (Y7:Bool)=>
      some [.bool true]))
    else
    bif (ak:Int)==7 then
     bif (ak:Int)==7 then
     bif ((ah.length:Int):Int) != 1 then
      some [.bool false]
     else
      (Loop (gC C letters ah (ah.length:Int)) 0).bind (cf (fun (Rv:Bool)=>
       some [.bool Rv]) (un fun (ah1:Int) (at4:Bool)=>
       some [.bool true]))
     else
     some [.bool false]
    else
     bif (ak:Int)==8 then
     bif ((ah.length:Int):Int) != 1 then
      some [.bool false]
     else
      (Loop (gC C letters ah (ah.length:Int)) 0).bind (cf (fun (JP:Bool)=>
       some [.bool JP]) (un fun (at5:Int) (Y8:Bool)=>
       some [.bool true]))
     else
     some [.bool false]
   else
    bif (ak:Int)==5 then
    bif (ak:Int)==5 then
     bif decide (((ah.length:Int):Int)<2) then
     some [.bool false]
     else
     (Loop (gC C letters ah (ah.length:Int)) 0).bind (cf (fun (Y9:Bool)=>
      some [.bool Y9]) (un fun (at6:Int) (at7:Bool)=>
      some [.bool true]))
    else
     bif (ak:Int)==7 then
     bif (ak:Int)==7 then
      bif ((ah.length:Int):Int) != 1 then
      some [.bool false]
      else
      (Loop (gC C letters ah (ah.length:Int)) 0).bind (cf (fun (Rw:Bool)=>
       some [.bool Rw]) (un fun (ah2:Int) (aua:Bool)=>
       some [.bool true]))
     else
      some [.bool false]
     else
     bif (ak:Int)==8 then
      bif ((ah.length:Int):Int) != 1 then
      some [.bool false]
      else
      (Loop (gC C letters ah (ah.length:Int)) 0).bind (cf (fun (ah3:Bool)=>
       some [.bool ah3]) (un fun (ah4:Int) (aub:Bool)=>
       some [.bool true]))
     else
      some [.bool false]
    else
    bif (ak:Int)==6 then
     bif decide (((ah.length:Int):Int)<2) then
     some [.bool false]
     else
     (Loop (gC C letters ah (ah.length:Int)) 0).bind (cf (fun (Rx:Bool)=>
      some [.bool Rx]) (un fun (ah5:Int) (ah6:Bool)=>
      some [.bool true]))
    else
     bif (ak:Int)==7 then
     bif (ak:Int)==7 then
      bif ((ah.length:Int):Int) != 1 then
      some [.bool false]
      else
      (Loop (gC C letters ah (ah.length:Int)) 0).bind (cf (fun (ah7:Bool)=>
       some [.bool ah7]) (un fun (auc:Int) (aud:Bool)=>
       some [.bool true]))
     else
      some [.bool false]
     else
     bif (ak:Int)==8 then
      bif ((ah.length:Int):Int) != 1 then
      some [.bool false]
      else
      (Loop (gC C letters ah (ah.length:Int)) 0).bind (cf (fun (Za:Bool)=>
       some [.bool Za]) (un fun (ah8:Int) (aue:Bool)=>
       some [.bool true]))
     else
      some [.bool false]
theorem ah9 {ak ay:Int} {ah:LV} {letters:Int} {r:Option LV} (h:Y0 CC ak ay ah letters=r):CC Ap [V.int .i64 ak,V.int .i64 ay,.list ag ah,V.int .i64 letters]=r:=aV (aZ (ahY CC) ar) h
noncomputable def Zb (C:ae) (ak ay:Int) (ah:LV) (letters:Int):Option LV:=
 (C Ai [V.int .i64 letters]).bind fun r1=>
 bif !((V.nth r1 0).toBool) then
  some [V.int .i64 1]
 else
  (C I0 [V.int .i64 ak,V.int .i64 ay,.list ag ah]).bind fun r2=>
  bif !((V.nth r2 0).toBool) then
  some [V.int .i64 3]
  else
  (C Aj [V.int .i64 ak,V.int .i64 ay,.list ag ah,V.int .i64 letters]).bind fun r3=>
  bif !((V.nth r3 0).toBool) then
   some [V.int .i64 4]
  else
   some [V.int .i64 0]
theorem aia {ak ay:Int} {ah:LV} {letters:Int} {r:Option LV} (h:Zb CC ak ay ah letters=r):CC IV [V.int .i64 ak,V.int .i64 ay,.list ag ah,V.int .i64 letters]=r:=aV (L:=aW) ar h
noncomputable def Zc (C:ae) (ak ay:Int) (ah:LV):Option LV:=
 (C w7 [V.int .i64 ak,V.int .i64 ay,.list ag ah,V.int .i64 400]).bind fun r1=>
 bif decide ((((V.nth r1 0).toInt):Int)≤400) then
  some [.bool (decide ((((V.nth (r1.drop 1) 0).toInt):Int)≤40))]
 else
  some [.bool false]
theorem aib {ak ay:Int} {ah:LV} {r:Option LV} (h:Zc CC ak ay ah=r):CC I0 [V.int .i64 ak,V.int .i64 ay,.list ag ah]=r:=aV (L:=aW) ar h
noncomputable def AH (C:ae) (dD k9 jz:Int) (ik:LV) (n deep i:Int) {β:Type} (kn:(Int × Int × Int)→Option β) (kr:(Int × Int × Int × Bool)→Option β):Option β:=
 bif decide ((i:Int)<(ik.length:Int)) then
  bif decide ((n:Int)≤dD) then
  (idx ik i).bind fun x1=>
  (C w7 [V.int .i64 ((x1.cell 0).toInt),V.int .i64 ((x1.cell 1).toInt),.list ag ((x1.cell 2).toList),V.int .i64 dD]).bind fun r2=>
  kn (if (IntKind.wrap .i64 (dD+1))<(IntKind.wrap .i64 (n+((V.nth r2 0).toInt))) then (IntKind.wrap .i64 (dD+1)) else (IntKind.wrap .i64 (n+((V.nth r2 0).toInt))),if ((V.nth (r2.drop 1) 0).toInt)>deep then ((V.nth (r2.drop 1) 0).toInt) else deep,IntKind.wrap .i64 (i+1))
  else
  kr (n,deep,i,decide ((n:Int)≤dD))
 else
  kr (n,deep,i,false)
noncomputable def AI (C:ae) (dD k9 jz:Int) (ik:LV):=un fun n=>un fun deep i=>AH C dD k9 jz ik n deep i (fun y=>some (Sum.inl y)) (fun r=>some (Sum.inr r))
noncomputable def aic (C:ae):bI:=bu 49 Pk [false,true,true,true,false,false,false] [[1,0,0,0,0,5,6,7]] (@AH C) aW
theorem aid (C:ae):ba C (aic C) 22 (Lp [1,1,0,1,0,0] 22):=bt Pk [false,true,true,true,false,false,false] [[1,0,0,0,0,5,6,7]] (@AH C) (aK ar)
noncomputable def Zd (C:ae) (ak ay:Int) (ah:LV) (dD:Int):Option LV:=
 (Loop (AI C dD ak ay ah) (1,0,0)).bind (un fun (jA:Int)=>un fun (aie:Int)=>un fun (cD:Int) (qf:Bool)=>
  some [V.int .i64 jA,V.int .i64 (IntKind.wrap .i64 (aie+1))])
theorem aif {ak ay:Int} {ah:LV} {dD:Int} {r:Option LV} (h:Zd CC ak ay ah dD=r):CC w7 [V.int .i64 ak,V.int .i64 ay,.list ag ah,V.int .i64 dD]=r:=aV (aZ (aid CC) ar) h
noncomputable def dI (C:ae) (letters k':Int) (ok t39:Bool) (k9 jz:Int) (ik:LV) {β:Type} (kr:(Bool)→Option β):Option β:=
 bif t39 then
  bif ok then
  bif decide ((jz:Int)≥0) then
   kr (decide ((jz:Int)<letters))
  else
   kr false
  else
  kr false
 else
  bif ok then
  kr ((jz:Int)==0)
  else
  kr false
noncomputable def AJ (C:ae) (letters k' k9 jz:Int) (ik:LV) (ok:Bool) (i:Int) {β:Type} (kn:(Bool × Int)→Option β) (kr:(Bool × Int × Bool)→Option β):Option β:=
 bif decide ((i:Int)<k') then
  bif ok then
  (idx ik i).bind fun x2=>
  (C Aj [V.int .i64 ((x2.cell 0).toInt),V.int .i64 ((x2.cell 1).toInt),.list ag ((x2.cell 2).toList),V.int .i64 letters]).bind fun r3=>
  kn ((V.nth r3 0).toBool,IntKind.wrap .i64 (i+1))
  else
  kr (ok,i,ok)
 else
  kr (ok,i,false)
noncomputable def dz (C:ae) (letters k' k9 jz:Int) (ik:LV):=un fun ok i=>AJ C letters k' k9 jz ik ok i (fun y=>some (Sum.inl y)) (fun r=>some (Sum.inr r))
noncomputable def Ze (C:ae):bI:=gR 639 Ph [[1,2,0,5,6,7]] (@dI C) (bu 257 Pj [false,false,true,true,false,false,false] [[1,2,0,0,0,5,6,7]] (@AJ C) aW)
theorem aih (C:ae):ba C (Ze C) 21 (Cd 39 [1,1,1,1,0,1,0] [1,1,1,1,0,1,1] 21):=gQ Ph [[1,2,0,5,6,7]] (@dI C) (aK ar) (aK ar)
theorem aii (C:ae):ba C (Ze C) 21 (Lp [1,1,1,1,1,0,1,0,0] 21):=bt Pj [false,false,true,true,false,false,false] [[1,2,0,0,0,5,6,7]] (@AJ C) (aK ar)
noncomputable def Zf (C:ae) (ak ay:Int) (ah:LV) (letters:Int):Option LV:=
 bif decide ((ak:Int)≥1) then
  bif (ak:Int)==1 then
  bif (ak:Int)==1 then
   dI C letters (ah.length:Int) (((ah.length:Int):Int)==0) ((ak:Int)==3) ak ay ah (fun (aij:Bool)=>
    (Loop (dz C letters (ah.length:Int) ak ay ah) (aij,0)).bind (un fun (aik:Bool)=>un fun (cD:Int) (qf:Bool)=>
     some [.bool aik]))
  else
   bif (ak:Int)==7 then
   bif (ak:Int)==7 then
    dI C letters (ah.length:Int) (((ah.length:Int):Int)==1) ((ak:Int)==3) ak ay ah (fun (ail:Bool)=>
     (Loop (dz C letters (ah.length:Int) ak ay ah) (ail,0)).bind (un fun (aim:Bool)=>un fun (i_9:Int) (xl:Bool)=>
      some [.bool aim]))
   else
    bif decide ((ak:Int)≤8) then
    dI C letters (ah.length:Int) (decide (((ah.length:Int):Int)≥2)) ((ak:Int)==3) ak ay ah (fun (ain:Bool)=>
     (Loop (dz C letters (ah.length:Int) ak ay ah) (ain,0)).bind (un fun (aio:Bool)=>un fun (auf:Int) (DU:Bool)=>
      some [.bool aio]))
    else
    dI C letters (ah.length:Int) false ((ak:Int)==3) ak ay ah (fun (aip:Bool)=>
     (Loop (dz C letters (ah.length:Int) ak ay ah) (aip,0)).bind (un fun (aiq:Bool)=>un fun (aug:Int) (Y1:Bool)=>
      some [.bool aiq]))
   else
   bif (ak:Int)==8 then
    dI C letters (ah.length:Int) (((ah.length:Int):Int)==1) ((ak:Int)==3) ak ay ah (fun (air:Bool)=>
     (Loop (dz C letters (ah.length:Int) ak ay ah) (air,0)).bind (un fun (ais:Bool)=>un fun (auh:Int) (JO:Bool)=>
      some [.bool ais]))
   else
    bif decide ((ak:Int)≤8) then
    dI C letters (ah.length:Int) (decide (((ah.length:Int):Int)≥2)) ((ak:Int)==3) ak ay ah (fun (ait:Bool)=>
     (Loop (dz C letters (ah.length:Int) ak ay ah) (ait,0)).bind (un fun (aiu:Bool)=>un fun (aui:Int) (DV:Bool)=>
      some [.bool aiu]))
    else
    dI C letters (ah.length:Int) false ((ak:Int)==3) ak ay ah (fun (aiv:Bool)=>
     (Loop (dz C letters (ah.length:Int) ak ay ah) (aiv,0)).bind (un fun (aiw:Bool)=>un fun (auj:Int) (Y6:Bool)=>
      some [.bool aiw]))
  else
  bif (ak:Int)==2 then
   bif (ak:Int)==2 then
   dI C letters (ah.length:Int) (((ah.length:Int):Int)==0) ((ak:Int)==3) ak ay ah (fun (aix:Bool)=>
    (Loop (dz C letters (ah.length:Int) ak ay ah) (aix,0)).bind (un fun (aiy:Bool)=>un fun (auk:Int) (ah1:Bool)=>
     some [.bool aiy]))
   else
   bif (ak:Int)==7 then
    bif (ak:Int)==7 then
    dI C letters (ah.length:Int) (((ah.length:Int):Int)==1) ((ak:Int)==3) ak ay ah (fun (aiz:Bool)=>
     (Loop (dz C letters (ah.length:Int) ak ay ah) (aiz,0)).bind (un fun (aiA:Bool)=>un fun (aiB:Int) (Y8:Bool)=>
      some [.bool aiA]))
    else
    bif decide ((ak:Int)≤8) then
     dI C letters (ah.length:Int) (decide (((ah.length:Int):Int)≥2)) ((ak:Int)==3) ak ay ah (fun (aiC:Bool)=>
      (Loop (dz C letters (ah.length:Int) ak ay ah) (aiC,0)).bind (un fun (aiD:Bool)=>un fun (aul:Int) (Rw:Bool)=>
       some [.bool aiD]))
    else
     dI C letters (ah.length:Int) false ((ak:Int)==3) ak ay ah (fun (aiE:Bool)=>
      (Loop (dz C letters (ah.length:Int) ak ay ah) (aiE,0)).bind (un fun (aiF:Bool)=>un fun (aum:Int) (ah4:Bool)=>
       some [.bool aiF]))
   else
    bif (ak:Int)==8 then
    dI C letters (ah.length:Int) (((ah.length:Int):Int)==1) ((ak:Int)==3) ak ay ah (fun (aiG:Bool)=>
     (Loop (dz C letters (ah.length:Int) ak ay ah) (aiG,0)).bind (un fun (aiH:Bool)=>un fun (aun:Int) (ah6:Bool)=>
      some [.bool aiH]))
    else
    bif decide ((ak:Int)≤8) then
     dI C letters (ah.length:Int) (decide (((ah.length:Int):Int)≥2)) ((ak:Int)==3) ak ay ah (fun (aiI:Bool)=>
      (Loop (dz C letters (ah.length:Int) ak ay ah) (aiI,0)).bind (un fun (aiJ:Bool)=>un fun (auo:Int) (Za:Bool)=>
       some [.bool aiJ]))
    else
     dI C letters (ah.length:Int) false ((ak:Int)==3) ak ay ah (fun (aiK:Bool)=>
      (Loop (dz C letters (ah.length:Int) ak ay ah) (aiK,0)).bind (un fun (aiL:Bool)=>un fun (aup:Int) (auq:Bool)=>
       some [.bool aiL]))
  else
   bif (ak:Int)==3 then
   dI C letters (ah.length:Int) (((ah.length:Int):Int)==0) ((ak:Int)==3) ak ay ah (fun (aiM:Bool)=>
    (Loop (dz C letters (ah.length:Int) ak ay ah) (aiM,0)).bind (un fun (aiN:Bool)=>un fun (aur:Int) (aus:Bool)=>
     some [.bool aiN]))
   else
   bif (ak:Int)==7 then
    bif (ak:Int)==7 then
    dI C letters (ah.length:Int) (((ah.length:Int):Int)==1) ((ak:Int)==3) ak ay ah (fun (aiO:Bool)=>
     (Loop (dz C letters (ah.length:Int) ak ay ah) (aiO,0)).bind (un fun (aiP:Bool)=>un fun (aut:Int) (auu:Bool)=>
      some [.bool aiP]))
    else
    bif decide ((ak:Int)≤8) then
     dI C letters (ah.length:Int) (decide (((ah.length:Int):Int)≥2)) ((ak:Int)==3) ak ay ah (fun (aiQ:Bool)=>
      (Loop (dz C letters (ah.length:Int) ak ay ah) (aiQ,0)).bind (un fun (aiR:Bool)=>un fun (auv:Int) (auw:Bool)=>
       some [.bool aiR]))
    else
     dI C letters (ah.length:Int) false ((ak:Int)==3) ak ay ah (fun (aiS:Bool)=>
      (Loop (dz C letters (ah.length:Int) ak ay ah) (aiS,0)).bind (un fun (aiT:Bool)=>un fun (auy:Int) (auz:Bool)=>
       some [.bool aiT]))
   else
    bif (ak:Int)==8 then
    dI C letters (ah.length:Int) (((ah.length:Int):Int)==1) ((ak:Int)==3) ak ay ah (fun (aiU:Bool)=>
     (Loop (dz C letters (ah.length:Int) ak ay ah) (aiU,0)).bind (un fun (aiV:Bool)=>un fun (auA:Int) (auB:Bool)=>
      some [.bool aiV]))
    else
    bif decide ((ak:Int)≤8) then
     dI C letters (ah.length:Int) (decide (((ah.length:Int):Int)≥2)) ((ak:Int)==3) ak ay ah (fun (aiW:Bool)=>
      (Loop (dz C letters (ah.length:Int) ak ay ah) (aiW,0)).bind (un fun (aiX:Bool)=>un fun (auC:Int) (auD:Bool)=>
       some [.bool aiX]))
    else
     dI C letters (ah.length:Int) false ((ak:Int)==3) ak ay ah (fun (aiY:Bool)=>
      (Loop (dz C letters (ah.length:Int) ak ay ah) (aiY,0)).bind (un fun (aiZ:Bool)=>un fun (auE:Int) (auF:Bool)=>
       some [.bool aiZ]))
 else
  bif (ak:Int)==1 then
  bif (ak:Int)==1 then
   dI C letters (ah.length:Int) (((ah.length:Int):Int)==0) ((ak:Int)==3) ak ay ah (fun (ai0:Bool)=>
    (Loop (dz C letters (ah.length:Int) ak ay ah) (ai0,0)).bind (un fun (ai1:Bool)=>un fun (auG:Int) (auH:Bool)=>
     some [.bool ai1]))
  else
   bif (ak:Int)==7 then
   bif (ak:Int)==7 then
    dI C letters (ah.length:Int) (((ah.length:Int):Int)==1) ((ak:Int)==3) ak ay ah (fun (ai2:Bool)=>
     (Loop (dz C letters (ah.length:Int) ak ay ah) (ai2,0)).bind (un fun (ai3:Bool)=>un fun (auI:Int) (auJ:Bool)=>
      some [.bool ai3]))
   else
    dI C letters (ah.length:Int) false ((ak:Int)==3) ak ay ah (fun (ai4:Bool)=>
     (Loop (dz C letters (ah.length:Int) ak ay ah) (ai4,0)).bind (un fun (ai5:Bool)=>un fun (auK:Int) (auL:Bool)=>
      some [.bool ai5]))
   else
   bif (ak:Int)==8 then
    dI C letters (ah.length:Int) (((ah.length:Int):Int)==1) ((ak:Int)==3) ak ay ah (fun (ai6:Bool)=>
     (Loop (dz C letters (ah.length:Int) ak ay ah) (ai6,0)).bind (un fun (ai7:Bool)=>un fun (auM:Int) (auN:Bool)=>
      some [.bool ai7]))
   else
    dI C letters (ah.length:Int) false ((ak:Int)==3) ak ay ah (fun (ai8:Bool)=>
     (Loop (dz C letters (ah.length:Int) ak ay ah) (ai8,0)).bind (un fun (ai9:Bool)=>un fun (auO:Int) (auP:Bool)=>
      some [.bool ai9]))
  else
  bif (ak:Int)==2 then
   bif (ak:Int)==2 then
   dI C letters (ah.length:Int) (((ah.length:Int):Int)==0) ((ak:Int)==3) ak ay ah (fun (aja:Bool)=>
    (Loop (dz C letters (ah.length:Int) ak ay ah) (aja,0)).bind (un fun (ajb:Bool)=>un fun (auQ:Int) (auR:Bool)=>
     some [.bool ajb]))
   else
   bif (ak:Int)==7 then
    bif (ak:Int)==7 then
    dI C letters (ah.length:Int) (((ah.length:Int):Int)==1) ((ak:Int)==3) ak ay ah (fun (ajc:Bool)=>
     (Loop (dz C letters (ah.length:Int) ak ay ah) (ajc,0)).bind (un fun (ajd:Bool)=>un fun (auS:Int) (auT:Bool)=>
      some [.bool ajd]))
    else
    dI C letters (ah.length:Int) false ((ak:Int)==3) ak ay ah (fun (aje:Bool)=>
     (Loop (dz C letters (ah.length:Int) ak ay ah) (aje,0)).bind (un fun (ajf:Bool)=>un fun (auU:Int) (auV:Bool)=>
      some [.bool ajf]))
   else
    bif (ak:Int)==8 then
    dI C letters (ah.length:Int) (((ah.length:Int):Int)==1) ((ak:Int)==3) ak ay ah (fun (ajg:Bool)=>
     (Loop (dz C letters (ah.length:Int) ak ay ah) (ajg,0)).bind (un fun (ajh:Bool)=>un fun (auW:Int) (auX:Bool)=>
      some [.bool ajh]))
    else
    dI C letters (ah.length:Int) false ((ak:Int)==3) ak ay ah (fun (aji:Bool)=>
     (Loop (dz C letters (ah.length:Int) ak ay ah) (aji,0)).bind (un fun (ajj:Bool)=>un fun (auY:Int) (auZ:Bool)=>
      some [.bool ajj]))
  else
   bif (ak:Int)==3 then
   dI C letters (ah.length:Int) (((ah.length:Int):Int)==0) ((ak:Int)==3) ak ay ah (fun (ajk:Bool)=>
    (Loop (dz C letters (ah.length:Int) ak ay ah) (ajk,0)).bind (un fun (ajl:Bool)=>un fun (au0:Int) (au1:Bool)=>
     some [.bool ajl]))
   else
   bif (ak:Int)==7 then
    bif (ak:Int)==7 then
    dI C letters (ah.length:Int) (((ah.length:Int):Int)==1) ((ak:Int)==3) ak ay ah (fun (ajm:Bool)=>
     (Loop (dz C letters (ah.length:Int) ak ay ah) (ajm,0)).bind (un fun (ajn:Bool)=>un fun (au2:Int) (au3:Bool)=>
      some [.bool ajn]))
    else
    dI C letters (ah.length:Int) false ((ak:Int)==3) ak ay ah (fun (ajo:Bool)=>
     (Loop (dz C letters (ah.length:Int) ak ay ah) (ajo,0)).bind (un fun (ajp:Bool)=>un fun (au4:Int) (au5:Bool)=>
      some [.bool ajp]))
   else
    bif (ak:Int)==8 then
    dI C letters (ah.length:Int) (((ah.length:Int):Int)==1) ((ak:Int)==3) ak ay ah (fun (ajq:Bool)=>
     (Loop (dz C letters (ah.length:Int) ak ay ah) (ajq,0)).bind (un fun (ajr:Bool)=>un fun (au6:Int) (au7:Bool)=>
      some [.bool ajr]))
    else
    dI C letters (ah.length:Int) false ((ak:Int)==3) ak ay ah (fun (ajs:Bool)=>
     (Loop (dz C letters (ah.length:Int) ak ay ah) (ajs,0)).bind (un fun (ajt:Bool)=>un fun (au8:Int) (au9:Bool)=>
      some [.bool ajt]))
theorem aju {ak ay:Int} {ah:LV} {letters:Int} {r:Option LV} (h:Zf CC ak ay ah letters=r):CC Aj [V.int .i64 ak,V.int .i64 ay,.list ag ah,V.int .i64 letters]=r:=aV (aZ (aih CC) (aZ (aii CC) ar)) h
noncomputable def Ry (C:ae) (letters:Int):Option LV:=
 bif decide ((letters:Int)≥1) then
  some [.bool (decide ((letters:Int)≤6))]
 else
  some [.bool false]
theorem Zg {letters:Int} {r:Option LV} (h:Ry CC letters=r):CC Ai [V.int .i64 letters]=r:=aV (L:=aW) ar h
end Go.AM
set_option maxRecDepth 100000
namespace Go.AM
open Go.Proofs Ex
theorem il (pre aC:List Ex) (k:Ex):idx ((pre++k::aC).map enc) (pre.length:Int)=some k.enc:=by
 rw[lP];simp
theorem bW (k:Ex):(k.enc.cell 0).toInt=k.op:=by rw[ja];simp
theorem bX (k:Ex):(k.enc.cell 1).toInt=k.letter:=by rw[ja];simp
theorem bY (k:Ex):(k.enc.cell 2).toList=k.kids.map enc:=by rw[ja];simp
theorem ajv {ks:List Ex} (hlen:ks.length≤maxLen) {d:Int} (hd:0≤d∧d≤1000) (ih: ∀k∈ks,∀d l:Int,0≤d→d≤1000→0≤l→l≤1000→∃l',CC Ar (cJ k [.int .i64 d,.int .i64 l])=some [.bool (decide ((k.depth:Int)≤d∧(k.size:Int)≤l)),.int .i64 l']∧0≤l'∧l'≤l∧(((k.depth:Int)≤d∧(k.size:Int)≤l)→l'=l-k.size)):
  ∀(aC pre:List Ex) (l:Int),ks=pre++aC→0≤l→l≤1000→1≤d→
  (∃l':Int,Loop (xk CC d (ks.map enc) ((ks.map enc).length:Int)) (((pre.length:Nat):Int),l)=some (.inl (false,l'))∧¬((lS aC:Int)≤d-1∧(aL aC:Int)≤l)∧0≤l'∧l'≤l)∨
  (∃i b,Loop (xk CC d (ks.map enc) ((ks.map enc).length:Int)) (((pre.length:Nat):Int),l)=some (.inr (i,b,l-aL aC))∧((lS aC:Int)≤d-1∧(aL aC:Int)≤l)):=by
 intro aC
 induction aC with
 | nil=>
  intro pre l bD h0 h1 Ip
  subst bD
  refine .inr ⟨((pre.length:Nat):Int),false,?_,?_⟩
  ·have hz:l-((aL ([]:List Ex):Nat):Int)=l:=by simp only[aL];omega
   rw[hz]
   refine br ?_
   simp only[xk,AF,un,di,bc,au]
   rw[aD]
   simp
  ·simp only[lS,aL];omega
 | cons k aC mD=>
  intro pre l bD h0 h1 Ip
  obtain ⟨l',e1,e2,e3,e4⟩:=ih k (by rw[bD];simp) (d-1) l (by omega) (by omega) h0 h1
  have ct:pre.length<ks.length:=by rw[bD];simp
  have:=lR
  have c8:idx (ks.map enc) (pre.length:Int)=some k.enc:=by rw[bD];exact il _ _ _
  by_cases hk:(k.depth:Int)≤d-1∧(k.size:Int)≤l
  ·have gv:xk CC d (ks.map enc) ((ks.map enc).length:Int) (((pre.length:Nat):Int),l)=some (.inl ((((pre++[k]).length:Nat):Int),l')):=by
    simp only[xk,AF,un,bc,au]
    rw[aF,c8]
    simp only[Option.bind_some,bW,bX,bY]
    rw[bB,e1]
    simp only[Option.bind_some,V.az,V.cm,dV hk,pC,cond_false,dx,dk,V.toInt_int]
    rw[bB]
    simp
   rw[bS gv]
   have e5:=e4 hk
   rcases mD (pre++[k]) l' (by rw[bD];simp) e2 (by omega) Ip with ⟨l2,q1,q2,q3,q4⟩|⟨i,b,q1,q2⟩
   ·refine .inl ⟨l2,q1,?_,q3,by omega⟩
    simp only[lS,aL];omega
   ·refine .inr ⟨i,b,q1.trans ?_,?_⟩
    ·simp only[aL]
     congr 4
     omega
    ·simp only[lS,aL];omega
  ·refine .inl ⟨l',br ?_,?_,e2,e3⟩
   ·simp only[xk,AF,un,bc,au]
    rw[aF,c8]
    simp only[Option.bind_some,bW,bX,bY]
    rw[bB,e1]
    simp only[Option.bind_some,V.az,V.cm,eB hk,sj,cond_true,dx,dk,V.toInt_int]
   ·simp only[lS,aL];omega
theorem ajw: ∀e:Ex,e.Ok→∀d l:Int,0≤d→d≤1000→0≤l→l≤1000→
  ∃l',CC Ar (cJ e [.int .i64 d,.int .i64 l])=some [.bool (decide ((e.depth:Int)≤d∧(e.size:Int)≤l)),.int .i64 l']∧0≤l'∧l'≤l∧(((e.depth:Int)≤d∧(e.size:Int)≤l)→l'=l-e.size):=
 ind fun o lt ks ih aw d l h1 h2 h3 h4=>by
  have jR: ∀k∈ks,_:=fun k hk=>ih k hk (aw.iJ k hk)
  have hs: ∀e:Ex,e= .node o lt ks→e.size=1+aL ks∧e.depth=1+lS ks:=by rintro e rfl;constructor<;>simp only[size,depth]
  obtain ⟨s1,s2⟩:=hs _ rfl
  by_cases hd:d=0
  ·have hn: ¬(((Ex.node o lt ks).depth:Int)≤d∧((Ex.node o lt ks).size:Int)≤l):=by omega
   refine ⟨l,JM ?_,h3,Int.le_refl _,fun h=>absurd h hn⟩
   simp only[DS,dv,ai hd,eB hn]
  ·by_cases hl:l=0
   ·have hn: ¬(((Ex.node o lt ks).depth:Int)≤d∧((Ex.node o lt ks).size:Int)≤l):=by omega
    refine ⟨l,JM ?_,h3,Int.le_refl _,fun h=>absurd h hn⟩
    simp only[DS,dv,aj hd,ai hl,eB hn]
   ·rcases ajv aw.len ⟨h1,h2⟩ jR ks [] (l-1) rfl (by omega) (by omega) (by omega) with ⟨l',q1,q2,q3,q4⟩|⟨i,b,q1,q2⟩
    ·have hn: ¬(((Ex.node o lt ks).depth:Int)≤d∧((Ex.node o lt ks).size:Int)≤l):=by omega
     refine ⟨l',JM ?_,q3,by omega,fun h=>absurd h hn⟩
     simp only[DS,dv,aj hd,aj hl,eB hn,Ex.kids]
     rw[bB]
     simp only[List.length_nil,Int.ofNat_zero,Int.natCast_zero] at q1
     erw [q1]
     rfl
    ·have hn:(((Ex.node o lt ks).depth:Int)≤d∧((Ex.node o lt ks).size:Int)≤l):=by omega
     refine ⟨l-1-aL ks,JM ?_,by omega,by omega,fun _=>by omega⟩
     simp only[DS,dv,aj hd,aj hl,dV hn,Ex.kids]
     rw[bB]
     simp only[List.length_nil,Int.ofNat_zero,Int.natCast_zero] at q1
     erw [q1]
     rfl
theorem ajx (e:Ex) (h:e.Ok):CC I7 (cJ e [])=some [.bool (decide (e.depth≤40∧e.size≤400))]:=by
 obtain ⟨l',e1,_⟩:=ajw e h 40 400 (by omega) (by omega) (by omega) (by omega)
 refine ahT ?_
 simp only[YZ]
 rw[e1]
 simp only[Option.bind_some,V.az,V.cm]
 congr 3
 rw[BX]
 omega
theorem ajy {ks:List Ex} (hlen:ks.length≤maxLen) {a b dD:Int} (hm:1≤dD∧dD≤1000) (ih: ∀k∈ks,∃d,CC w7 (cJ k [.int .i64 dD])=some [.int .i64 (min (k.size:Int) (dD+1)),.int .i64 d]∧((k.size:Int)≤dD→d=k.depth)):
  ∀(aC pre:List Ex) (n deep:Int),ks=pre++aC→1≤n→n≤dD+1→0≤deep→
  ∃AK i b',Loop (AI CC dD a b (ks.map enc)) (n,deep,((pre.length:Nat):Int))=some (min (n+(aL aC:Int)) (dD+1),AK,i,b')∧(n+(aL aC:Int)≤dD→AK=max deep (lS aC)):=by
 intro aC
 induction aC with
 | nil=>
  intro pre n deep bD h0 h1 hdp
  subst bD
  refine ⟨deep,((pre.length:Nat):Int),false,?_,fun _=> ?_⟩
  ·have hz:min (n+((aL ([]:List Ex):Nat):Int)) (dD+1)=n:=by simp only[aL];omega
   rw[hz]
   refine br ?_
   simp only[AI,AH,un,di,bc,au]
   rw[aD]
  ·simp only[lS];omega
 | cons k aC mD=>
  intro pre n deep bD h0 h1 hdp
  have ct:pre.length<ks.length:=by rw[bD];simp
  have:=lR
  have c8:idx (ks.map enc) (pre.length:Int)=some k.enc:=by rw[bD];exact il _ _ _
  have Rz:=size_pos k
  by_cases hn:n≤dD
  ·obtain ⟨d,e1,e2⟩:=ih k (by rw[bD];simp)
   have gv: ∃dd,AI CC dD a b (ks.map enc) (n,deep,((pre.length:Nat):Int))=some (.inl (min (n+(k.size:Int)) (dD+1),dd,(((pre++[k]).length:Nat):Int)))∧dd=max deep d:=by
    refine ⟨max deep d,?_,rfl⟩
    simp only[AI,AH,un,bc,au]
    rw[aF,ai hn,c8]
    simp only[Option.bind_some,bW,bX,bY]
    rw[e1]
    simp only[Option.bind_some,V.az,dx,dk,V.toInt_int]
    rw[bB,bB,bB]
    have r1:(if dD+1<n+min (k.size:Int) (dD+1) then dD+1 else n+min (k.size:Int) (dD+1))=min (n+(k.size:Int)) (dD+1):=by split<;>omega
    have r2:(if d>deep then d else deep)=max deep d:=by split<;>omega
    rw[r1,r2]
    simp
   obtain ⟨dd,jO,rfl⟩:=gv
   rw[bS jO]
   obtain ⟨AK,i,b',q1,q2⟩:=mD (pre++[k]) (min (n+(k.size:Int)) (dD+1)) (max deep d) (by rw[bD];simp) (by omega) (by omega) (by omega)
   refine ⟨AK,i,b',q1.trans ?_,fun h=> ?_⟩
   ·simp only[aL]
    congr 2
    omega
   ·simp only[aL] at h
    rw[q2 (by omega),e2 (by omega)]
    simp only[lS]
    omega
  ·refine ⟨deep,((pre.length:Nat):Int),false,?_,fun h=> ?_⟩
   ·have hz:min (n+((aL (k::aC):Nat):Int)) (dD+1)=n:=by simp only[aL];omega
    rw[hz]
    refine br ?_
    simp only[AI,AH,un,bc,au]
    rw[aF,aj hn]
    simp[hn]
   ·omega
theorem Zh: ∀e:Ex,e.Ok→∀dD:Int,1≤dD→dD≤1000→∃d,CC w7 (cJ e [.int .i64 dD])=some [.int .i64 (min (e.size:Int) (dD+1)),.int .i64 d]∧((e.size:Int)≤dD→d=e.depth):=
 ind fun o lt ks ih aw dD h1 h2=>by
  obtain ⟨AK,i,b',q1,q2⟩:=ajy (a:=o) (b:=lt) aw.len ⟨h1,h2⟩ (fun k hk=>ih k hk (aw.iJ k hk) dD h1 h2) ks [] 1 0 rfl (by omega) (by omega) (by omega)
  have s1:(Ex.node o lt ks).size=1+aL ks:=by simp only[size]
  have s2:(Ex.node o lt ks).depth=1+lS ks:=by simp only[depth]
  have s3:=ahR (.node o lt ks)
  refine ⟨IntKind.wrap .i64 (AK+1),aif ?_,fun h=> ?_⟩
  ·simp only[Zd,Ex.kids,Ex.op,Ex.letter]
   simp only[List.length_nil,Int.ofNat_zero,Int.natCast_zero] at q1
   erw [q1]
   simp only[Option.bind_some,un]
   rw[show (1:Int)+(aL ks:Int)=((Ex.node o lt ks).size:Int) by omega]
  ·rw[q2 (by omega),bB]
   omega
def im (o l len letters:Int):Bool:=
 if o=3 then decide (len=0∧0≤l∧l<letters)
 else decide (l=0)&&(if o=1∨o=2 then decide (len=0) else if o=7∨o=8 then decide (len=1) else decide (4≤o∧o≤6∧2≤len))
mutual
def Ex.wf (letters:Int):Ex→Bool
 | .node o l ks=>im o l ks.length letters&&iq letters ks
def Ex.iq (letters:Int):List Ex→Bool
 | []=>true
 | k::ks=>Ex.wf letters k&&iq letters ks
end
theorem ajz {ks:List Ex} (hlen:ks.length≤maxLen) {letters:Int} (ih: ∀k∈ks,CC Ap (cJ k [.int .i64 letters])=some [.bool (k.wf letters)]):
  ∀(aC pre:List Ex),ks=pre++aC→
  (Loop (gC CC letters (ks.map enc) ((ks.map enc).length:Int)) ((pre.length:Nat):Int)=some (.inl false)∧iq letters aC=false)∨
  (∃i b,Loop (gC CC letters (ks.map enc) ((ks.map enc).length:Int)) ((pre.length:Nat):Int)=some (.inr (i,b))∧iq letters aC=true):=by
 intro aC
 induction aC with
 | nil=>
  intro pre bD
  subst bD
  refine .inr ⟨((pre.length:Nat):Int),false,br ?_,by simp only[iq]⟩
  simp only[gC,AG,di,bc,au]
  rw[aD]
  simp
 | cons k aC mD=>
  intro pre bD
  have ct:pre.length<ks.length:=by rw[bD];simp
  have:=lR
  have c8:idx (ks.map enc) (pre.length:Int)=some k.enc:=by rw[bD];exact il _ _ _
  have e1:=ih k (by rw[bD];simp)
  cases hw:k.wf letters with
  | true=>
   have gv:gC CC letters (ks.map enc) ((ks.map enc).length:Int) ((pre.length:Nat):Int)=some (.inl (((pre++[k]).length:Nat):Int)):=by
    simp only[gC,AG,bc,au]
    rw[aF,c8]
    simp only[Option.bind_some,bW,bX,bY]
    rw[e1,hw]
    simp only[Option.bind_some,V.az,V.cm,pC,cond_false]
    rw[bB]
    simp
   rw[bS gv]
   simp only[iq,hw,ki]
   exact mD (pre++[k]) (by rw[bD];simp)
  | false=>
   refine .inl ⟨br ?_,by simp only[iq,hw,yW]⟩
   simp only[gC,AG,bc,au]
   rw[aF,c8]
   simp only[Option.bind_some,bW,bX,bY]
   rw[e1,hw]
   simp only[Option.bind_some,V.az,V.cm,sj,cond_true]
theorem RA (o:Int):o=1∨o=2∨o=3∨o=4∨o=5∨o=6∨o=7∨o=8∨(o<1∨8<o):=by omega
theorem ajA {letters:Int}: ∀e:Ex,e.Ok→CC Ap (cJ e [.int .i64 letters])=some [.bool (e.wf letters)]:=
 ind fun o lt ks ih aw=>by
  refine ah9 ?_
  have hlen:((ks.map enc).length:Int)=(ks.length:Int):=by simp
  have hl:=ajz aw.len (fun k hk=>ih k hk (aw.iJ k hk)) ks [] rfl
  simp only[List.length_nil,Int.natCast_zero,Int.ofNat_zero] at hl
  have gj:(Loop (gC CC letters (ks.map enc) ((ks.map enc).length:Int)) 0).bind (cf (fun (t:Bool)=>some [V.bool t]) (un fun (_:Int) (_:Bool)=>some [V.bool true]))=some [.bool (iq letters ks)]:=by
   rcases hl with ⟨h1,h2⟩|⟨i,b,h1,h2⟩
   ·erw [h1];rw[h2];rfl
   ·erw [h1];rw[h2];rfl
  simp only[Ex.op,Ex.letter,Ex.kids]
  unfold Y0
  rw[gj,hlen]
  simp only[Ex.wf,im]
  have la:ks.length=0→iq letters ks=true:=fun h=>by rw[mY h];simp only[iq]
  rcases RA o with rfl|rfl|rfl|rfl|rfl|rfl|rfl|rfl|ho
  case inr.inr.inr.inr.inr.inr.inr.inr=>
   have n1:o≠1:=by omega
   have n2:o≠2:=by omega
   have n3:o≠3:=by omega
   have n4:o≠4:=by omega
   have n5:o≠5:=by omega
   have n6:o≠6:=by omega
   have n7:o≠7:=by omega
   have n8:o≠8:=by omega
   have n9: ¬(4≤o∧o≤6∧2≤(ks.length:Int)):=by omega
   by_cases aR:lt=0<;>simp[n1,n2,n3,n4,n5,n6,n7,n8,n9,aR]
  all_goals by_cases aR:lt=0<;>by_cases h0:ks.length=0<;>by_cases h1:ks.length=1<;>simp[aR,h0,h1,la]
  all_goals (try omega)
  all_goals (try (split<;>simp_all<;>omega))
theorem ajB {C:ae} {letters k o lt:Int} {ok t:Bool} {es:List V} {β:Type} (kr:Bool→Option β):dI C letters k ok t o lt es kr=kr (ok&&(bif t then decide (0≤lt∧lt<letters) else decide (lt=0))):=by
 unfold dI
 have hb:(lt==0)=decide (lt=0):=by rw[pE];simp
 rw[hb]
 cases t<;>cases ok<;>first|rfl|skip
 by_cases h:0≤lt<;>simp[h]
theorem ajC {ks:List Ex} (hlen:ks.length≤maxLen) {letters o lt:Int} (ih: ∀k∈ks,CC Aj (cJ k [.int .i64 letters])=some [.bool (k.wf letters)]):
  ∀(aC pre:List Ex) (ok:Bool),ks=pre++aC→
  ∃i b,Loop (dz CC letters (ks.length:Int) o lt (ks.map enc)) (ok,((pre.length:Nat):Int))=some (ok&&iq letters aC,i,b):=by
 intro aC
 induction aC with
 | nil=>
  intro pre ok bD
  subst bD
  refine ⟨((pre.length:Nat):Int),false,br ?_⟩
  simp only[dz,AJ,un,di,au]
  rw[aD]
  simp[iq]
 | cons k aC mD=>
  intro pre ok bD
  have ct:pre.length<ks.length:=by rw[bD];simp
  have:=lR
  have c8:idx (ks.map enc) (pre.length:Int)=some k.enc:=by rw[bD];exact il _ _ _
  have e1:=ih k (by rw[bD];simp)
  cases ok with
  | true=>
   have gv:dz CC letters (ks.length:Int) o lt (ks.map enc) (true,((pre.length:Nat):Int))=some (.inl (k.wf letters,(((pre++[k]).length:Nat):Int))):=by
    simp only[dz,AJ,un,au,cond_true]
    rw[aF,c8]
    simp only[Option.bind_some,bW,bX,bY]
    rw[e1]
    simp only[Option.bind_some,V.az,V.cm]
    rw[bB]
    simp
   rw[bS gv]
   simp only[iq,ki]
   exact mD (pre++[k]) _ (by rw[bD];simp)
  | false=>
   refine ⟨((pre.length:Nat):Int),false,br ?_⟩
   simp only[dz,AJ,un,au,cond_false]
   rw[aF]
   simp
theorem ajD {letters:Int}: ∀e:Ex,e.Ok→CC Aj (cJ e [.int .i64 letters])=some [.bool (e.wf letters)]:=
 ind fun o lt ks ih aw=>by
  refine aju ?_
  have hlen:((ks.map enc).length:Int)=(ks.length:Int):=by simp
  have gj: ∀ok:Bool,(Loop (dz CC letters (ks.length:Int) o lt (ks.map enc)) (ok,0)).bind (un fun (ok:Bool)=>un fun (_:Int) (_:Bool)=>some [V.bool ok])=some [.bool (ok&&iq letters ks)]:=by
   intro ok
   obtain ⟨i,b,h⟩:=ajC aw.len (o:=o) (lt:=lt) (fun k hk=>ih k hk (aw.iJ k hk)) ks [] ok rfl
   simp only[List.length_nil,Int.natCast_zero,Int.ofNat_zero] at h
   erw [h];rfl
  simp only[Ex.op,Ex.letter,Ex.kids]
  unfold Zf
  simp only[ajB,hlen,gj]
  simp only[Ex.wf,im]
  have la:ks.length=0→iq letters ks=true:=fun h=>by rw[mY h];simp only[iq]
  rcases RA o with rfl|rfl|rfl|rfl|rfl|rfl|rfl|rfl|ho
  case inr.inr.inr.inr.inr.inr.inr.inr=>
   have n1:o≠1:=by omega
   have n2:o≠2:=by omega
   have n3:o≠3:=by omega
   have n4:o≠4:=by omega
   have n5:o≠5:=by omega
   have n6:o≠6:=by omega
   have n7:o≠7:=by omega
   have n8:o≠8:=by omega
   have n9: ¬(4≤o∧o≤6∧2≤(ks.length:Int)):=by omega
   by_cases h1:1≤o
   ·have h2: ¬o≤8:=by omega
    simp[n1,n2,n3,n4,n5,n6,n7,n8,n9,h1,h2]
   ·simp[n1,n2,n3,n4,n5,n6,n7,n8,n9,h1]
  all_goals by_cases aR:lt=0<;>by_cases h0:ks.length=0<;>by_cases h1:ks.length=1<;>simp[aR,h0,h1,la]
  all_goals (try omega)
  all_goals (try (split<;>simp_all<;>omega))
  all_goals (try (by_cases h5:2≤ks.length<;>simp[h5]))
  all_goals (rw[show ((ks.length:Int)==1)=decide ((ks.length:Int)=1) from by rw[pE];simp])
theorem ajE (letters:Int):CC Ai [.int .i64 letters]=some [.bool (decide (1≤letters∧letters≤6))]:=by
 refine Zg ?_
 unfold Ry
 by_cases h1:1≤letters<;>by_cases h2:letters≤6<;>simp[h1,h2]
theorem ajF (e:Ex) (h:e.Ok):CC I0 (cJ e [])=some [.bool (decide (e.depth≤40∧e.size≤400))]:=by
 obtain ⟨d,e1,e2⟩:=Zh e h 400 (by omega) (by omega)
 refine aib ?_
 unfold Zc
 rw[e1]
 simp only[Option.bind_some,V.az,V.toInt_int,au,dx,dk]
 by_cases hs:e.size≤400
 ·rw[aF,e2 (by omega)]
  congr 3
  rw[BX]
  omega
 ·rw[aD]
  congr 3
  simp[hs]
def Ex.val (e:Ex) (letters:Int):Int:=
 if 1≤letters∧letters≤6 then (if e.depth≤40∧e.size≤400 then (if e.wf letters=true then 0 else 4) else 3) else 1
theorem Zi (e:Ex) (h:e.Ok) (letters:Int):CC DB (cJ e [.int .i64 letters])=some [.int .i64 (e.val letters)]:=by
 refine ahS ?_
 unfold YY Ex.val
 rw[ajx e h,ajA e h]
 by_cases h1:1≤letters
 ·by_cases h2:letters≤6
  ·by_cases h3:e.depth≤40∧e.size≤400
   ·cases h4:e.wf letters<;>simp[h1,h2,h3,show¬letters<1 by omega,show¬6<letters by omega]
   ·simp[h1,h2,h3,show¬letters<1 by omega,show¬6<letters by omega]
  ·simp[h1,h2,show¬letters<1 by omega,show 6<letters by omega]
 ·simp[h1,show letters<1 by omega]
theorem ajG (e:Ex) (h:e.Ok) (letters:Int):CC IV (cJ e [.int .i64 letters])=some [.int .i64 (e.val letters)]:=by
 refine aia ?_
 unfold Zb Ex.val
 rw[ajF e h,ajD e h,ajE]
 by_cases h1:1≤letters∧letters≤6
 ·by_cases h3:e.depth≤40∧e.size≤400
  ·cases h4:e.wf letters<;>simp[h1,h3]
  ·simp[h1,h3]
 ·simp[h1]
end Go.AM
set_option maxRecDepth 100000
namespace Go.AM
open Go.Proofs
noncomputable def Zj (C:ae) (mE mF:Int) (nx:LV) (mG mH:Int) (ny:LV):Option LV:=
 bif (mE:Int) != mG then
  (C rv [V.int .i64 mE,V.int .i64 mG]).bind fun r1=>
  some [V.int .i64 ((V.nth r1 0).toInt)]
 else
  bif (mF:Int) != mH then
  (C rv [V.int .i64 mF,V.int .i64 mH]).bind fun r2=>
  some [V.int .i64 ((V.nth r2 0).toInt)]
  else
  (C I5 [.list ag nx,.list ag ny]).bind fun r3=>
  some [V.int .i64 ((V.nth r3 0).toInt)]
theorem ajH {mE mF:Int} {nx:LV} {mG mH:Int} {ny:LV} {r:Option LV} (h:Zj CC mE mF nx mG mH ny=r):CC bP [V.int .i64 mE,V.int .i64 mF,.list ag nx,V.int .i64 mG,V.int .i64 mH,.list ag ny]=r:=aV (L:=aW) ar h
noncomputable def xn (C:ae) (s1 s2 t11:LV) (t12 t13:Int) {β:Type} (kn:Int→Option β) (kr:((Int) ⊕ (Int × Bool))→Option β):Option β:=
 bif decide ((t13:Int)<t12) then
  (idx t11 t13).bind fun x1=>
  bif decide ((t13:Int)≥(s2.length:Int)) then
  kr (.inl 1)
  else
  (idx s2 t13).bind fun x2=>
  (C bP [V.int .i64 ((x1.cell 0).toInt),V.int .i64 ((x1.cell 1).toInt),.list ag ((x1.cell 2).toList),V.int .i64 ((x2.cell 0).toInt),V.int .i64 ((x2.cell 1).toInt),.list ag ((x2.cell 2).toList)]).bind fun r3=>
  bif (((V.nth r3 0).toInt):Int) != 0 then
   kr (.inl ((V.nth r3 0).toInt))
  else
   kn (IntKind.wrap .i64 (t13+1))
 else
  kr (.inr (t13,decide ((t13:Int)<t12)))
noncomputable def u0 (C:ae) (s1 s2 t11:LV) (t12:Int):=fun t13=>xn C s1 s2 t11 t12 t13 (fun y=>some (Sum.inl y)) (fun r=>some (Sum.inr r))
noncomputable def ajI (C:ae):bI:=bu 33 PI [false,false,false,false,true] [[0],[1,2,3,4,0,0]] (@xn C) aW
theorem ajJ (C:ae):ba C (ajI C) 66 (Lp [1,0,1,0,0] 66):=bt PI [false,false,false,false,true] [[0],[1,2,3,4,0,0]] (@xn C) (aK ar)
noncomputable def Zk (C:ae) (s1 s2:LV):Option LV:=
 (Loop (u0 C s1 s2 s1 (s1.length:Int)) 0).bind (cf (fun (jy:Int)=>
  some [V.int .i64 jy]) (un fun (gB:Int) (qf:Bool)=>
  bif decide (((s1.length:Int):Int)<(s2.length:Int)) then
   some [V.int .i64 (-1)]
  else
   some [V.int .i64 0]))
theorem ajK {s1 s2:LV} {r:Option LV} (h:Zk CC s1 s2=r):CC I5 [.list ag s1,.list ag s2]=r:=aV (aZ (ajJ CC) ar) h
noncomputable def RB (C:ae) (x y:Int):Option LV:=
 (C Aq [V.int .i64 x]).bind fun r1=>
 (C Aq [V.int .i64 y]).bind fun r2=>
 bif (V.nth r1 0).toBool then
  bif (V.nth r2 0).toBool then
  some [V.int .i64 0]
  else
  some [V.int .i64 (-1)]
 else
  bif (V.nth r2 0).toBool then
  some [V.int .i64 1]
  else
  bif decide ((x:Int)<y) then
   some [V.int .i64 (-1)]
  else
   bif decide ((x:Int)>y) then
   some [V.int .i64 1]
   else
   some [V.int .i64 0]
theorem Zl {x y:Int} {r:Option LV} (h:RB CC x y=r):CC rv [V.int .i64 x,V.int .i64 y]=r:=aV (L:=aW) ar h
noncomputable def RC (C:ae) (x:Int):Option LV:=
 some [.bool ((x:Int) != x)]
theorem Zm {x:Int} {r:Option LV} (h:RC CC x=r):CC Aq [V.int .i64 x]=r:=aV (L:=aW) ar h
end Go.AM
set_option maxRecDepth 100000
namespace Go.AM
open Go.Proofs Ex
def jZ (less:Bool):Int:=if less then-1 else 1
mutual
def Ex.cmp:Ex→Ex→Int
 | .node o l ks,e=>if o≠e.op then jZ (decide (o<e.op)) else if l≠e.letter then jZ (decide (l<e.letter)) else fh ks e.kids
def Ex.fh:List Ex→List Ex→Int
 | [],[]=>0
 | [],_::_=> -1
 | _::_,[]=>1
 | k::ks,k'::cQ=>if cmp k k'≠0 then cmp k k' else fh ks cQ
end
theorem AL (o l o' l':Int) (ks cQ:List Ex):cmp (.node o l ks) (.node o' l' cQ)=if o≠o' then jZ (decide (o<o')) else if l≠l' then jZ (decide (l<l')) else fh ks cQ:=by
 rw[cmp];rfl
theorem Zn (b:Bool):jZ b= -1∨jZ b=1:=by cases b<;>simp[jZ]
theorem ajL (ks:List Ex) (ih: ∀k∈ks,cmp k k=0):fh ks ks=0:=by
 induction ks with
 | nil=>simp[fh]
 | cons k ks jN=>simp[fh,ih k (by simp),jN fun k hk=>ih k (by simp[hk])]
theorem DW: ∀e:Ex,cmp e e=0:=ind fun o l ks ih=>by
 rw[AL];simp[ajL ks ih]
theorem Zo {a b:Int} (h:a≠b):jZ (decide (b<a))= -jZ (decide (a<b)):=by
 by_cases h1:a<b
 ·have: ¬b<a:=by omega
  simp[jZ,h1,this]
 ·have:b<a:=by omega
  simp[jZ,h1,this]
theorem ajM (ks:List Ex) (ih: ∀k∈ks,∀e,cmp e k= -cmp k e): ∀cQ,fh cQ ks= -fh ks cQ:=by
 induction ks with
 | nil=>intro cQ;cases cQ<;>simp[fh]
 | cons k ks jN=>
  intro cQ
  cases cQ with
  | nil=>simp[fh]
  | cons k' cQ=>
   simp only[fh,ih k (by simp) k',jN (fun k hk=>ih k (by simp[hk])) cQ]
   by_cases h:cmp k k'=0
   ·simp[h]
   ·have: -cmp k k'≠0:=by omega
    simp[h,this]
theorem u3: ∀e e':Ex,cmp e' e= -cmp e e':=
 ind fun o l ks ih e'=>by
  obtain ⟨o',l',cQ⟩:=e'
  rw[AL,AL]
  by_cases h1:o=o'
  ·subst h1
   by_cases h2:l=l'
   ·subst h2
    simp[ajM ks ih]
   ·have JQ:l'≠l:=fun e=>h2 e.symm
    simp only[ne_eq,pz,ga,h2,JQ,BP,cL];exact Zo h2
  ·have jn:o'≠o:=fun e=>h1 e.symm
   simp only[ne_eq,h1,jn,BP,cL];exact Zo h1
theorem ajN (ks:List Ex) (ih: ∀k∈ks,∀e,cmp k e=0→k=e): ∀cQ,fh ks cQ=0→ks=cQ:=by
 induction ks with
 | nil=>intro cQ h;cases cQ<;>simp[fh] at h⊢
 | cons k ks jN=>
  intro cQ h
  cases cQ with
  | nil=>simp[fh] at h
  | cons k' cQ=>
   simp only[fh] at h
   by_cases h1:cmp k k'=0
   ·rw[ih k (by simp) k' h1,jN (fun k hk=>ih k (by simp[hk])) cQ (by simpa[h1] using h)]
   ·simp[h1] at h
theorem xo: ∀e e':Ex,cmp e e'=0→e=e':=
 ind fun o l ks ih e' h=>by
  obtain ⟨o',l',cQ⟩:=e'
  rw[AL] at h
  have s1:=Zn (decide (o<o'))
  have s2:=Zn (decide (l<l'))
  by_cases h1:o=o'
  ·by_cases h2:l=l'
   ·rw[h1,h2,ajN ks ih cQ (by simpa[h1,h2] using h)]
   ·have bO:jZ (decide (l<l'))≠0:=by omega
    rw[aj (by simp[h1]),ai h2] at h
    exact absurd h bO
  ·have bO:jZ (decide (o<o'))≠0:=by omega
   rw[ai h1] at h
   exact absurd h bO
theorem ajO (a:List Ex) (ih: ∀k∈a,∀b c,cmp k b≤0→cmp b c≤0→cmp k c≤0): ∀b c,fh a b≤0→fh b c≤0→fh a c≤0:=by
 induction a with
 | nil=>intro b c _ _;cases c<;>simp[fh]
 | cons x a jN=>
  intro b c h1 h2
  cases b with
  | nil=>simp[fh] at h1
  | cons y b=>
   cases c with
   | nil=>simp[fh] at h2
   | cons z c=>
    simp only[fh] at h1 h2⊢
    have wW:cmp x y≤0:=by by_cases h:cmp x y=0<;>simp[h] at h1⊢;exact h1
    have hyz:cmp y z≤0:=by by_cases h:cmp y z=0<;>simp[h] at h2⊢;exact h2
    have hxz:=ih x (by simp) y z wW hyz
    by_cases h:cmp x z=0
    ·have:=xo x z h
     subst this
     have h3:=u3 x y
     have h4:cmp x y=0:=by omega
     have h5:cmp y x=0:=by omega
     simp only[h,ne_eq,pz,ga]
     simp only[h4,h5,ne_eq,pz,ga] at h1 h2
     exact jN (fun k hk=>ih k (by simp[hk])) b c h1 h2
    ·simp[h];exact hxz
theorem u4 {x y:Int}:jZ (decide (x<y))≤0↔x<y:=by
 by_cases h:x<y
 ·simp[jZ,h]
 ·simp[jZ,h]
theorem RD: ∀a b c:Ex,cmp a b≤0→cmp b c≤0→cmp a c≤0:=
 ind fun o l ks ih b c h1 h2=>by
  obtain ⟨o',l',cQ⟩:=b
  obtain ⟨RE,sH,ava⟩:=c
  rw[AL] at h1 h2⊢
  by_cases e1:o=o'
  ·subst e1
   by_cases e2:o=RE
   ·subst e2
    simp only[ne_eq,pz,ga] at h1 h2⊢
    by_cases e3:l=l'
    ·subst e3
     by_cases e4:l=sH
     ·subst e4
      simp only[ne_eq,pz,ga] at h1 h2⊢
      exact ajO ks ih _ _ h1 h2
     ·simp only[ne_eq,e4,BP,cL] at h2⊢
      exact h2
    ·rw[ai e3,u4] at h1
     by_cases e5:l'=sH
     ·subst e5
      rw[ai e3,u4]
      exact h1
     ·rw[ai e5,u4] at h2
      rw[ai (show l≠sH by omega),u4]
      omega
   ·simp only[ne_eq,e2,BP,cL] at h2⊢
    exact h2
  ·rw[ai e1,u4] at h1
   by_cases e5:o'=RE
   ·subst e5
    rw[ai e1,u4]
    exact h1
   ·rw[ai e5,u4] at h2
    rw[ai (show o≠RE by omega),u4]
    omega
theorem ajP (x y:Int):CC rv [.int .i64 x,.int .i64 y]=some [.int .i64 (if x<y then-1 else if y<x then 1 else 0)]:=by
 refine Zl ?_
 unfold RB
 have h: ∀z:Int,CC Aq [.int .i64 z]=some [.bool false]:=fun z=>Zm (by simp[RC])
 rw[h,h]
 by_cases h1:x<y
 ·simp[h1]
 ·by_cases h2:y<x
  ·simp[h1,h2]
  ·simp[h1,h2]
theorem Zp {x y:Int} (h:x≠y):CC rv [.int .i64 x,.int .i64 y]=some [.int .i64 (jZ (decide (x<y)))]:=by
 rw[ajP]
 by_cases h1:x<y
 ·simp[jZ,h1]
 ·simp[jZ,h1,show y<x by omega]
theorem ajQ {ks cQ:List Ex} (hlen:ks.length≤maxLen) (ih: ∀k∈ks,∀e:Ex,e.Ok→CC bP (cJ k (cJ e []))=some [.int .i64 (cmp k e)]) (dP: ∀k∈cQ,Ex.Ok k):
  ∀(aC pre tv DX:List Ex),ks=pre++aC→cQ=DX++tv→pre.length=DX.length→
  (∃c,Loop (u0 CC (ks.map enc) (cQ.map enc) (ks.map enc) ((ks.map enc).length:Int)) ((pre.length:Nat):Int)=some (.inl c)∧fh aC tv=c)∨
  (∃i b,Loop (u0 CC (ks.map enc) (cQ.map enc) (ks.map enc) ((ks.map enc).length:Int)) ((pre.length:Nat):Int)=some (.inr (i,b))∧fh aC tv=if ks.length<cQ.length then-1 else 0):=by
 intro aC
 induction aC with
 | nil=>
  intro pre tv DX bD u5 xp
  subst bD
  refine .inr ⟨((pre.length:Nat):Int),false,br ?_,?_⟩
  ·simp only[u0,xn,di,bc,au]
   rw[aD]
   simp
  ·cases tv with
   | nil=>simp[fh,u5,xp]
   | cons a l=>simp[fh,u5,xp]
 | cons k aC mD=>
  intro pre tv DX bD u5 xp
  have ct:pre.length<ks.length:=by rw[bD];simp
  have:=lR
  have c8:idx (ks.map enc) (pre.length:Int)=some k.enc:=by rw[bD];exact il _ _ _
  cases tv with
  | nil=>
   refine .inl ⟨1,br ?_,by simp[fh]⟩
   have hl:cQ.length=pre.length:=by rw[u5,xp];simp
   simp only[u0,xn,bc,au]
   rw[aF,c8]
   simp only[Option.bind_some]
   rw[aF]
  | cons k' tv=>
   have hl:pre.length<cQ.length:=by rw[u5,xp];simp
   have Zq:idx (cQ.map enc) (pre.length:Int)=some k'.enc:=by rw[u5,xp];exact il _ _ _
   have e1:=ih k (by rw[bD];simp) k' (dP k' (by rw[u5];simp))
   by_cases hc:cmp k k'=0
   ·have gv:u0 CC (ks.map enc) (cQ.map enc) (ks.map enc) ((ks.map enc).length:Int) ((pre.length:Nat):Int)=some (.inl (((pre++[k]).length:Nat):Int)):=by
     simp only[u0,xn,bc,au]
     rw[aF,c8]
     simp only[Option.bind_some]
     rw[aD,Zq]
     simp only[Option.bind_some,bW,bX,bY]
     rw[e1,hc]
     simp only[Option.bind_some,V.az,V.toInt_int,fx,cL]
     rw[bB]
     simp
    rw[bS gv]
    simp only[fh,hc,ne_eq,pz,ga]
    exact mD (pre++[k]) tv (DX++[k']) (by rw[bD];simp) (by rw[u5];simp) (by simp[xp])
   ·refine .inl ⟨cmp k k',br ?_,by simp[fh,hc]⟩
    simp only[u0,xn,bc,au]
    rw[aF,c8]
    simp only[Option.bind_some]
    rw[aD,Zq]
    simp only[Option.bind_some,bW,bX,bY]
    rw[e1]
    simp only[Option.bind_some,V.az,V.toInt_int,fx,aj hc]
theorem JR: ∀a:Ex,a.Ok→∀b:Ex,b.Ok→CC bP (cJ a (cJ b []))=some [.int .i64 (cmp a b)]:=
 ind fun o l ks ih aw b hb=>by
  obtain ⟨o',l',cQ⟩:=b
  refine ajH ?_
  unfold Zj
  rw[AL]
  simp only[Ex.op,Ex.letter,Ex.kids,fx]
  by_cases h1:o=o'
  ·by_cases h2:l=l'
   ·rw[ai h1,ai h2,aj (by simp[h1]),aj (by simp[h2])]
    have hcf:CC I5 [.list ag (ks.map enc),.list ag (cQ.map enc)]=some [.int .i64 (fh ks cQ)]:=by
     refine ajK ?_
     unfold Zk
     rcases ajQ aw.len (fun k hk e he=>ih k hk (aw.iJ k hk) e he) hb.iJ ks [] cQ [] rfl rfl rfl with ⟨c,q1,q2⟩|⟨i,b,q1,q2⟩
     ·simp only[List.length_nil,Int.ofNat_zero,Int.natCast_zero] at q1
      erw [q1];rw[q2];rfl
     ·simp only[List.length_nil,Int.ofNat_zero,Int.natCast_zero] at q1
      erw [q1];rw[q2]
      simp only[Option.bind_some,cf,un,bc,au]
      by_cases hl:ks.length<cQ.length
      ·rw[aF,ai hl]
      ·rw[aD,aj hl]
    rw[hcf]
    simp
   ·rw[ai h1,aj h2,aj (by simp[h1]),ai h2,Zp h2]
    simp
  ·rw[aj h1,ai h1,Zp h1]
   simp
def aS:Ex:= .node 0 0 []
def jB (l:List Ex) (x:Ex):Nat→Nat
 | 0=>0
 | k+1=>if cmp x (l.getD k aS)<0 then jB l x k else k+1
def iK (l:List Ex) (x:Ex):List Ex:=
 let k:=jB l x l.length
 if 0<k∧cmp (l.getD (k-1) aS) x=0 then l else l.take k++x::l.drop k
theorem RF (l:List Ex) (x:Ex): ∀k,jB l x k≤k
 | 0=>bC _
 | k+1=>by
  unfold jB;split
  ·exact Nat.le_succ_of_le (RF l x k)
  ·exact bC _
theorem u6 {l:List Ex} (h: ∀k∈l,k.Ok) {i:Nat} (hi:i<l.length):(l.getD i aS).Ok:=by
 have e:l.getD i aS=l[i]:=by simp[hi]
 rw[e];exact h _ (jH hi)
def cr (op:Int) (l:List Ex):List Ex:=l.flatMap fun k=>if k.op=op then k.kids else [k]
def univ (e:Ex):Bool:=decide (e.op=8∧e.kids.length=1∧(e.kids.getD 0 aS).op=1)
theorem Zr {a b:Ex}:cmp a b=0↔a=b:=⟨xo a b,fun h=>by rw[h];exact DW b⟩
instance:DecidableEq Ex:=fun _ _=>decidable_of_iff _ Zr
end Go.AM
set_option maxRecDepth 100000
namespace Go.AM
open Go.Proofs
noncomputable def DY (C:ae) (op:Int) (t8:LV) (t9 t10:Int) (pb:LV) {β:Type} (kn:(Int × LV)→Option β) (kr:(Int × Bool × LV)→Option β):Option β:=
 bif decide ((t10:Int)<t9) then
  (idx t8 t10).bind fun x1=>
  bif (((x1.cell 0).toInt):Int)==op then
  bif Nat.ble ((pb.length+((x1.cell 2).toList).length)*40) db then
   kn (IntKind.wrap .i64 (t10+1),pb++((x1.cell 2).toList))
  else none
  else
  bif Nat.ble ((pb.length+([.agg [V.int .i64 ((x1.cell 0).toInt),V.int .i64 ((x1.cell 1).toInt),.list ag ((x1.cell 2).toList)]]:LV).length)*40) db then
   kn (IntKind.wrap .i64 (t10+1),pb++([.agg [V.int .i64 ((x1.cell 0).toInt),V.int .i64 ((x1.cell 1).toInt),.list ag ((x1.cell 2).toList)]]:LV))
  else none
 else
  kr (t10,decide ((t10:Int)<t9),pb)
noncomputable def DZ (C:ae) (op:Int) (t8:LV) (t9:Int):=un fun t10 pb=>DY C op t8 t9 t10 pb (fun y=>some (Sum.inl y)) (fun r=>some (Sum.inr r))
noncomputable def ajR (C:ae):bI:=bu 49 QV [false,false,false,true,true] [[1,2,3,0,0,0]] (@DY C) aW
theorem ajS (C:ae):ba C (ajR C) 147 (Lp [1,1,0,1,0,0] 147):=bt QV [false,false,false,true,true] [[1,2,3,0,0,0]] (@DY C) (aK ar)
noncomputable def Zs (C:ae) (op:Int) (kids:LV):Option LV:=
 (Loop (DZ C op kids (kids.length:Int)) (0,([]:LV))).bind (un fun (RG:Int)=>un fun (fy:Bool) (ajT:LV)=>
  some [.list ag ajT])
theorem ajU {op:Int} {kids:LV} {r:Option LV} (h:Zs CC op kids=r):CC As [V.int .i64 op,.list ag kids]=r:=aV (aZ (ajS CC) ar) h
noncomputable def Zt (C:ae) (op:Int) (parts:LV) (JS JT:Int) (JU:LV):Option LV:=
 bif ((parts.length:Int):Int)==0 then
  some [V.int .i64 JS,V.int .i64 JT,.list ag JU]
 else
  bif ((parts.length:Int):Int)==1 then
  (parts[0]?).bind fun x1=>
  some [V.int .i64 ((x1.cell 0).toInt),V.int .i64 ((x1.cell 1).toInt),.list ag ((x1.cell 2).toList)]
  else
  some [V.int .i64 op,V.int .i64 0,.list ag parts]
theorem ajV {op:Int} {parts:LV} {JS JT:Int} {JU:LV} {r:Option LV} (h:Zt CC op parts JS JT JU=r):CC oj [V.int .i64 op,.list ag parts,V.int .i64 JS,V.int .i64 JT,.list ag JU]=r:=aV (L:=aW) ar h
noncomputable def ajW (C:ae):Option LV:=
 some [V.int .i64 1,V.int .i64 0,.list ag ([]:LV)]
theorem ajX {r:Option LV} (h:ajW CC=r):CC rG []=r:=aV (L:=aW) ar h
noncomputable def ajY (C:ae):Option LV:=
 some [V.int .i64 2,V.int .i64 0,.list ag ([]:LV)]
theorem ajZ {r:Option LV} (h:ajY CC=r):CC xf []=r:=aV (L:=aW) ar h
noncomputable def Zu (C:ae):Option LV:=
 (C rG []).bind fun r1=>
 some [V.int .i64 8,V.int .i64 0,.list ag ([.agg [V.int .i64 ((V.nth r1 0).toInt),V.int .i64 ((V.nth (r1.drop 1) 0).toInt),.list ag ((V.nth (r1.drop 2) 0).toList)]]:LV)]
theorem aj0 {r:Option LV} (h:Zu CC=r):CC uT []=r:=aV (L:=aW) ar h
end Go.AM
set_option maxRecDepth 100000
namespace Go.AM
open Go.Proofs Ex
theorem aj1 {op:Int} {ks:List Ex} (hn:ks.length≤1000000) (hl:(cr op ks).length≤1000000):
  ∀(aC pre:List Ex),ks=pre++aC→
  Loop (DZ CC op (ks.map enc) ((ks.map enc).length:Int)) (((pre.length:Nat):Int),(cr op pre).map enc)=some (((ks.map enc).length:Int),false,(cr op ks).map enc):=by
 intro aC
 induction aC with
 | nil=>
  intro pre e
  rw[di] at e
  subst e
  refine br ?_
  simp only[DZ,DY,un,bc]
  rw[au,aD,eJ]
 | cons k aC ih=>
  intro pre e
  have aR:pre.length<ks.length:=by rw[e];simp
  have hi:idx (ks.map enc) ((pre.length:Nat):Int)=some k.enc:=by rw[e];exact il pre aC k
  have hf:cr op ks=cr op pre++((if k.op=op then k.kids else [k])++cr op aC):=by
   rw[e];unfold cr;rw[GO,g9]
  have Nc:cr op (pre++[k])=cr op pre++(if k.op=op then k.kids else [k]):=by
   unfold cr;rw[GO,g9,List.flatMap_nil,di]
  rw[hf,cg,cg] at hl
  have bz:DZ CC op (ks.map enc) ((ks.map enc).length:Int) (((pre.length:Nat):Int),(cr op pre).map enc)=some (.inl (((pre.length+1:Nat):Int),(cr op (pre++[k])).map enc)):=by
   simp only[DZ,DY,un,bc]
   rw[au,aF,hi,Nc]
   simp only[Option.bind_some,bW,bX,bY,dv,p6,bc,List.length_singleton]
   by_cases h:k.op=op
   ·rw[ai h] at hl⊢
    rw[ai h,ai (by rw[jY];omega),bB,kO]
    rfl
   ·rw[aj h] at hl⊢
    rw[List.length_singleton] at hl
    rw[aj h,ai (by rw[jY];omega),bB,kO,←ja]
    rfl
  rw[bS bz]
  have:=ih (pre++[k]) (by simp[e])
  simpa using this
theorem RH {op:Int} {ks:List Ex} (hn:ks.length≤1000000) (hl:(cr op ks).length≤1000000):CC As [.int .i64 op,.list ag (ks.map enc)]=some [.list ag ((cr op ks).map enc)]:=by
 refine ajU ?_
 unfold Zs
 refine (congrArg (fun o=>Option.bind o _) (aj1 hn hl ks [] rfl)).trans ?_
 rfl
def j4 (e:Ex):List V:=[.int .i64 e.op,.int .i64 e.letter,.list ag (e.kids.map enc)]
def eO (op:Int) (l:List Ex) (oU:Ex):Ex:=
 match l with
 | []=>oU
 | [k]=>k
 | l=> .node op 0 l
theorem rP {op:Int} {l:List Ex} {z:Ex}:CC oj (.int .i64 op:: .list ag (l.map enc)::j4 z)=some (j4 (eO op l z)):=by
 refine ajV ?_
 unfold Zt
 simp only[dv,bc]
 match l with
 | []=>simp[eO,j4]
 | [k]=>simp[eO,j4,bW,bX,bY]
 | k::k2::l=>
  rw[aj (by simp only[List.length_cons];omega),aj (by simp only[List.length_cons];omega)]
  rfl
end Go.AM
set_option maxRecDepth 100000
set_option maxHeartbeats 1000000
namespace Go.AM
open Go.Proofs Ex
def Ex.lx (a b:Ex):Prop:=cmp a b<0
noncomputable instance (a b:Ex):Decidable (a.lx b):=by unfold Ex.lx;infer_instance
theorem Ex.JV (a:Ex): ¬a.lx a:=by unfold Ex.lx;rw[DW];omega
theorem Ex.RI {a b c:Ex} (h1:a.lx b) (h2:b.lx c):a.lx c:=by
 unfold Ex.lx at*
 have h3:=RD a b c (by omega) (by omega)
 refine Decidable.byContradiction fun h=> ?_
 have h0:cmp a c=0:=by omega
 have:=xo a c h0
 subst this
 have:=u3 a b
 omega
theorem Ex.aj2 {a b:Ex}:a.lx b→¬b.lx a:=by
 unfold Ex.lx
 have:=u3 a b
 omega
theorem Ex.Zv {a b:Ex} (h1: ¬a.lx b) (h2: ¬b.lx a):a=b:=by
 unfold Ex.lx at*
 have:=u3 a b
 exact xo a b (by omega)
abbrev lb (E:List Ex):Prop:=E.Pairwise Ex.lx
theorem RJ: ∀{A B:List Ex},lb A→lb B→(∀x,x∈A↔x∈B)→A=B
 | [],[],_,_,_=>rfl
 | [],b::B,_,_,h=>by have:=(h b).2 (by simp);cases this
 | a::A,[],_,_,h=>by have:=(h a).1 (by simp);cases this
 | a::A,b::B,hA,hB,h=>by
  have a1:=qI.1 hA
  have b1:=qI.1 hB
  have gg:a=b:=by
   have ha:=(h a).1 (by simp)
   have hb:=(h b).2 (by simp)
   rcases cE.1 ha with e|e
   ·exact e
   ·rcases cE.1 hb with e'|e'
    ·exact e'.symm
    ·exact absurd (a1.1 b e') (Ex.aj2 (b1.1 a e))
  subst gg
  rw[RJ a1.2 b1.2 fun x=> ?_]
  constructor
  ·intro hx
   rcases cE.1 ((h x).1 (by simp[hx])) with e|e
   ·subst e;exact absurd (a1.1 x hx) (Ex.JV x)
   ·exact e
  ·intro hx
   rcases cE.1 ((h x).2 (by simp[hx])) with e|e
   ·subst e;exact absurd (b1.1 x hx) (Ex.JV x)
   ·exact e
open Classical in
noncomputable def AN (out:List Ex) (e:Ex):List Ex:=
 if jB out e out.length=0∨¬out.getD (jB out e out.length-1) aS=e then out.take (jB out e out.length)++[e]++out.drop (jB out e out.length) else out
theorem Zw (out:List Ex) (e:Ex): ∀k i,jB out e k≤i→i<k→e.lx (out.getD i aS)
 | 0,i,_,h=>by omega
 | k+1,i,h1,h2=>by
  unfold jB at h1
  split at h1
  ·rename_i h3
   by_cases hi:i=k
   ·subst hi;exact h3
   ·exact Zw out e k i h1 (by omega)
  ·omega
theorem Zx (out:List Ex) (e:Ex): ∀k,jB out e k≠0→¬e.lx (out.getD (jB out e k-1) aS)
 | 0,h=>by simp[jB] at h
 | k+1,h=>by
  unfold jB at h⊢
  split
  ·rename_i h3
   rw[ai h3] at h
   exact Zx out e k h
  ·rename_i h3
   exact h3
theorem aj3 {out:List Ex} {e x:Ex} (hk:jB out e out.length≤out.length):x∈AN out e↔x=e∨x∈out:=by
 unfold AN
 split
 ·rename_i h
  have:=GL (jB out e out.length) out
  constructor
  ·intro hx
   simp only[da,dp,df] at hx
   rcases hx with hx|hx|hx
   ·exact .inr (GK hx)
   ·exact .inl hx
   ·exact .inr (List.mem_of_mem_drop hx)
  ·rintro (rfl|hx)
   ·simp
   ·rw[←this] at hx
    simp only[dp] at hx
    simp only[da,dp,df]
    rcases hx with hx|hx
    ·exact .inl hx
    ·exact .inr (.inr hx)
 ·rename_i h
  simp only[not_or,uf] at h
  constructor
  ·exact .inr
  ·rintro (rfl|hx)
   ·have h1:=h.2
    have h2:jB out x out.length-1<out.length:=by omega
    rw[←h1]
    simp[h2]
   ·exact hx
theorem aj4 {out:List Ex} {e:Ex} (h:lb out):lb (AN out e):=by
 have hk:=RF out e out.length
 have up:=Zw out e out.length
 have dn:=Zx out e out.length
 unfold AN
 generalize hq:jB out e out.length=k at*
 split
 ·rename_i hc
  have g:=uc.1 h
  have iH: ∀x∈out.take k,x.lx e:=by
   intro x hx
   obtain ⟨i,hi,rfl⟩:=yY hx
   have dX:i<k:=by rw[fb] at hi;omega
   have mo:i<out.length:=by omega
   rw[List.getElem_take]
   have la:k≠0:=by omega
   have h1:=dn la
   have h2: ¬out.getD (k-1) aS=e:=by
    rcases hc with hc|hc
    ·exact absurd hc la
    ·exact hc
   have kV:k-1<out.length:=by omega
   have e1:out.getD (k-1) aS=out[k-1]:=by simp[kV]
   rw[e1] at h1 h2
   have h3:out[k-1].lx e:=by
    by_cases h4:out[k-1].lx e
    ·exact h4
    ·exact absurd (Ex.Zv h4 h1) h2
   by_cases RK:i=k-1
   ·subst RK;exact h3
   ·exact Ex.RI (g i (k-1) mo kV (by omega)) h3
  have gP: ∀y∈out.drop k,e.lx y:=by
   intro y hy
   obtain ⟨i,hi,rfl⟩:=yY hy
   rw[qE] at hi
   rw[List.getElem_drop]
   have:=up (k+i) (by omega) (by omega)
   have e1:out.getD (k+i) aS=out[k+i]:=by simp[show k+i<out.length by omega]
   rwa [e1] at this
  rw[lb,da,GM]
  refine ⟨h.sublist (List.take_sublist _ _),?_,?_⟩
  ·rw[List.singleton_append,qI]
   exact ⟨gP,h.sublist (List.drop_sublist _ _)⟩
  ·intro x hx y hy
   rw[List.singleton_append,cE] at hy
   rcases hy with rfl|hy
   ·exact iH x hx
   ·exact Ex.RI (iH x hx) (gP y hy)
 ·exact h
theorem Zy (out:List Ex) (e:Ex):iK out e=AN out e:=by
 unfold iK AN
 generalize jB out e out.length=k
 by_cases h:k=0∨¬out.getD (k-1) aS=e
 ·rw[ai h,aj (fun h2=>by
   rcases h with h|h
   ·omega
   ·exact h (xo _ _ h2.2))]
  simp
 ·rw[aj h,ai]
  simp only[not_or,uf] at h
  exact ⟨by omega,by rw[h.2];exact DW e⟩
end Go.AM
set_option maxRecDepth 100000
namespace Go.AM
open Go.Proofs Ex
def dJ:Ex:= .node 1 0 []
def eP:Ex:= .node 2 0 []
def j5:Ex:= .node 8 0 [dJ]
def cw (o l:Int) (ks:List Ex):Ex:=
 if o=8 then (let k:=ks.getD 0 aS;if k.op=8 then k.kids.getD 0 aS else .node o l ks)
 else if o=7 then (let k:=ks.getD 0 aS;if k.op=1∨k.op=2 then eP else if k.op=7∨univ k=true then k else .node o l ks)
 else if o=5 then (let f:=cr 5 ks;if f.any (fun k=>decide (k.op=1)) then dJ else eO 5 (f.filter fun k=>decide (k.op≠2)) eP)
 else if o=4 then (let f:=cr 4 ks;if f.any univ then j5 else eO 4 ((f.filter fun k=>decide (k.op≠1)).foldl iK []) dJ)
 else if o=6 then (let f:=cr 6 ks;if f.any (fun k=>decide (k.op=1)) then dJ else eO 6 ((f.filter fun k=> !(univ k)).foldl iK []) j5)
 else .node o l ks
mutual
def dZ:Ex→Ex
 | .node o l ks=>cw o l (D0 ks)
def D0:List Ex→List Ex
 | []=>[]
 | k::ks=>dZ k::D0 ks
end
theorem Zz: ∀ks,D0 ks=ks.map dZ
 | []=>by simp only[D0,kP]
 | k::ks=>by simp only[D0,dw,Zz ks]
theorem aj5 {out:List Ex} {e:Ex} (h:lb out):lb (iK out e):=by rw[Zy];exact aj4 h
theorem aj6 {out:List Ex} {e x:Ex}:x∈iK out e↔x=e∨x∈out:=by rw[Zy];exact aj3 (RF _ _ _)
theorem JW: ∀(l out:List Ex),lb out→lb (l.foldl iK out)∧∀x,x∈l.foldl iK out↔x∈l∨x∈out
 | [],out,h=>⟨h,by simp⟩
 | e::l,out,h=>by
  obtain ⟨h1,h2⟩:=JW l (iK out e) (aj5 h)
  refine ⟨h1,fun x=> ?_⟩
  rw[List.foldl_cons,h2,aj6]
  simp only[cE]
  constructor
  ·rintro (h|h|h)
   ·exact .inl (.inr h)
   ·exact .inl (.inl h)
   ·exact .inr h
  ·rintro ((h|h)|h)
   ·exact .inr (.inl h)
   ·exact .inl h
   ·exact .inr (.inr h)
theorem RL {X R:Type} {step:X→Option (X ⊕ R)} {ks:List Ex} (st:Nat→X) (p:Ex→Bool) (r1:Nat→R) (r2:R)
  (h: ∀pre k aC,ks=pre++k::aC→step (st pre.length)=if p k=true then some (.inr (r1 pre.length)) else some (.inl (st (pre.length+1)))) (he:step (st ks.length)=some (.inr r2)):
  ∀aC pre,ks=pre++aC→(aC.any p=true∧∃i,Loop step (st pre.length)=some (r1 i))∨(aC.any p=false∧Loop step (st pre.length)=some r2):=by
 intro aC
 induction aC with
 | nil=>
  intro pre bD
  have:pre.length=ks.length:=by rw[bD];simp
  rw[this]
  exact .inr ⟨rfl,br he⟩
 | cons k aC ih=>
  intro pre bD
  have h1:=h pre k aC bD
  cases hp:p k with
  | true=>
   rw[ai hp] at h1
   exact .inl ⟨by simp[hp],_,br h1⟩
  | false=>
   rw[aj (by simp[hp])] at h1
   rw[bS h1]
   have:=ih (pre++[k]) (by rw[bD];simp)
   simpa[hp] using this
end Go.AM
set_option maxRecDepth 100000
namespace Go.AM
open Go.Proofs
noncomputable def ZA (C:ae) (ak ay:Int) (ah:LV):Option LV:=
 (C DB [V.int .i64 ak,V.int .i64 ay,.list ag ah,V.int .i64 6]).bind fun r1=>
 some [.bool ((((V.nth r1 0).toInt):Int)==0)]
theorem aj7 {ak ay:Int} {ah:LV} {r:Option LV} (h:ZA CC ak ay ah=r):CC Dw [V.int .i64 ak,V.int .i64 ay,.list ag ah]=r:=aV (L:=aW) ar h
noncomputable def ZB (C:ae) (ak ay:Int) (ah:LV):Option LV:=
 (C w7 [V.int .i64 ak,V.int .i64 ay,.list ag ah,V.int .i64 400]).bind fun r1=>
 some [V.int .i64 ((V.nth r1 0).toInt)]
theorem aj8 {ak ay:Int} {ah:LV} {r:Option LV} (h:ZB CC ak ay ah=r):CC IW [V.int .i64 ak,V.int .i64 ay,.list ag ah]=r:=aV (L:=aW) ar h
end Go.AM
set_option maxRecDepth 100000
namespace Go.AM
open Go.Proofs Ex
theorem xq (m n:Int):(m==n)=decide (m=n):=by rw[pE];simp
theorem ZC (e:Ex) (h:e.Ok):CC Dw (cJ e [])=some [.bool (decide (e.val 6=0))]:=by
 refine aj7 ?_
 unfold ZA
 rw[Zi e h]
 simp only[Option.bind_some,V.az,V.toInt_int]
 rw[xq]
theorem ZD {e:Ex} (h:e.val 6=0):e.depth≤40∧e.size≤400∧e.wf 6=true:=by
 unfold Ex.val at h
 rw[aF] at h
 split at h
 ·rename_i h1
  split at h
  ·rename_i h2;exact ⟨h1.1,h1.2,h2⟩
  ·omega
 ·omega
theorem AO {ks:List Ex}: ∀{k},k∈ks→k.size≤aL ks:=by
 induction ks with
 | nil=>intro k h;simp at h
 | cons a ks ih=>
  intro k h
  simp only[aL]
  rcases cE.1 h with rfl|h
  ·omega
  ·have:=ih h;omega
mutual
def Ex.dK:Ex→Bool
 | .node o _ ks=>if o=2∨o=7 then true else if o=4 then rQ ks else if o=5∨o=6 then rR ks else if o=8 then !(rQ ks) else false
def Ex.rQ:List Ex→Bool
 | []=>false
 | k::ks=>dK k||rQ ks
def Ex.rR:List Ex→Bool
 | []=>true
 | k::ks=>dK k&&rR ks
end
theorem JX: ∀ks,rQ ks=ks.any dK
 | []=>by simp[rQ]
 | k::ks=>by simp[rQ,JX ks]
theorem JY: ∀ks,rR ks= !(ks.any fun k=> !(dK k))
 | []=>by simp[rR]
 | k::ks=>by simp[rR,JY ks]
theorem aj9 {letters:Int} {ks:List Ex} (h:iq letters ks=true): ∀k∈ks,k.wf letters=true:=by
 induction ks with
 | nil=>simp
 | cons a ks ih=>
  simp only[iq,aT] at h
  intro k hk
  rcases cE.1 hk with rfl|hk
  ·exact h.1
  ·exact ih h.2 k hk
theorem mI {letters o l:Int} {ks:List Ex} (h:(Ex.node o l ks).wf letters=true):im o l ks.length letters=true∧∀k∈ks,k.wf letters=true:=by
 simp only[Ex.wf,aT] at h
 exact ⟨h.1,aj9 h.2⟩
theorem aka {letters l n:Int} (h:im 8 l n letters=true):n=1:=by
 simp[im] at h;exact h.2
theorem akb (e:Ex) (h:e.Ok) (hs:e.size≤400):CC IW (cJ e [])=some [.int .i64 e.size]:=by
 obtain ⟨d,e1,e2⟩:=Zh e h 400 (by omega) (by omega)
 refine aj8 ?_
 unfold ZB
 rw[e1,show min (e.size:Int) (400+1)=e.size by omega]
 simp
def u7 (o:Int) (ks:List Ex):Prop:=
 (o=8→∀k∈ks,k.op≠8)∧
 (o=7→∀k∈ks,k.op≠1∧k.op≠2∧k.op≠7∧univ k=false)∧
 (o=5→∀k∈ks,k.op≠5∧k.op≠1∧k.op≠2)∧
 (o=4→lb ks∧∀k∈ks,k.op≠4∧k.op≠1∧univ k=false)∧
 (o=6→lb ks∧∀k∈ks,k.op≠6∧k.op≠1∧univ k=false)
inductive Nm:Ex→Prop
 | node {o l:Int} {ks:List Ex}:(∀k∈ks,Nm k)→u7 o ks→Nm (.node o l ks)
theorem Nm.iJ {o l:Int} {ks:List Ex} (h:Nm (.node o l ks)): ∀k∈ks,Nm k:=by cases h;assumption
theorem Nm.ok {o l:Int} {ks:List Ex} (h:Nm (.node o l ks)):u7 o ks:=by cases h;assumption
def Gd (n:Int) (e:Ex):Prop:=Nm e∧e.wf n=true
theorem RM {n o l:Int} {ks:List Ex} (h:im o l ks.length n=true) (hk: ∀k∈ks,k.wf n=true):(Ex.node o l ks).wf n=true:=by
 have: ∀ks:List Ex,(∀k∈ks,k.wf n=true)→iq n ks=true:=by
  intro ks
  induction ks with
  | nil=>intro _;simp only[iq]
  | cons k ks ih=>intro h;simp only[iq,h k (by simp),ih fun k hk=>h k (by simp[hk]),ki]
 simp only[Ex.wf,h,this ks hk,ki]
theorem ld {o l len n:Int} (h:im o l len n=true):(o=3∧len=0∧0≤l∧l<n)∨(l=0∧((o=1∧len=0)∨(o=2∧len=0)∨(o=4∧2≤len)∨(o=5∧2≤len)∨(o=6∧2≤len)∨(o=7∧len=1)∨(o=8∧len=1))):=by
 unfold im at h
 split at h
 ·rename_i h3
  have:=fk h
  omega
 ·rw[aT] at h
  have h1:=fk h.1
  have h2:=h.2
  split at h2
  ·have:=fk h2;omega
  ·split at h2
   ·have:=fk h2;omega
   ·have:=fk h2;omega
theorem Gd.kids {n:Int} {e:Ex} (h:Gd n e): ∀k∈e.kids,Gd n k:=by
 obtain ⟨o,l,ks⟩:=e
 exact fun k hk=>⟨h.1.iJ k hk,(mI h.2).2 k hk⟩
theorem Gd.ok {n:Int} {e:Ex} (h:Gd n e):u7 e.op e.kids:=by
 obtain ⟨o,l,ks⟩:=e
 exact h.1.ok
theorem Gd.shape {n:Int} {e:Ex} (h:Gd n e):im e.op e.letter e.kids.length n=true:=by
 obtain ⟨o,l,ks⟩:=e
 exact (mI h.2).1
theorem Gd.mk' {n o l:Int} {ks:List Ex} (h1: ∀k∈ks,Gd n k) (h2:u7 o ks) (h3:im o l ks.length n=true):Gd n (.node o l ks):=
 ⟨.node (fun k hk=>(h1 k hk).1) h2,RM h3 fun k hk=>(h1 k hk).2⟩
theorem D1 {n:Int}:Gd n dJ:= .mk' (by simp) ⟨by simp,by simp,by simp,by simp,by simp⟩ (by simp[im])
theorem JZ {n:Int}:Gd n eP:= .mk' (by simp) ⟨by simp,by simp,by simp,by simp,by simp⟩ (by simp[im])
theorem ZE {n:Int}:Gd n j5:= .mk' (by simp[D1]) ⟨by simp[dJ,Ex.op],by simp,by simp,by simp,by simp⟩ (by simp[im])
theorem RN {n:Int} {e:Ex} (h:Gd n e) (hu:univ e=true):e=j5:=by
 obtain ⟨o,l,ks⟩:=e
 have hs:=ld h.shape
 have hu:=fk hu
 simp only[Ex.op,Ex.kids,Ex.letter] at*
 match ks,hu with
 | [k],hu=>
  obtain ⟨o2,l2,qg⟩:=k
  have np:=ld (h.kids _ (df.2 rfl)).shape
  simp only[Ex.op,Ex.kids,Ex.letter,GP] at*
  obtain rfl:qg=[]:=BY.1 (by omega)
  unfold j5 dJ
  rw[show o=8 by omega,show l=0 by omega,show o2=1 by omega,show l2=0 by omega]
theorem empty_eq {n:Int} {e:Ex} (h:Gd n e) (ho:e.op=1):e=dJ:=by
 obtain ⟨o,l,ks⟩:=e
 have hs:=ld h.shape
 simp only[Ex.op,Ex.kids,Ex.letter] at*
 obtain rfl:ks=[]:=BY.1 (by omega)
 unfold dJ
 rw[show o=1 by omega,show l=0 by omega]
theorem unit_eq {n:Int} {e:Ex} (h:Gd n e) (ho:e.op=2):e=eP:=by
 obtain ⟨o,l,ks⟩:=e
 have hs:=ld h.shape
 simp only[Ex.op,Ex.kids,Ex.letter] at*
 obtain rfl:ks=[]:=BY.1 (by omega)
 unfold eP
 rw[show o=2 by omega,show l=0 by omega]
theorem AP (a b:List Ex):aL (a++b)=aL a+aL b:=by
 induction a with
 | nil=>simp[aL]
 | cons k a ih=>simp only[List.cons_append,aL,ih];omega
theorem J0 (p:Ex→Bool) (l:List Ex):aL (l.filter p)≤aL l:=by
 induction l with
 | nil=>simp[aL]
 | cons k l ih=>
  rw[ma]
  split
  ·simp only[aL];omega
  ·simp only[aL];omega
theorem qh (l:List Ex):l.length≤aL l:=by
 induction l with
 | nil=>simp[aL]
 | cons k l ih=>simp only[aL,List.length_cons];have:=k.size_pos;omega
theorem xr (o:Int) (l:List Ex):aL (cr o l)≤aL l:=by
 induction l with
 | nil=>simp[aL,cr]
 | cons k l ih=>
  have e:cr o (k::l)=(if k.op=o then k.kids else [k])++cr o l:=by simp[cr]
  rw[e,AP]
  simp only[aL]
  split
  ·obtain ⟨o2,l2,ks⟩:=k
   simp only[Ex.kids,size] at*;omega
  ·simp only[aL];omega
theorem akc (l:List Ex) (x:Ex):aL (iK l x)≤aL l+x.size:=by
 unfold iK
 simp only
 split
 ·omega
 ·have:=congrArg aL (GL (jB l x l.length) l)
  rw[AP] at this
  rw[AP]
  simp only[aL]
  omega
theorem RO: ∀(l acc:List Ex),aL (l.foldl iK acc)≤aL acc+aL l
 | [],acc=>by simp[aL]
 | k::l,acc=>by
  rw[List.foldl_cons]
  have h1:=RO l (iK acc k)
  have h2:=akc acc k
  simp only[aL]
  omega
theorem kF {o:Int} {l:List Ex} {x:Ex}:x∈cr o l↔∃k∈l,(k.op=o∧x∈k.kids)∨(k.op≠o∧x=k):=by
 unfold cr
 rw[qH]
 constructor
 ·rintro ⟨k,hk,hx⟩
  refine ⟨k,hk,?_⟩
  by_cases h:k.op=o
  ·rw[ai h] at hx;exact .inl ⟨h,hx⟩
  ·rw[aj h] at hx;exact .inr ⟨h,by simpa using hx⟩
 ·rintro ⟨k,hk,h|h⟩
  ·exact ⟨k,hk,by rw[ai h.1];exact h.2⟩
  ·exact ⟨k,hk,by rw[aj h.1];simp[h.2]⟩
theorem J1 {o:Int} {l:List Ex} {z:Ex} {m:Nat} (h:1+aL l≤m) (hz:z.size≤m):(eO o l z).size≤m:=by
 match l,h with
 | [],_=>exact hz
 | [k],h=>simp only[eO,aL] at*;omega
 | k::k2::l,h=>simp only[eO,size];omega
theorem J2 {n o:Int} {l:List Ex} {z:Ex} (hz:Gd n z) (hl: ∀k∈l,Gd n k) (hn:u7 o l) (ho:4≤o∧o≤6):Gd n (eO o l z):=by
 match l,hl,hn with
 | [],_,_=>exact hz
 | [k],h,_=>exact h k (by simp)
 | k::k2::l,h,hn=>
  refine .mk' h hn ?_
  unfold im
  rw[aD,aD,aD]
  simp only[List.length_cons,pA,ki]
  exact dV (by omega)
section
variable {n:Int} {ks:List Ex} (hk: ∀k∈ks,Gd n k)
include hk
theorem D2 (o:Int): ∀k∈cr o ks,Gd n k:=fun x hx=>by
 obtain ⟨k,h,h1|h1⟩:=kF.1 hx
 ·exact (hk k h).kids x h1.2
 ·rw[h1.2];exact hk k h
theorem akd: ∀k∈cr 5 ks,k.op≠5:=fun x hx=>by
 obtain ⟨k,h,h1|h1⟩:=kF.1 hx
 ·exact ((hk k h).ok.2.2.1 h1.1 x h1.2).1
 ·rw[h1.2];exact h1.1
theorem ake: ∀k∈cr 4 ks,k.op≠4:=fun x hx=>by
 obtain ⟨k,h,h1|h1⟩:=kF.1 hx
 ·exact (((hk k h).ok.2.2.2.1 h1.1).2 x h1.2).1
 ·rw[h1.2];exact h1.1
theorem akf: ∀k∈cr 6 ks,k.op≠6:=fun x hx=>by
 obtain ⟨k,h,h1|h1⟩:=kF.1 hx
 ·exact (((hk k h).ok.2.2.2.2 h1.1).2 x h1.2).1
 ·rw[h1.2];exact h1.1
theorem ZF:(cr 5 ks).any (fun k=>decide (k.op=1))=ks.any fun k=>decide (k.op=1):=by
 rw[pE,iB,iB]
 simp only[dC]
 constructor
 ·rintro ⟨x,hx,h⟩
  obtain ⟨k,h2,h1|h1⟩:=kF.1 hx
  ·exact absurd h ((hk k h2).ok.2.2.1 h1.1 x h1.2).2.1
  ·exact ⟨k,h2,h1.2▸h⟩
 ·rintro ⟨k,h1,h⟩
  exact ⟨k,kF.2 ⟨k,h1,.inr ⟨by omega,rfl⟩⟩,h⟩
theorem akg:(cr 6 ks).any (fun k=>decide (k.op=1))=ks.any fun k=>decide (k.op=1):=by
 rw[pE,iB,iB]
 simp only[dC]
 constructor
 ·rintro ⟨x,hx,h⟩
  obtain ⟨k,h2,h1|h1⟩:=kF.1 hx
  ·exact absurd h (((hk k h2).ok.2.2.2.2 h1.1).2 x h1.2).2.1
  ·exact ⟨k,h2,h1.2▸h⟩
 ·rintro ⟨k,h1,h⟩
  exact ⟨k,kF.2 ⟨k,h1,.inr ⟨by omega,rfl⟩⟩,h⟩
theorem akh:(cr 4 ks).any univ=ks.any univ:=by
 rw[pE,iB,iB]
 constructor
 ·rintro ⟨x,hx,h⟩
  obtain ⟨k,h2,h1|h1⟩:=kF.1 hx
  ·rw[(((hk k h2).ok.2.2.2.1 h1.1).2 x h1.2).2.2] at h;cases h
  ·exact ⟨k,h2,h1.2▸h⟩
 ·rintro ⟨k,h1,h⟩
  have:=fk h
  exact ⟨k,kF.2 ⟨k,h1,.inr ⟨by omega,rfl⟩⟩,h⟩
end
theorem AQ {l:Int} {ks:List Ex}:cw 5 l ks=if (cr 5 ks).any (fun k=>decide (k.op=1)) then dJ else eO 5 ((cr 5 ks).filter fun k=>decide (k.op≠2)) eP:=by
 unfold cw;rw[aD,aD,ai rfl]
theorem J3 {l:Int} {ks:List Ex}:cw 4 l ks=if (cr 4 ks).any univ then j5 else eO 4 (((cr 4 ks).filter fun k=>decide (k.op≠1)).foldl iK []) dJ:=by
 unfold cw;rw[aD,aD,aD,ai rfl]
theorem J4 {l:Int} {ks:List Ex}:cw 6 l ks=if (cr 6 ks).any (fun k=>decide (k.op=1)) then dJ else eO 6 (((cr 6 ks).filter fun k=> !(univ k)).foldl iK []) j5:=by
 unfold cw;rw[aD,aD,aD,aD,ai rfl]
theorem J5 {l:Int} {k:Ex}:cw 7 l [k]=if k.op=1∨k.op=2 then eP else if k.op=7∨univ k=true then k else .node 7 l [k]:=by
 unfold cw;rw[aD,ai rfl];rfl
theorem J6 {l:Int} {k:Ex}:cw 8 l [k]=if k.op=8 then k.kids.getD 0 aS else .node 8 l [k]:=by
 unfold cw;rw[ai rfl];rfl
theorem rS {o l:Int} (h:o=1∨o=2∨o=3) {ks:List Ex}:cw o l ks= .node o l ks:=by
 unfold cw;rw[aD,aD,aD,aD,aD]
theorem ZG {n:Int} {l:List Ex} (h: ∀k∈l,Gd n k): ∀k∈l.foldl iK [],Gd n k:=fun k hk=>by
 rcases ((JW l [] .nil).2 k).1 hk with h1|h1
 ·exact h k h1
 ·cases h1
theorem rT {l:List Ex} {x:Ex}:x∈l.foldl iK []↔x∈l:=by
 rw[(JW l [] .nil).2 x];simp
theorem D3 {l:List Ex}:lb (l.foldl iK []):=(JW l [] .nil).1
theorem ZH {l:List Ex} (h: ∀k∈l,k.op≠5∧k.op≠1∧k.op≠2):u7 5 l:=⟨by simp,by simp,fun _=>h,by simp,by simp⟩
theorem aki {l:List Ex} (h:lb l∧∀k∈l,k.op≠4∧k.op≠1∧univ k=false):u7 4 l:=⟨by simp,by simp,by simp,fun _=>h,by simp⟩
theorem akj {l:List Ex} (h:lb l∧∀k∈l,k.op≠6∧k.op≠1∧univ k=false):u7 6 l:=⟨by simp,by simp,by simp,by simp,fun _=>h⟩
theorem any_false {α:Type} {p:α→Bool} {l:List α} (h: ¬l.any p=true): ∀x∈l,p x=false:=fun x hx=>by
 cases hp:p x with
 | false=>rfl
 | true=>exact absurd (iB.2 ⟨x,hx,hp⟩) h
theorem akk {n o l:Int} {ks:List Ex} (hk: ∀k∈ks,Gd n k) (hs:im o l ks.length n=true):Gd n (cw o l ks):=by
 rcases ld hs with ⟨rfl,h1,_⟩|⟨rfl,⟨rfl,h1⟩|⟨rfl,h1⟩|⟨rfl,h1⟩|⟨rfl,h1⟩|⟨rfl,h1⟩|⟨rfl,h1⟩|⟨rfl,h1⟩⟩
 ·rw[rS (by omega)];exact .mk' hk ⟨by simp,by simp,by simp,by simp,by simp⟩ hs
 ·rw[rS (by omega)];exact .mk' hk ⟨by simp,by simp,by simp,by simp,by simp⟩ hs
 ·rw[rS (by omega)];exact .mk' hk ⟨by simp,by simp,by simp,by simp,by simp⟩ hs
 ·rw[J3]
  split
  ·exact ZE
  ·rename_i hu
   refine J2 D1 (ZG fun k h=>D2 hk 4 k (lr.1 h).1) (aki ⟨D3,fun k h=> ?_⟩) (by omega)
   have h2:=lr.1 (rT.1 h)
   exact ⟨ake hk k h2.1,fk h2.2,any_false hu k h2.1⟩
 ·rw[AQ]
  split
  ·exact D1
  ·rename_i hu
   refine J2 JZ (fun k h=>D2 hk 5 k (lr.1 h).1) (ZH fun k h=> ?_) (by omega)
   have h2:=lr.1 h
   exact ⟨akd hk k h2.1,of_decide_eq_false (any_false hu k h2.1),fk h2.2⟩
 ·rw[J4]
  split
  ·exact D1
  ·rename_i hu
   refine J2 ZE (ZG fun k h=>D2 hk 6 k (lr.1 h).1) (akj ⟨D3,fun k h=> ?_⟩) (by omega)
   have h2:=lr.1 (rT.1 h)
   exact ⟨akf hk k h2.1,of_decide_eq_false (any_false hu k h2.1),by simpa using h2.2⟩
 ·match ks,h1 with
  | [k],_=>
   rw[J5]
   split
   ·exact JZ
   ·split
    ·exact hk k (by simp)
    ·rename_i h2 h3
     refine .mk' hk ⟨by simp,fun _ x hx=> ?_,by simp,by simp,by simp⟩ hs
     rw[df.1 hx]
     exact ⟨by omega,by omega,fun h=>h3 (.inl h),by simpa using fun h=>h3 (.inr h)⟩
 ·match ks,h1 with
  | [k],_=>
   rw[J6]
   split
   ·rename_i h8
    have hg:=hk k (by simp)
    have np:=ld hg.shape
    obtain ⟨o2,l2,qg⟩:=k
    simp only[Ex.op,Ex.kids,Ex.letter] at*
    match qg,(show (qg.length:Int)=1 by omega) with
    | [x],_=>exact hg.kids x (by simp[Ex.kids])
   ·rename_i h8
    refine .mk' hk ⟨fun _ x hx=> ?_,by simp,by simp,by simp,by simp⟩ hs
    rw[df.1 hx]
    exact h8
theorem akl {n o l:Int} {ks:List Ex} (hs:im o l ks.length n=true):(cw o l ks).size≤1+aL ks:=by
 have hl:=qh ks
 have z1:dJ.size=1:=by simp[dJ,size,aL]
 have z2:eP.size=1:=by simp[eP,size,aL]
 have z3:j5.size=2:=by simp[j5,dJ,size,aL]
 rcases ld hs with ⟨rfl,h1,_⟩|⟨rfl,⟨rfl,h1⟩|⟨rfl,h1⟩|⟨rfl,h1⟩|⟨rfl,h1⟩|⟨rfl,h1⟩|⟨rfl,h1⟩|⟨rfl,h1⟩⟩
 ·rw[rS (by omega)];simp only[size];omega
 ·rw[rS (by omega)];simp only[size];omega
 ·rw[rS (by omega)];simp only[size];omega
 ·rw[J3]
  have a1:=xr 4 ks
  have a2:=J0 (fun k=>decide (k.op≠1)) (cr 4 ks)
  have a3:=RO ((cr 4 ks).filter fun k=>decide (k.op≠1)) []
  simp only[aL] at a3
  split
  ·omega
  ·exact J1 (by omega) (by omega)
 ·rw[AQ]
  have a1:=xr 5 ks
  have a2:=J0 (fun k=>decide (k.op≠2)) (cr 5 ks)
  split
  ·omega
  ·exact J1 (by omega) (by omega)
 ·rw[J4]
  have a1:=xr 6 ks
  have a2:=J0 (fun k=> !(univ k)) (cr 6 ks)
  have a3:=RO ((cr 6 ks).filter fun k=> !(univ k)) []
  simp only[aL] at a3
  split
  ·omega
  ·exact J1 (by omega) (by omega)
 ·match ks,h1 with
  | [k],_=>
   rw[J5]
   simp only[aL] at*
   split
   ·omega
   ·split
    ·omega
    ·simp only[size,aL];omega
 ·match ks,h1 with
  | [k],_=>
   rw[J6]
   simp only[aL] at*
   split
   ·obtain ⟨o2,l2,qg⟩:=k
    match qg with
    | []=>simp[Ex.kids,aS,size,aL]
    | x::qg=>simp only[Ex.kids,GP,size,aL];omega
   ·simp only[size,aL];omega
theorem D4 {o l:Int} {ks:List Ex}:dZ (.node o l ks)=cw o l (ks.map dZ):=by rw[dZ,Zz]
theorem RP {n:Int}: ∀e:Ex,e.wf n=true→Gd n (dZ e):=ind fun o l ks ih hw=>by
 obtain ⟨h1,h2⟩:=mI hw
 rw[D4]
 refine akk (fun k hk=> ?_) (by simpa using h1)
 obtain ⟨x,hx,rfl⟩:=dH.1 hk
 exact ih x hx (h2 x hx)
theorem ZI {n:Int}: ∀e:Ex,e.wf n=true→(dZ e).size≤e.size:=ind fun o l ks ih hw=>by
 obtain ⟨h1,h2⟩:=mI hw
 have: ∀ks:List Ex,(∀k∈ks,(dZ k).size≤k.size)→aL (ks.map dZ)≤aL ks:=by
  intro ks
  induction ks with
  | nil=>intro _;simp[aL]
  | cons k ks ih=>intro h;have a:=h k (by simp);have b:=ih fun k hk=>h k (by simp[hk]);simp only[dw,aL];omega
 have h3:=this ks fun k hk=>ih k hk (h2 k hk)
 rw[D4]
 have:=akl (n:=n) (o:=o) (l:=l) (ks:=ks.map dZ) (by simpa using h1)
 simp only[size]
 omega
theorem ZJ {n:Int} (hn:n≤6): ∀e:Ex,e.wf n=true→e.size≤1000000→e.Ok:=ind fun o l ks ih hw hs=>by
 obtain ⟨h1,h2⟩:=mI hw
 have hl:=qh ks
 simp only[size] at hs
 have h3:=ld h1
 have hm:ks.length≤maxLen:=by unfold maxLen;omega
 exact .node (by omega) (by omega) hm fun k hk=>ih k hk (h2 k hk) (by have:=AO hk;omega)
theorem akm {o:Int} {l:List Ex} {z:Ex} (h:2≤l.length):eO o l z= .node o 0 l:=by
 match l,h with
 | k::k2::l,_=>rfl
theorem AR {α:Type} {p:α→Bool} {l:List α} (h: ∀x∈l,p x=false):l.any p=false:=by
 cases e:l.any p with
 | false=>rfl
 | true=>obtain ⟨x,h1,h2⟩:=iB.1 e;rw[h x h1] at h2;cases h2
def fU (e:Ex):List Ex:=if e.op=5 then e.kids else if e.op=2 then [] else [e]
section
variable {n:Int} {ks:List Ex} (hk: ∀k∈ks,Gd n k)
include hk
theorem ZK:(cr 5 ks).filter (fun k=>decide (k.op≠2))=ks.flatMap fU:=by
 induction ks with
 | nil=>rfl
 | cons k ks ih=>
  have e:cr 5 (k::ks)=(if k.op=5 then k.kids else [k])++cr 5 ks:=by simp[cr]
  rw[e,mb,g9,ih fun k h=>hk k (by simp[h])]
  refine congrArg (· ++_) ?_
  unfold fU
  have h:=hk k (by simp)
  by_cases h4:k.op=5
  ·rw[ai h4,ai h4]
   exact sk.2 fun x hx=>dV (h.ok.2.2.1 h4 x hx).2.2
  ·rw[aj h4,aj h4]
   by_cases h1:k.op=2
   ·rw[ai h1];simp[h1]
   ·rw[aj h1];simp[h1]
theorem AS {l:Int}:cw 5 l ks=if ks.any (fun k=>decide (k.op=1)) then dJ else eO 5 (ks.flatMap fU) eP:=by
 rw[AQ,ZF hk,ZK hk]
theorem J7 (hu:ks.any (fun k=>decide (k.op=1))=false): ∀x∈ks.flatMap fU,x.op≠5∧x.op≠1∧x.op≠2:=fun x hx=>by
 obtain ⟨k,h1,h2⟩:=qH.1 hx
 unfold fU at h2
 split at h2
 ·rename_i h4;exact (hk k h1).ok.2.2.1 h4 x h2
 ·split at h2
  ·cases h2
  ·rename_i h4 h5
   rw[df.1 h2]
   exact ⟨h4,of_decide_eq_false (any_false (by rw[hu];simp) k h1),h5⟩
end
theorem ZL {R:List Ex} (h: ∀x∈R,x.op≠5∧x.op≠1∧x.op≠2):fU (eO 5 R eP)=R∧(eO 5 R eP).op≠1:=by
 match R,h with
 | [],_=>exact ⟨by simp[eO,fU,eP,Ex.op],by simp[eO,eP,Ex.op]⟩
 | [k],h=>have:=h k (by simp);exact ⟨by simp[eO,fU,this.1,this.2.2],this.2.1⟩
 | k::k2::R,_=>exact ⟨by simp[eO,fU,Ex.op,Ex.kids],by simp[eO,Ex.op]⟩
theorem ZM {n:Int} {A:List Ex} (hA: ∀k∈A,Gd n k):Gd n (cw 5 0 A):=by
 rw[AS hA]
 split
 ·exact D1
 ·rename_i hu
  have ha:=J7 hA (by simpa using hu)
  refine J2 JZ (fun x hx=> ?_) (ZH ha) (by omega)
  obtain ⟨k,h1,h2⟩:=qH.1 hx
  unfold fU at h2
  split at h2
  ·exact (hA k h1).kids x h2
  ·split at h2
   ·cases h2
   ·rw[df.1 h2];exact hA k h1
theorem akn {n l:Int} {P A B:List Ex} (hP: ∀k∈P,Gd n k) (hA: ∀k∈A,Gd n k) (hB: ∀k∈B,Gd n k):cw 5 l (P++cw 5 0 A::B)=cw 5 l (P++(A++B)):=by
 have hg:=ZM hA
 have h1: ∀k∈P++cw 5 0 A::B,Gd n k:=fun k hk=>by
  rcases dp.1 hk with hk|hk
  ·exact hP k hk
  ·rcases cE.1 hk with rfl|hk
   ·exact hg
   ·exact hB k hk
 have h2: ∀k∈P++(A++B),Gd n k:=fun k hk=>(dp.1 hk).elim (hP k) fun hk=>(dp.1 hk).elim (hA k) (hB k)
 rw[AS h1,AS h2,List.any_append,List.any_append,List.any_cons,List.any_append]
 rw[AS hA] at*
 by_cases hu:A.any (fun k=>decide (k.op=1))=true
 ·rw[ai hu,hu];simp[dJ,Ex.op]
 ·have fu:A.any (fun k=>decide (k.op=1))=false:=by simpa using hu
  obtain ⟨m1,m2⟩:=ZL (R:=A.flatMap fU) (J7 hA fu)
  rw[aj hu,eB m2,fu]
  simp only[g9,GO,m1]
theorem ZN {n:Int} {x:Ex} (h:Gd n x):cw 5 0 [x]=x:=by
 rw[AS (n:=n) (by simpa using h)]
 simp only[List.any_cons,List.any_nil,Bool.or_false,g9,List.flatMap_nil,di]
 by_cases hu:x.op=1
 ·rw[dV hu,ai rfl,empty_eq h hu]
 ·rw[eB hu,aj (by simp)]
  unfold fU
  by_cases h4:x.op=5
  ·rw[ai h4]
   have hs:=ld h.shape
   obtain ⟨o,l,ks⟩:=x
   simp only[Ex.op,Ex.kids,Ex.letter] at*
   rw[akm (by omega),h4,show l=0 by omega]
  ·rw[aj h4]
   by_cases h1:x.op=2
   ·rw[ai h1,unit_eq h h1];rfl
   ·rw[aj h1];rfl
mutual
def pX (c:Int):Ex→List Ex
 | .node o l ks=>if o=3 then (if l=c then [eP] else []) else if o=4 then j6 c ks else if o=7 then (qi c ks).map fun p=>cw 5 0 [p,.node o l ks] else if o=5 then gS c ks else []
def j6 (c:Int):List Ex→List Ex
 | []=>[]
 | k::ks=>pX c k++j6 c ks
def qi (c:Int):List Ex→List Ex
 | []=>[]
 | k::_=>pX c k
def gS (c:Int):List Ex→List Ex
 | []=>[]
 | k::ks=>((pX c k).map fun p=>cw 5 0 (p::ks))++(if k.dK=true then gS c ks else [])
end
mutual
def aX:Ex→List Ex
 | .node o l ks=>if o=3 then [eP] else if o=4 then tw ks else if o=7 then (mJ ks).map fun p=>cw 5 0 [p,.node o l ks] else if o=5 then mK ks else []
def tw:List Ex→List Ex
 | []=>[]
 | k::ks=>aX k++tw ks
def mJ:List Ex→List Ex
 | []=>[]
 | k::_=>aX k
def mK:List Ex→List Ex
 | []=>[]
 | k::ks=>((aX k).map fun p=>cw 5 0 (p::ks))++mK ks
end
theorem mL {c o l:Int} {ks:List Ex}:pX c (.node o l ks)=if o=3 then (if l=c then [eP] else []) else if o=4 then j6 c ks else if o=7 then (qi c ks).map (fun p=>cw 5 0 [p,.node o l ks]) else if o=5 then gS c ks else []:=by rw[pX]
theorem tx {o l:Int} {ks:List Ex}:aX (.node o l ks)=if o=3 then [eP] else if o=4 then tw ks else if o=7 then (mJ ks).map (fun p=>cw 5 0 [p,.node o l ks]) else if o=5 then mK ks else []:=by rw[aX]
theorem D5 {c:Int} {x:Ex}: ∀{ks:List Ex},x∈j6 c ks↔∃k∈ks,x∈pX c k
 | []=>by simp[j6]
 | k::ks=>by rw[j6,dp,D5 (ks:=ks)];simp
theorem xt {x:Ex}: ∀{ks:List Ex},x∈tw ks↔∃k∈ks,x∈aX k
 | []=>by simp[tw]
 | k::ks=>by rw[tw,dp,xt (ks:=ks)];simp
theorem pc {c:Int} {k:Ex} {ks:List Ex} {x:Ex}:x∈gS c (k::ks)↔(∃p∈pX c k,x=cw 5 0 (p::ks))∨(k.dK=true∧x∈gS c ks):=by
 rw[gS,dp,dH]
 constructor
 ·rintro (⟨p,hp,rfl⟩|h)
  ·exact .inl ⟨p,hp,rfl⟩
  ·split at h
   ·next hk=>exact .inr ⟨hk,h⟩
   ·cases h
 ·rintro (⟨p,hp,rfl⟩|⟨hk,h⟩)
  ·exact .inl ⟨p,hp,rfl⟩
  ·rw[ai hk];exact .inr h
theorem tz {k:Ex} {ks:List Ex} {x:Ex}:x∈mK (k::ks)↔(∃p∈aX k,x=cw 5 0 (p::ks))∨x∈mK ks:=by
 rw[mK,dp,dH]
 simp only[eq_comm]
def Gn (e:Ex):Prop:=Gd 6 e∧e.op≠1
theorem RQ {K:List Ex} (h: ∀k∈K,Gn k):K.any (fun k=>decide (k.op=1))=false:=AR fun x hx=>eB (h x hx).2
theorem join_eq {K:List Ex} (h: ∀k∈K,Gn k):cw 5 0 K=eO 5 (K.flatMap fU) eP:=by
 rw[AS (n:=6) fun k hk=>(h k hk).1,RQ h];rfl
theorem ZO {K:List Ex} (h: ∀k∈K,Gn k): ∀x∈K.flatMap fU,Gn x∧x.op≠5∧x.op≠2:=fun x hx=>by
 have ha:=J7 (n:=6) (fun k hk=>(h k hk).1) (RQ h) x hx
 obtain ⟨k,h1,h2⟩:=qH.1 hx
 refine ⟨⟨?_,ha.2.1⟩,ha.1,ha.2.2⟩
 unfold fU at h2
 split at h2
 ·exact (h k h1).1.kids x h2
 ·split at h2
  ·cases h2
  ·rw[df.1 h2];exact (h k h1).1
theorem J8 {K:List Ex} (h: ∀k∈K,Gn k):Gn (cw 5 0 K):=by
 refine ⟨ZM fun k hk=>(h k hk).1,?_⟩
 rw[join_eq h]
 exact (ZL (J7 (n:=6) (fun k hk=>(h k hk).1) (RQ h))).2
theorem ZP:Gn eP:=⟨JZ,by simp[eP,Ex.op]⟩
theorem RR: ∀{M:List Ex},(∀x∈M,x.op≠5∧x.op≠2)→M.flatMap fU=M
 | [],_=>rfl
 | m::M,h=>by
  have hm:=h m (by simp)
  rw[g9,RR fun x hx=>h x (by simp[hx])]
  unfold fU
  rw[aj hm.1,aj hm.2]
  rfl
theorem ZQ {p:Ex} {K:List Ex} (hp:Gn p) (h: ∀k∈K,Gn k):cw 5 0 (p::K.flatMap fU)=cw 5 0 (p::K):=by
 have hm:=ZO h
 have h1: ∀k∈p::K.flatMap fU,Gn k:=fun k hk=>by
  rcases cE.1 hk with rfl|hk
  ·exact hp
  ·exact (hm k hk).1
 have h2: ∀k∈p::K,Gn k:=fun k hk=>by
  rcases cE.1 hk with rfl|hk
  ·exact hp
  ·exact h k hk
 rw[join_eq h1,join_eq h2,g9,g9,RR fun x hx=>(hm x hx).2]
theorem xu {e:Ex} (h:Gn e) (ho:e.op=5∨e.op=4∨e.op=7): ∀k∈e.kids,Gn k:=fun k hk=>by
 refine ⟨h.1.kids k hk,?_⟩
 rcases ho with ho|ho|ho
 ·exact (h.1.ok.2.2.1 ho k hk).2.1
 ·exact ((h.1.ok.2.2.2.1 ho).2 k hk).2.1
 ·exact (h.1.ok.2.1 ho k hk).1
theorem tA {c:Int}: ∀e:Ex,Gn e→∀x∈pX c e,Gn x:=ind fun o l ks ih he x hx=>by
 have hk:(o=5∨o=4∨o=7)→∀k∈ks,Gn k:=fun ho=>xu he ho
 rw[mL] at hx
 split at hx
 ·split at hx
  ·rw[df.1 hx];exact ZP
  ·cases hx
 split at hx
 ·next ho=>
  obtain ⟨k,h1,h2⟩:=D5.1 hx
  exact ih k h1 (hk (.inr (.inl ho)) k h1) x h2
 split at hx
 ·next ho=>
  obtain ⟨p,hp,rfl⟩:=dH.1 hx
  have nz:Gn p:=by
   cases ks with
   | nil=>simp[qi] at hp
   | cons k ks=>rw[qi] at hp;exact ih k (by simp) (hk (.inr (.inr ho)) k (by simp)) p hp
  exact J8 fun k hk=>by
   rcases cE.1 hk with rfl|hk
   ·exact nz
   ·rw[df.1 hk];exact he
 split at hx
 ·next ho=>
  have fV:=hk (.inl ho)
  clear hk he
  induction ks with
  | nil=>simp[gS] at hx
  | cons k ks iu=>
   rcases pc.1 hx with ⟨p,hp,rfl⟩|⟨_,h⟩
   ·exact J8 fun z hz=>by
     rcases cE.1 hz with rfl|hz
     ·exact ih k (by simp) (fV k (by simp)) _ hp
     ·exact fV z (by simp[hz])
   ·exact iu (fun z hz=>ih z (by simp[hz])) h fun z hz=>fV z (by simp[hz])
 ·cases hx
theorem RS {c:Int} {x:Ex}: ∀{A B:List Ex},x∈gS c (A++B)↔(∃P k Q p,A=P++k::Q∧(∀z∈P,z.dK=true)∧p∈pX c k∧x=cw 5 0 (p::(Q++B)))∨((∀z∈A,z.dK=true)∧x∈gS c B)
 | [],B=>by simp
 | k::A,B=>by
  rw[List.cons_append,pc,RS (A:=A)]
  constructor
  ·rintro (⟨p,hp,rfl⟩|⟨hk,⟨P,k',Q,p,rfl,h1,h2,rfl⟩|⟨h1,h2⟩⟩)
   ·exact .inl ⟨[],k,A,p,rfl,by simp,hp,rfl⟩
   ·exact .inl ⟨k::P,k',Q,p,rfl,fun z hz=>by
     rcases cE.1 hz with rfl|hz
     ·exact hk
     ·exact h1 z hz,h2,rfl⟩
   ·exact .inr ⟨fun z hz=>by
     rcases cE.1 hz with rfl|hz
     ·exact hk
     ·exact h1 z hz,h2⟩
  ·rintro (⟨P,k',Q,p,e,h1,h2,rfl⟩|⟨h1,h2⟩)
   ·cases P with
    | nil=>
     obtain ⟨rfl,rfl⟩:=qD e
     exact .inl ⟨p,h2,rfl⟩
    | cons a P=>
     obtain ⟨rfl,rfl⟩:=qD e
     exact .inr ⟨h1 _ (by simp),.inl ⟨P,k',Q,p,rfl,fun z hz=>h1 z (by simp[hz]),h2,rfl⟩⟩
   ·exact .inr ⟨h1 k (by simp),.inr ⟨fun z hz=>h1 z (by simp[hz]),h2⟩⟩
theorem ako {l:Int} {ks:List Ex}:(Ex.node 5 l ks).dK=true↔∀k∈ks,k.dK=true:=by
 have: ∀ks:List Ex,rR ks=true↔∀k∈ks,k.dK=true:=by
  intro ks
  induction ks with
  | nil=>simp[rR]
  | cons k ks ih=>simp[rR,ih]
 simp only[dK]
 simpa using this ks
theorem RT {e:Ex} {o:Int} (h:e.op=o):e= .node o e.letter e.kids:=by
 obtain ⟨o',l,ks⟩:=e
 obtain rfl:o'=o:=h
 rfl
theorem ZR {c:Int} {x:Ex}: ∀{K:List Ex},(∀k∈K,Gn k)→x∈gS c (K.flatMap fU)→x∈gS c K
 | [],_,h=>h
 | k::K,hg,h=>by
  have J9: ∀z∈K,Gn z:=fun z hz=>hg z (by simp[hz])
  have hk:=hg k (by simp)
  have ih:=ZR (c:=c) (x:=x) J9
  rw[g9] at h
  rw[pc]
  by_cases h5:k.op=5
  ·have hm:fU k=k.kids:=by unfold fU;rw[ai h5]
   have xw:=xu hk (.inl h5)
   have hp:pX c k=gS c k.kids:=by
    have:=congrArg (pX c) (RT h5)
    rw[mL] at this
    simpa using this
   have hn:k.dK=true↔∀z∈k.kids,z.dK=true:=by
    have:=congrArg Ex.dK (RT h5)
    rw[this];exact ako
   rw[hm] at h
   rcases RS.1 h with ⟨P,q,Q,p,e,h1,h2,rfl⟩|⟨h1,h2⟩
   ·refine .inl ⟨cw 5 0 (p::Q),?_,?_⟩
    ·rw[hp,e]
     have:=(RS (c:=c) (x:=cw 5 0 (p::Q)) (A:=P++q::Q) (B:=[])).2 (.inl ⟨P,q,Q,p,rfl,h1,h2,by simp⟩)
     simpa using this
    ·have hq:Gn q:=xw q (by rw[e];simp)
     have nz:=tA (c:=c) q hq p h2
     have hQ: ∀z∈p::Q,Gn z:=fun z hz=>by
      rcases cE.1 hz with rfl|hz
      ·exact nz
      ·exact xw z (by rw[e];simp[hz])
     have e1:=akn (n:=6) (l:=0) (P:=[]) (A:=p::Q) (B:=K) (by simp) (fun z hz=>(hQ z hz).1) (fun z hz=>(J9 z hz).1)
     rw[List.nil_append,List.nil_append] at e1
     rw[e1]
     have gj: ∀z∈Q++K,Gn z:=fun z hz=>(dp.1 hz).elim (fun hz=>hQ z (by simp[hz])) (J9 z)
     have e2:=ZQ nz gj
     rw[List.cons_append,←e2,GO]
     have hQ5: ∀z∈Q,z.op≠5∧z.op≠2:=fun z hz=>by
      have:=hk.1.ok.2.2.1 h5 z (by rw[e];simp[hz])
      exact ⟨this.1,this.2.2⟩
     rw[RR hQ5]
   ·exact .inr ⟨hn.2 h1,ih h2⟩
  ·by_cases h2:k.op=2
   ·have hm:fU k=[]:=by unfold fU;rw[aj h5,ai h2]
    rw[hm,List.nil_append] at h
    refine .inr ⟨?_,ih h⟩
    have:=congrArg Ex.dK (RT h2)
    rw[this];simp[dK]
   ·have hm:fU k=[k]:=by unfold fU;rw[aj h5,aj h2]
    rw[hm,List.singleton_append,pc] at h
    rcases h with ⟨p,hp,rfl⟩|⟨hn,h⟩
    ·exact .inl ⟨p,hp,ZQ (tA k hk p hp) J9⟩
    ·exact .inr ⟨hn,ih h⟩
theorem ZS {c:Int} {K:List Ex} (hg: ∀k∈K,Gn k) {x:Ex} (h:x∈pX c (cw 5 0 K)):x∈gS c K:=by
 refine ZR hg ?_
 rw[join_eq hg] at h
 have hm:=ZO hg
 generalize K.flatMap fU=M at*
 match M,hm,h with
 | [],_,h=>simp[eO,eP,mL] at h
 | [m],hm,h=>
  have h:x∈pX c m:=h
  rw[pc]
  have hx:=tA m (hm m (by simp)).1 x h
  exact .inl ⟨x,h,(ZN hx.1).symm⟩
 | m::m2::M,_,h=>
  have h:x∈pX c (.node 5 0 (m::m2::M)):=h
  rw[mL] at h
  simpa using h
theorem Ka {c:Int}: ∀e:Ex,∀x∈pX c e,x∈aX e:=ind fun o l ks ih x hx=>by
 rw[mL] at hx
 rw[tx]
 split at hx
 ·next ho=>
  rw[ai ho]
  split at hx
  ·exact hx
  ·cases hx
 next h3=>
 rw[aj h3]
 split at hx
 ·next ho=>
  rw[ai ho]
  obtain ⟨k,h1,h2⟩:=D5.1 hx
  exact xt.2 ⟨k,h1,ih k h1 x h2⟩
 next h4=>
 rw[aj h4]
 split at hx
 ·next ho=>
  rw[ai ho]
  obtain ⟨p,hp,rfl⟩:=dH.1 hx
  refine dH.2 ⟨p,?_,rfl⟩
  cases ks with
  | nil=>simp[qi] at hp
  | cons k ks=>rw[qi] at hp;rw[mJ];exact ih k (by simp) p hp
 next h7=>
 rw[aj h7]
 split at hx
 ·next ho=>
  rw[ai ho]
  clear h3 h4 h7 ho
  induction ks with
  | nil=>simp[gS] at hx
  | cons k ks iu=>
   rcases pc.1 hx with ⟨p,hp,rfl⟩|⟨_,h⟩
   ·exact tz.2 (.inl ⟨p,ih k (by simp) p hp,rfl⟩)
   ·exact tz.2 (.inr (iu (fun z hz=>ih z (by simp[hz])) h))
 ·cases hx
theorem RU: ∀e:Ex,Gn e→∀x∈aX e,Gn x:=ind fun o l ks ih he x hx=>by
 have hk:(o=5∨o=4∨o=7)→∀k∈ks,Gn k:=fun ho=>xu he ho
 rw[tx] at hx
 split at hx
 ·rw[df.1 hx];exact ZP
 split at hx
 ·next ho=>
  obtain ⟨k,h1,h2⟩:=xt.1 hx
  exact ih k h1 (hk (.inr (.inl ho)) k h1) x h2
 split at hx
 ·next ho=>
  obtain ⟨p,hp,rfl⟩:=dH.1 hx
  have nz:Gn p:=by
   cases ks with
   | nil=>simp[mJ] at hp
   | cons k ks=>rw[mJ] at hp;exact ih k (by simp) (hk (.inr (.inr ho)) k (by simp)) p hp
  exact J8 fun k hk=>by
   rcases cE.1 hk with rfl|hk
   ·exact nz
   ·rw[df.1 hk];exact he
 split at hx
 ·next ho=>
  have fV:=hk (.inl ho)
  clear hk he
  induction ks with
  | nil=>simp[mK] at hx
  | cons k ks iu=>
   rcases tz.1 hx with ⟨p,hp,rfl⟩|h
   ·exact J8 fun z hz=>by
     rcases cE.1 hz with rfl|hz
     ·exact ih k (by simp) (fV k (by simp)) _ hp
     ·exact fV z (by simp[hz])
   ·exact iu (fun z hz=>ih z (by simp[hz])) h fun z hz=>fV z (by simp[hz])
 ·cases hx
theorem akp {c:Int}: ∀e:Ex,Gn e→∀q∈aX e,∀x∈pX c q,x∈aX e:=ind fun o l ks ih he q hq x hx=>by
 have hk:(o=5∨o=4∨o=7)→∀k∈ks,Gn k:=fun ho=>xu he ho
 rw[tx] at hq⊢
 split at hq
 ·rw[df.1 hq,eP,mL] at hx
  simp at hx
 next h3=>
 split at hq
 ·next ho=>
  rw[aj h3,ai ho]
  obtain ⟨k,h1,h2⟩:=xt.1 hq
  exact xt.2 ⟨k,h1,ih k h1 (hk (.inr (.inl ho)) k h1) q h2 x hx⟩
 next h4=>
 split at hq
 ·next ho=>
  rw[aj h3,aj h4,ai ho]
  obtain ⟨p,hp,rfl⟩:=dH.1 hq
  cases ks with
  | nil=>simp[mJ] at hp
  | cons k ks=>
   rw[mJ] at hp
   have fV:=hk (.inr (.inr ho)) k (by simp)
   have nz:=RU k fV p hp
   have RV: ∀z∈[p,Ex.node o l (k::ks)],Gn z:=fun z hz=>by
    rcases cE.1 hz with rfl|hz
    ·exact nz
    ·rw[df.1 hz];exact he
   rcases pc.1 (ZS RV hx) with ⟨p',hp',rfl⟩|⟨_,h⟩
   ·exact dH.2 ⟨p',by rw[mJ];exact ih k (by simp) fV p hp p' hp',rfl⟩
   ·rcases pc.1 h with ⟨p',hp',rfl⟩|⟨_,h⟩
    ·rw[ZN (tA _ he p' hp').1]
     have:=Ka _ p' hp'
     rw[tx,aj h3,aj h4,ai ho] at this
     exact this
    ·simp[gS] at h
 next h7=>
 split at hq
 ·next ho=>
  rw[aj h3,aj h4,aj h7,ai ho]
  have fV:=hk (.inl ho)
  clear h3 h4 h7 ho hk he
  induction ks with
  | nil=>simp[mK] at hq
  | cons k ks iu=>
   have bD: ∀z∈ks,Gn z:=fun z hz=>fV z (by simp[hz])
   rcases tz.1 hq with ⟨p,hp,rfl⟩|h
   ·have nz:=RU k (fV k (by simp)) p hp
    have RV: ∀z∈p::ks,Gn z:=fun z hz=>by
     rcases cE.1 hz with rfl|hz
     ·exact nz
     ·exact bD z hz
    rcases pc.1 (ZS RV hx) with ⟨p',hp',rfl⟩|⟨_,h⟩
    ·exact tz.2 (.inl ⟨p',ih k (by simp) (fV k (by simp)) p hp p' hp',rfl⟩)
    ·refine tz.2 (.inr ?_)
     have:=Ka (c:=c) (.node 5 0 ks) x (by rw[mL];simpa using h)
     rw[tx] at this
     simpa using this
   ·exact tz.2 (.inr (iu (fun z hz=>ih z (by simp[hz])) h bD))
 ·cases hq
theorem akq: ∀e:Ex,(aX e).length≤e.size:=ind fun o l ks ih=>by
 have h4: ∀ks:List Ex,(∀k∈ks,(aX k).length≤k.size)→(tw ks).length≤aL ks:=by
  intro ks
  induction ks with
  | nil=>intro _;simp[tw,aL]
  | cons k ks iu=>
   intro h
   have a:=h k (by simp)
   have b:=iu fun z hz=>h z (by simp[hz])
   simp only[tw,aL,cg];omega
 have h5: ∀ks:List Ex,(∀k∈ks,(aX k).length≤k.size)→(mK ks).length≤aL ks:=by
  intro ks
  induction ks with
  | nil=>intro _;simp[mK,aL]
  | cons k ks iu=>
   intro h
   have a:=h k (by simp)
   have b:=iu fun z hz=>h z (by simp[hz])
   simp only[mK,aL,cg,bc];omega
 have h7:(mJ ks).length≤aL ks:=by
  cases ks with
  | nil=>simp[mJ]
  | cons k ks=>have:=ih k (by simp);simp only[mJ,aL];omega
 have a:=h4 ks ih
 have b:=h5 ks ih
 rw[tx]
 simp only[size]
 repeat' split
 all_goals simp
 all_goals omega
theorem ZT {p:Ex} {K:List Ex}:(cw 5 0 (p::K)).size≤1+(p.size+aL K):=by
 have h1:(cw 5 0 (p::K)).size≤1+aL (p::K):=by
  rw[AQ]
  have:=xr 5 (p::K)
  have h2:=J0 (fun k=>decide (k.op≠2)) (cr 5 (p::K))
  split
  ·simp only[dJ,size,aL];omega
  ·exact J1 (by omega) (by simp only[eP,size,aL];omega)
 simpa only[aL] using h1
theorem AT {a b:Nat} (h:a≤b):a*a+3*a≤b*b+3*b:=by
 have:=Nat.mul_le_mul h h
 omega
theorem ZU: ∀e:Ex,∀x∈aX e,2*x.size+2≤e.size*e.size+3*e.size:=ind fun o l ks ih x hx=>by
 have hz:(Ex.node o l ks).size=1+aL ks:=by simp only[size]
 have pR:1*1+3*1≤(Ex.node o l ks).size*(Ex.node o l ks).size+3*(Ex.node o l ks).size:=AT (size_pos _)
 rw[tx] at hx
 split at hx
 ·rw[df.1 hx];exact pR
 split at hx
 ·obtain ⟨k,h1,h2⟩:=xt.1 hx
  have a:=ih k h1 x h2
  have b:=AO h1
  have c:=AT (show k.size≤(Ex.node o l ks).size by omega)
  omega
 split at hx
 ·obtain ⟨p,hp,rfl⟩:=dH.1 hx
  cases ks with
  | nil=>simp[mJ] at hp
  | cons k ks=>
   rw[mJ] at hp
   have a:=ih k (by simp) p hp
   have b:=ZT (p:=p) (K:=[.node o l (k::ks)])
   have c:=AT (show 1+k.size≤(Ex.node o l (k::ks)).size by rw[hz];simp only[aL];omega)
   have d:(Ex.node o l (k::ks)).size=1+k.size+aL ks:=by rw[hz];simp only[aL];omega
   have e:(1+k.size)*(1+k.size)=1+2*k.size+k.size*k.size:=by simp only[dU,Nat.mul_add];omega
   have f:(1+k.size+aL ks)*(1+k.size+aL ks)=(1+k.size)*(1+k.size)+2*((1+k.size)*aL ks)+aL ks*aL ks:=by
    rw[dU (1+k.size) (aL ks),Nat.mul_add (1+k.size) (1+k.size),Nat.mul_add (aL ks) (1+k.size),l9 (aL ks) (1+k.size)];omega
   have g:aL ks≤(1+k.size)*aL ks:=by rw[dU];omega
   simp only[aL] at b
   rw[d] at b⊢
   omega
 split at hx
 ·have go: ∀ks:List Ex,(∀k∈ks,∀x∈aX k,2*x.size+2≤k.size*k.size+3*k.size)→x∈mK ks→2*x.size+2≤(1+aL ks)*(1+aL ks)+3*(1+aL ks):=by
   intro ks
   induction ks with
   | nil=>intro _ h;simp[mK] at h
   | cons k ks iu=>
    intro h hx
    rcases tz.1 hx with ⟨p,hp,rfl⟩|hx
    ·have a:=h k (by simp) p hp
     have b:=ZT (p:=p) (K:=ks)
     simp only[aL,dU,Nat.mul_add] at*
     omega
    ·have a:=iu (fun z hz=>h z (by simp[hz])) hx
     have b:=AT (show 1+aL ks≤1+aL (k::ks) by simp only[aL];omega)
     omega
  rw[hz]
  exact go ks ih hx
 ·cases hx
theorem D6 {c:Int}: ∀e:Ex,(pX c e).length≤e.size:=ind fun o l ks ih=>by
 have h4: ∀ks:List Ex,(∀k∈ks,(pX c k).length≤k.size)→(j6 c ks).length≤aL ks:=by
  intro ks
  induction ks with
  | nil=>intro _;simp[j6,aL]
  | cons k ks iu=>
   intro h
   have a:=h k (by simp)
   have b:=iu fun z hz=>h z (by simp[hz])
   simp only[j6,aL,cg];omega
 have h5: ∀ks:List Ex,(∀k∈ks,(pX c k).length≤k.size)→(gS c ks).length≤aL ks:=by
  intro ks
  induction ks with
  | nil=>intro _;simp[gS,aL]
  | cons k ks iu=>
   intro h
   have a:=h k (by simp)
   have b:=iu fun z hz=>h z (by simp[hz])
   rw[gS]
   simp only[aL,cg,bc]
   split
   ·omega
   ·simp;omega
 have h7:(qi c ks).length≤aL ks:=by
  cases ks with
  | nil=>simp[qi]
  | cons k ks=>have:=ih k (by simp);simp only[qi,aL];omega
 have a:=h4 ks ih
 have b:=h5 ks ih
 rw[mL]
 simp only[size]
 repeat' split
 all_goals simp
 all_goals omega
end Go.AM
namespace Go.AM
theorem ZV: ∀(x:Nat),x≠0→∃k m,x=2^k*(2*m+1):=by
 intro x
 induction x using Nat.strongRecOn with
 | ind x ih=>
  intro hx
  by_cases h:x %2=1
  ·exact ⟨0,x/2,by simp;omega⟩
  ·obtain ⟨k,m,hm⟩:=ih (x/2) (by omega) (by omega)
   refine ⟨k+1,m,?_⟩
   rw[Nat.pow_succ,Nat.mul_assoc,l9 2 (2*m+1),←Nat.mul_assoc,←hm]
   omega
theorem tB {k m j:Nat}:(2^k*(2*m+1)).testBit j=(decide (j=k)||(decide (k<j)&&m.testBit (j-k-1))):=by
 rw[Nat.testBit_two_pow_mul]
 by_cases h:j<k
 ·have h1: ¬k≤j:=by omega
  have h2: ¬j=k:=by omega
  have h3: ¬k<j:=by omega
  simp[h1,h2,h3]
 ·by_cases h2:j=k
  ·subst h2;simp
  ·have h3:k<j:=by omega
   obtain ⟨d,hd⟩: ∃d,j-k=d+1:=⟨j-k-1,by omega⟩
   have h4:k≤j:=by omega
   rw[hd,Nat.testBit_succ]
   have h5:(2*m+1)/2=m:=by omega
   have h6:j-k-1=d:=by omega
   rw[h5]
   simp[h2,h3,h4]
theorem Kb {k m j:Nat}:(2^k*(2*m)).testBit j=(decide (k<j)&&m.testBit (j-k-1)):=by
 rw[Nat.testBit_two_pow_mul]
 by_cases h:j<k
 ·have h1: ¬k≤j:=by omega
  have h3: ¬k<j:=by omega
  simp[h1,h3]
 ·by_cases h2:j=k
  ·subst h2;simp
  ·have h3:k<j:=by omega
   obtain ⟨d,hd⟩: ∃d,j-k=d+1:=⟨j-k-1,by omega⟩
   have h4:k≤j:=by omega
   rw[hd,Nat.testBit_succ]
   have h5:2*m/2=m:=by omega
   have h6:j-k-1=d:=by omega
   rw[h5]
   simp[h3,h4]
theorem D7 {k m:Nat} (h:2^k*(2*m+1)<2^64):k<64∧m<2^(63-k):=by
 have h1:2^k≤2^k*(2*m+1):=Nat.le_mul_of_pos_right _ (by omega)
 have hk:k<64:=(Nat.pow_lt_pow_iff_right (by omega:1<2)).1 (nH h1 h)
 refine ⟨hk,?_⟩
 have h2:2^64=2^k*(2*2^(63-k)):=by
  have h4:2*2^(63-k)=2^(63-k+1):=by rw[Nat.pow_succ,l9]
  rw[h4,←Nat.pow_add];congr 1;omega
 rw[h2] at h
 have:=Nat.lt_of_mul_lt_mul_left h
 omega
theorem akr {k m:Nat} (h:2^k*(2*m+1)<2^64):2^64-2^k*(2*m+1)=2^k*(2*(2^(63-k)-(m+1))+1):=by
 obtain ⟨hk,hm⟩:=D7 h
 have h2:2^64=2^k*(2*2^(63-k)):=by
  have h4:2*2^(63-k)=2^(63-k+1):=by rw[Nat.pow_succ,l9]
  rw[h4,←Nat.pow_add];congr 1;omega
 rw[h2,←Nat.mul_sub]
 congr 1
 omega
theorem aks {k m:Nat} (h:2^k*(2*m+1)<2^64):(2^k*(2*m+1))&&&(2^64-2^k*(2*m+1))=2^k:=by
 obtain ⟨hk,hm⟩:=D7 h
 rw[akr h]
 apply yZ
 intro j
 rw[sm,tB,tB,lp,Nat.testBit_two_pow_sub_succ hm]
 by_cases h1:j=k
 ·simp[h1]
 ·have h2: ¬k=j:=fun h=>h1 h.symm
  cases m.testBit (j-k-1)<;>simp[h1,h2]
theorem ZW {k m:Nat}:(2^k*(2*m+1))&&&(2^k*(2*m+1)-1)=2^k*(2*m):=by
 have e:2^k*(2*m+1)-1=2^k*(2*m)+(2^k-1):=by
  have:0<2^k:=pF (by simp)
  rw[Nat.mul_add];omega
 rw[e]
 apply yZ
 intro j
 have aR:2^k-1<2^k:=by have:0<2^k:=pF (by simp);omega
 rw[sm,tB,Kb,Nat.testBit_two_pow_mul_add _ aR,y5]
 by_cases h1:j<k
 ·have h2: ¬j=k:=by omega
  have h3: ¬k<j:=by omega
  simp[h1,h2,h3]
 ·by_cases h2:j=k
  ·subst h2
   simp
  ·have h3:k<j:=by omega
   obtain ⟨d,hd⟩: ∃d,j-k=d+1:=⟨j-k-1,by omega⟩
   have h5:2*m/2=m:=by omega
   have h6:j-k-1=d:=by omega
   rw[hd,Nat.testBit_succ,h5]
   simp[h1,h2,h3]
def mem (s:Nat):List Nat:=(List.range 64).filter s.testBit
theorem akt {p q:Nat→Bool} {k:Nat} (hp:p k=true) (hq: ∀j,j≤k→q j=false) (aku: ∀j,j<k→p j=false) (heq: ∀j,k<j→p j=q j):
  ∀n,k<n→(List.range n).filter p=k::(List.range n).filter q:=by
 have hz: ∀n,n≤k→(List.range n).filter p=[]∧(List.range n).filter q=[]:=by
  intro n hn
  constructor<;>rw[List.filter_eq_nil_iff]<;>intro j hj<;>rw[yV] at hj
  ·simp[aku j (by omega)]
  ·simp[hq j (by omega)]
 intro n
 induction n with
 | zero=>intro h;omega
 | succ n ih=>
  intro hk
  rw[List.range_succ,mb,mb]
  by_cases h:k<n
  ·rw[ih h]
   simp[ma,heq n h]
  ·have:k=n:=by omega
   subst this
   obtain ⟨h1,h2⟩:=hz k (bC _)
   rw[h1,h2]
   simp[ma,hp,hq k (bC _)]
theorem akv:mem 0=[]:=by
 unfold mem
 rw[List.filter_eq_nil_iff]
 intro j _
 simp
theorem akw {k m:Nat} (hk:k<64):mem (2^k*(2*m+1))=k::mem (2^k*(2*m)):=by
 unfold mem
 refine akt ?_ ?_ ?_ ?_ 64 hk
 ·rw[tB];simp
 ·intro j hj
  rw[Kb]
  have: ¬k<j:=by omega
  simp[this]
 ·intro j hj
  rw[tB]
  have h1: ¬k<j:=by omega
  have h2: ¬j=k:=by omega
  simp[h1,h2]
 ·intro j hj
  rw[tB,Kb]
  have h2: ¬j=k:=by omega
  simp[h2]
theorem mem_iff {s j:Nat} (hs:s<2^64):j∈mem s↔s.testBit j=true:=by
 unfold mem
 rw[lr,yV]
 refine ⟨fun h=>h.2,fun h=>⟨?_,h⟩⟩
 by_cases hj:j<64
 ·exact hj
 ·have:s.testBit j=false:=BW (mX hs (ue (by omega) (by omega)))
  rw[this] at h;cases h
theorem D8 (s:Nat):(mem s).length≤64:=by
 unfold mem
 exact jb (vN _ _) (by simp)
end Go.AM
set_option maxRecDepth 100000
namespace Go.AM
open Go.Proofs Ex
structure Gl where
 a:Nat
 z:Nat
 n:Bool
 ps:Nat
 fo:Nat→Nat
def kG (x y:Nat) (fo:Nat→Nat):Nat→Nat:=fun i=>if x.testBit i=true then fo i|||y else fo i
def pd (g k:Gl):Gl:=⟨g.a|||k.a,g.z|||k.z,g.n||k.n,k.ps,k.fo⟩
def mM (g k:Gl):Gl:=⟨if g.n then g.a|||k.a else g.a,(if k.n then g.z else 0)|||k.z,g.n&&k.n,k.ps,kG g.z k.a k.fo⟩
mutual
def cx:Ex→Nat→(Nat→Nat)→Gl
 | .node o _ ks,ps,fo=>
  if o=2 then ⟨0,0,true,ps,fo⟩
  else if o=3 then ⟨2^(ps+1),2^(ps+1),false,ps+1,fo⟩
  else if o=4 then j7 ks ⟨0,0,false,ps,fo⟩
  else if o=5 then j8 ks ⟨0,0,true,ps,fo⟩
  else if o=7 then Kc ks ps fo
  else ⟨0,0,false,ps,fo⟩
def j7:List Ex→Gl→Gl
 | [],g=>g
 | k::ks,g=>j7 ks (pd g (cx k g.ps g.fo))
def j8:List Ex→Gl→Gl
 | [],g=>g
 | k::ks,g=>j8 ks (mM g (cx k g.ps g.fo))
def Kc:List Ex→Nat→(Nat→Nat)→Gl
 | [],ps,fo=>⟨0,0,false,ps,fo⟩
 | k::_,ps,fo=>let g:=cx k ps fo;⟨g.a,g.z,true,g.ps,kG g.z g.a g.fo⟩
end
mutual
def bG:Ex→List Int
 | .node o l ks=>if o=3 then [l] else dA ks
def dA:List Ex→List Int
 | []=>[]
 | k::ks=>bG k++dA ks
end
def eX (lo hi x:Nat):Prop:= ∀j,x.testBit j=true→lo<j∧j≤hi
theorem eX.zero {lo hi:Nat}:eX lo hi 0:=fun j h=>by simp at h
theorem eX.or {lo hi x y:Nat} (h:eX lo hi x) (h2:eX lo hi y):eX lo hi (x|||y):=fun j hj=>by
 rw[gF,nL] at hj
 rcases hj with hj|hj
 ·exact h j hj
 ·exact h2 j hj
theorem eX.mono {lo hi ZX dX x:Nat} (h:eX lo hi x) (h1:ZX≤lo) (h2:hi≤dX):eX ZX dX x:=fun j hj=>by have:=h j hj;omega
theorem eX.lt {lo hi x:Nat} (h:eX lo hi x) (h1:hi<64):x<2^64:=by
 refine Nat.lt_of_not_le fun hx=> ?_
 obtain ⟨i,hi,hb⟩:=Nat.exists_ge_and_testBit_of_ge_two_pow hx
 have:=h i hb
 omega
structure mN (N:Nat) (fo:Nat→Nat):Prop where
 b: ∀i,eX 0 N (fo i)
 s: ∀i,N<i→fo i=0
theorem ZY {N x y:Nat} {fo:Nat→Nat} (h:mN N fo) (hx:eX 0 N x) (hy:eX 0 N y):mN N (kG x y fo) where
 b:=fun i=>by
  unfold kG;split
  ·exact (h.b i).or hy
  ·exact h.b i
 s:=fun i hi=>by
  unfold kG
  rw[aj (fun hb=>by have:=hx i hb;omega)]
  exact h.s i hi
theorem mN.mono {N M:Nat} {fo:Nat→Nat} (h:mN N fo) (hm:N≤M):mN M fo:=⟨fun i=>(h.b i).mono (bC _) hm,fun i hi=>h.s i (by omega)⟩
structure gT (lo f0:Nat) (g:Gl):Prop where
 le:lo≤g.ps
 a:eX lo g.ps g.a
 z:eX lo g.ps g.z
 fo:mN g.ps g.fo
 f0:g.fo 0=f0
theorem ZZ {lo hi x y:Nat} {fo:Nat→Nat} (h:eX lo hi x):kG x y fo 0=fo 0:=by
 unfold kG
 rw[aj]
 intro hb
 have:=h 0 hb
 omega
theorem gT.alt {lo f0:Nat} {g k:Gl} (h:gT lo f0 g) (h2:gT g.ps (g.fo 0) k):gT lo f0 (pd g k) where
 le:=jb h.le h2.le
 a:=(h.a.mono (bC _) h2.le).or (h2.a.mono h.le (bC _))
 z:=(h.z.mono (bC _) h2.le).or (h2.z.mono h.le (bC _))
 fo:=h2.fo
 f0:=h2.f0.trans h.f0
theorem gT.cat {lo f0:Nat} {g k:Gl} (h:gT lo f0 g) (h2:gT g.ps (g.fo 0) k):gT lo f0 (mM g k) where
 le:=jb h.le h2.le
 a:=by
  show eX lo k.ps (if g.n then g.a|||k.a else g.a)
  split
  ·exact (h.a.mono (bC _) h2.le).or (h2.a.mono h.le (bC _))
  ·exact h.a.mono (bC _) h2.le
 z:=by
  show eX lo k.ps ((if k.n then g.z else 0)|||k.z)
  refine eX.or ?_ (h2.z.mono h.le (bC _))
  split
  ·exact h.z.mono (bC _) h2.le
  ·exact .zero
 fo:=ZY h2.fo (h.z.mono (fS _) h2.le) (h2.a.mono (fS _) (bC _))
 f0:=(ZZ h.z).trans (h2.f0.trans h.f0)
theorem gT.star {lo f0:Nat} {g:Gl} (h:gT lo f0 g):gT lo f0 ⟨g.a,g.z,true,g.ps,kG g.z g.a g.fo⟩ where
 le:=h.le
 a:=h.a
 z:=h.z
 fo:=ZY h.fo (h.z.mono (fS _) (bC _)) (h.a.mono (fS _) (bC _))
 f0:=(ZZ h.z).trans h.f0
mutual
def lT:Ex→Bool
 | .node o _ ks=>(decide (o=6)||decide (o=8))||u9 ks
def u9:List Ex→Bool
 | []=>false
 | k::ks=>lT k||u9 ks
end
theorem D9: ∀ks,u9 ks=ks.any lT
 | []=>by simp[u9]
 | k::ks=>by simp[u9,D9 ks]
theorem Z0 {letters:Int}: ∀{ks:List Ex},iq letters ks=true→∀k∈ks,k.wf letters=true
 | [],_,k,h=>by simp at h
 | a::ks,h,k,hk=>by
  simp only[iq,aT] at h
  rcases cE.1 hk with rfl|hk
  ·exact h.1
  ·exact Z0 h.2 k hk
def Pl (letters:Int) (e:Ex):Prop:=e.wf letters=true∧lT e=false
theorem Pl.iJ {letters o l:Int} {ks:List Ex} (h:Pl letters (.node o l ks)): ∀k∈ks,Pl letters k:=fun k hk=>by
 obtain ⟨h1,h2⟩:=h
 simp only[wf,aT] at h1
 simp only[lT,D9,GQ] at h2
 exact ⟨Z0 h1.2 k hk,by
  have:=h2.2
  rw[List.any_eq_false] at this
  simpa using this k hk⟩
theorem Pl.shape {letters o l:Int} {ks:List Ex} (h:Pl letters (.node o l ks)):((o=1∨o=2)∧ks=[])∨(o=3∧ks=[]∧0≤l∧l<letters)∨(o=7∧∃k,ks=[k])∨(o=4∨o=5):=by
 obtain ⟨h1,h2⟩:=h
 simp only[wf,aT] at h1
 simp only[lT,GQ,y6] at h2
 have hs:=h1.1
 unfold im at hs
 by_cases h3:o=3
 ·rw[ai h3] at hs
  obtain ⟨a,b,c⟩:=fk hs
  exact .inr (.inl ⟨h3,BY.1 (by omega),b,c⟩)
 rw[aj h3] at hs
 simp only[aT] at hs
 obtain ⟨_,hs⟩:=hs
 by_cases AU:o=1∨o=2
 ·rw[ai AU] at hs
  have:=fk hs
  exact .inl ⟨AU,BY.1 (by omega)⟩
 rw[aj AU] at hs
 by_cases rU:o=7∨o=8
 ·rw[ai rU] at hs
  have hs:=fk hs
  refine .inr (.inr (.inl ⟨by omega,?_⟩))
  match ks,hs with
  | [k],_=>exact ⟨k,rfl⟩
  | [],h=>simp at h
  | _::_::_,h=>simp at h;omega
 ·rw[aj rU] at hs
  obtain ⟨h4,h6,hn⟩:=fk hs
  exact .inr (.inr (.inr (by omega)))
theorem akx {ks:List Ex} (ih: ∀k∈ks,∀ps fo,mN ps fo→gT ps (fo 0) (cx k ps fo)∧(cx k ps fo).ps=ps+(bG k).length):
  ∀{lo f0:Nat} {g:Gl},gT lo f0 g→gT lo f0 (j7 ks g)∧(j7 ks g).ps=g.ps+(dA ks).length:=by
 induction ks with
 | nil=>intro lo f0 g h;simp only[j7,dA];exact ⟨h,rfl⟩
 | cons k ks jN=>
  intro lo f0 g h
  obtain ⟨h1,h2⟩:=ih k (by simp) g.ps g.fo h.fo
  obtain ⟨h3,h4⟩:=jN (fun k hk=>ih k (by simp[hk])) (h.alt h1)
  simp only[j7,dA,cg]
  refine ⟨h3,h4.trans ?_⟩
  show (cx k g.ps g.fo).ps+_=_
  omega
theorem aky {ks:List Ex} (ih: ∀k∈ks,∀ps fo,mN ps fo→gT ps (fo 0) (cx k ps fo)∧(cx k ps fo).ps=ps+(bG k).length):
  ∀{lo f0:Nat} {g:Gl},gT lo f0 g→gT lo f0 (j8 ks g)∧(j8 ks g).ps=g.ps+(dA ks).length:=by
 induction ks with
 | nil=>intro lo f0 g h;simp only[j8,dA];exact ⟨h,rfl⟩
 | cons k ks jN=>
  intro lo f0 g h
  obtain ⟨h1,h2⟩:=ih k (by simp) g.ps g.fo h.fo
  obtain ⟨h3,h4⟩:=jN (fun k hk=>ih k (by simp[hk])) (h.cat h1)
  simp only[j8,dA,cg]
  refine ⟨h3,h4.trans ?_⟩
  show (cx k g.ps g.fo).ps+_=_
  omega
theorem Kd {letters:Int}: ∀e:Ex,Pl letters e→∀ps fo,mN ps fo→gT ps (fo 0) (cx e ps fo)∧(cx e ps fo).ps=ps+(bG e).length:=
 ind fun o l ks ih hp ps fo gk=>by
  have jR: ∀k∈ks,∀ps fo,mN ps fo→gT ps (fo 0) (cx k ps fo)∧(cx k ps fo).ps=ps+(bG k).length:=fun k hk=>ih k hk (hp.iJ k hk)
  have z0: ∀b,gT ps (fo 0) ⟨0,0,b,ps,fo⟩:=fun b=>⟨bC _,.zero,.zero,gk,rfl⟩
  rcases hp.shape with ⟨h,rfl⟩|⟨rfl,rfl,_⟩|⟨rfl,k,rfl⟩|h
  ·rcases h with rfl|rfl
   ·simp only[cx,bG,dA];exact ⟨z0 _,rfl⟩
   ·simp only[cx,bG,dA];exact ⟨z0 _,rfl⟩
  ·simp only[cx,bG]
   have hb:eX ps (ps+1) (2^(ps+1)):=fun j hj=>by
    rw[lp] at hj
    have:=fk hj
    omega
   exact ⟨⟨by show ps≤ps+1;omega,hb,hb,gk.mono (by show ps≤ps+1;omega),rfl⟩,rfl⟩
  ·obtain ⟨h1,h2⟩:=jR k (by simp) ps fo gk
   simp only[cx,Kc,bG,dA]
   exact ⟨h1.star,by simpa using h2⟩
  ·rcases h with rfl|rfl
   ·simp only[cx,bG]
    exact akx jR (z0 _)
   ·simp only[cx,bG]
    exact aky jR (z0 _)
end Go.AM
