/-
  Functions of the program, lifted to plain data.
-/
import Derived.Test.YtmknicoledcapaaGreatDoorProg
import Derived.Tactics
import Derived.Tactics2
import Derived.StillTactics
import Derived.Laws.Pointers
import Derived.Lib.LazyBuf
import Derived.RegionTactic
import Derived.LoopTactic
import Derived.WalkKit
import Derived.Laws.Externs
import Derived.Lib.Builder
import Derived.Recover
import Derived.Test.YtmknicoledcapaaGreatDoorRows
import Derived.Lib.LaidTab
import Derived.LaidHandle
import Derived.MakeChecks
import Derived.Lay
import Derived.Test.YtmknicoledcapaaGreatDoorP4
set_option linter.unusedVariables false
set_option linter.unusedSimpArgs false
set_option linter.unusedSectionVars false
set_option maxRecDepth 100000
namespace Go.AM
open Go.IntKind (wrap)
open Go.Proofs
abbrev cI:FuncId:=205
abbrev vI(n:Int):V:=V.int .i64 n
abbrev ec(l:List V):V:=V.list 63 l
abbrev dd(l:List V):V:=V.list 50 l
abbrev gR(l:List V):V:=V.list 265 l
abbrev b8(l:List V):V:=V.list 140 l
abbrev av(l:List V):V:=V.list 4 l
abbrev ab(l:List V):V:=V.list 3 l
abbrev ah(l:List V):V:=V.list 22 l
abbrev oB(l:List V):V:=V.list 64 l
abbrev dL(l:List V):V:=V.list 110 l
abbrev cZ(l:List V):V:=V.list 278 l
abbrev cY(l:List V):V:=V.list 9 l
abbrev sx(l:List V):V:=V.list 182 l
abbrev ew(l:List V):V:=V.list 39 l
@[simp] abbrev gI (r:List V):=(V.nth r 0).toInt
@[simp] abbrev gL (r:List V):=(V.nth r 0).toList
@[simp] abbrev gB (r:List V):=(V.nth r 0).toBool
@[simp] abbrev gS (r:List V):=(V.nth r 0).toStr
abbrev Yg:Nat:=253
abbrev Vd:Nat:=261
abbrev FP:Nat:=270
def By:List V:=[.int .u8 0,.int .u8 1,.int .u8 56,.int .u8 2,.int .u8 57,.int .u8 49,.int .u8 28,.int .u8 3,.int .u8 61,.int .u8 58,.int .u8 42,.int .u8 50,.int .u8 38,.int .u8 29,.int .u8 17,.int .u8 4,.int .u8 62,.int .u8 47,.int .u8 59,.int .u8 36,.int .u8 45,.int .u8 43,.int .u8 51,.int .u8 22,.int .u8 53,.int .u8 39,.int .u8 33,.int .u8 30,.int .u8 24,.int .u8 18,.int .u8 12,.int .u8 5,.int .u8 63,.int .u8 55,.int .u8 48,.int .u8 27,.int .u8 60,.int .u8 41,.int .u8 37,.int .u8 16,.int .u8 46,.int .u8 35,.int .u8 44,.int .u8 21,.int .u8 52,.int .u8 32,.int .u8 23,.int .u8 11,.int .u8 54,.int .u8 26,.int .u8 40,.int .u8 15,.int .u8 34,.int .u8 20,.int .u8 31,.int .u8 10,.int .u8 25,.int .u8 14,.int .u8 19,.int .u8 9,.int .u8 13,.int .u8 8,.int .u8 7,.int .u8 6]
abbrev aa:VS:= .one (.int .i64)
abbrev aj:VS:= .one (.bool)
abbrev vj:VS:= .one (.nl 3)
abbrev aJ:VS:= .one (.az 0 0 0)
abbrev da:VS:= .one (.list 22)
abbrev dg:VS:= .one (.list 3)
abbrev bZ:VS:= .one (.az 1 0 0)
abbrev dM:VS:= .one (.int .u64)
abbrev dF:VS:= .one (.list 50)
abbrev ju:VS:= .one (.str)
abbrev cU:VS:= .one (.az 2 0 0)
abbrev cg:VS:= .one (.whole 50 0)
abbrev vk:VS:= .one (.list 4)
abbrev cW:VS:= .one (.whole 63 0)
abbrev dC:VS:= .one (.list 39)
abbrev nz:VS:= .one (.whole 3 4)
abbrev mM:VS:= .one (.whole 3 3)
abbrev av6:VS:= .one (.whole 82 3)
abbrev tY:VS:= .one (.list 278)
abbrev FQ:VS:= .one (.whole 22 5)
abbrev rN:VS:= .one (.whole 22 1)
abbrev Cz:VS:= .one (.whole 22 6)
abbrev Av:VS:= .one (.whole 22 2)
abbrev nA:VS:= .one (.whole 3 0)
abbrev av7:VS:= .one (.whole 82 4)
abbrev CA:VS:= .one (.xt)
abbrev vm:VS:= .one (.list 63)
abbrev nB:VS:= .one (.az 3 0 0)
abbrev CB:VS:= .one (.whole 22 7)
abbrev KD:VS:= .one (.cK 110 7)
abbrev vn:VS:= .one (.list 140)
abbrev rO:VS:= .one (.whole 3 1)
abbrev av8:VS:= .one (.whole 4 5)
abbrev Yh:VS:= .one (.whole 3 10)
abbrev KE:VS:= .one (.list 9)
abbrev Yi:VS:= .one (.whole 4 6)
abbrev ahC:VS:= .one (.whole 4 3)
abbrev yM:VS:= .one (.whole 9 3)
abbrev vo:VS:= .one (.az 4 0 0)
abbrev ahD:VS:= .one (.whole 4 4)
abbrev Yj:VS:= .one (.whole 22 8)
abbrev Aw:VS:= .one (.az 5 0 0)
abbrev Yk:VS:= .one (.whole 9 8)
abbrev Yl:VS:= .one (.whole 3 9)
abbrev Ax:VS:= .one (.whole 22 12)
abbrev Ym:VS:= .one (.whole 39 4)
abbrev ahE:VS:= .one (.whole 265 6)
abbrev KF:VS:= .one (.whole 50 4)
abbrev CD:VS:= .one (.cK 110 3)
abbrev Rk:VS:= .one (.whole 22 9)
abbrev CE:VS:= .one (.whole 3 2)
abbrev av9:VS:= .one (.whole 22 4)
abbrev FR:VS:= .one (.whole 22 13)
abbrev Rl:VS:= .one (.whole 50 1)
abbrev KG:VS:= .one (.whole 3 15)
abbrev FT:VS:= .one (.whole 4 0)
abbrev KH:VS:= .one (.whole 3 16)
abbrev awa:VS:= .one (.whole 5 2)
abbrev FU:VS:= .one (.whole 50 5)
abbrev KI:VS:= .one (.whole 4 11)
abbrev Yn:VS:= .one (.whole 22 11)
abbrev awb:VS:= .one (.list 64)
abbrev Yo:VS:= .one (.whole 3 20)
abbrev Rm:VS:= .one (.whole 22 14)
abbrev FV:VS:= .one (.whole 50 3)
abbrev Yp:VS:= .one (.whole 265 17)
abbrev awc:VS:= .one (.whole 63 3)
abbrev awd:VS:= .one (.whole 4 7)
abbrev CF:VS:= .one (.whole 50 6)
abbrev awe:VS:= .one (.whole 4 8)
abbrev KJ:VS:= .one (.whole 4 10)
abbrev ahF:VS:= .one (.whole 22 10)
abbrev Rn:VS:= .one (.whole 39 2)
abbrev Yq:VS:= .one (.whole 3 14)
abbrev ahG:VS:= .one (.whole 22 18)
abbrev ahH:VS:= .one (.whole 4 22)
abbrev ahI:VS:= .one (.whole 182 7)
abbrev awf:VS:= .one (.whole 82 5)
abbrev Ro:VS:= .one (.whole 22 3)
abbrev KK:VS:= .one (.whole 3 5)
abbrev ahJ:VS:= .one (.whole 39 5)
abbrev ahK:VS:= .one (.whole 9 19)
abbrev Yr:VS:= .one (.whole 3 17)
abbrev awg:VS:= .one (.whole 5 3)
abbrev Rp:VS:= .one (.list 242)
abbrev awh:VS:= .one (.whole 63 4)
abbrev awi:VS:= .one (.whole 4 9)
abbrev Ys:VS:= .one (.whole 50 2)
abbrev awj:VS:= .one (.whole 4 21)
abbrev awk:VS:= .one (.whole 9 9)
abbrev awl:VS:= .one (.whole 4 12)
abbrev Yt:VS:= .one (.whole 3 12)
abbrev Rq:VS:= .one (.whole 3 11)
abbrev ahL:VS:= .one (.whole 3 19)
abbrev ahM:VS:= .one (.whole 3 13)
abbrev ahN:VS:= .one (.whole 3 18)
abbrev FW:VS:= .one (.int .u8)
abbrev Yu:VS:= .one (.whole 9 0)
abbrev ahO:VS:= .one (.nilS 182)
abbrev ahP:VS:= .one (.whole 22 16)
abbrev ahQ:VS:= .one (.whole 22 15)
abbrev Rr:VS:= .one (.whole 39 0)
abbrev awm:VS:= .one (.whole 5 1)
abbrev awn:VS:= .one (.whole 82 0)
abbrev ahR:VS:= .one (.whole 4 2)
abbrev Yv:VS:= .one (.whole 3 6)
abbrev Yw:VS:= .one (.whole 142 2)
abbrev ahS:VS:= .one (.cK 176 2)
abbrev Yx:VS:= .one (.whole 82 2)
abbrev ahT:VS:= .one (.whole 23 6)
abbrev Yy:VS:= .one (.whole 182 8)
abbrev ahU:VS:= .one (.whole 4 23)
abbrev Yz:VS:= .one (.whole 140 2)
abbrev awo:VS:= .one (.whole 140 3)
abbrev ahV:VS:= .one (.whole 135 0)
abbrev ahW:VS:= .one (.whole 22 17)
abbrev ahX:VS:= .one (.whole 265 18)
abbrev ahY:VS:= .one (.whole 3 21)
abbrev ahZ:VS:= .one (.whole 132 0)
abbrev awp:VS:= .one (.whole 9 18)
abbrev awq:VS:= .one (.whole 265 16)
abbrev awr:VS:= .one (.whole 9 17)
abbrev YA:VS:= .one (.whole 39 3)
abbrev aws:VS:= .one (.whole 265 15)
abbrev awt:VS:= .one (.whole 9 16)
abbrev sR:VS:= .agg [.int .i64,.int .i64,.list 50]
abbrev sU:VS:= .agg [.int .i64,.int .i64,.list 140]
abbrev YB:VS:= .agg [.int .i64,.int .i64,.list 4,.list 22]
abbrev CG:VS:= .agg [.int .i64,.int .i64,.whole 4 0,.whole 22 1]
abbrev CH:VS:= .agg [.int .i64,.list 22,.list 9,.list 3,.list 4,.list 4]
abbrev YC:VS:= .agg [.str]
abbrev ah0:VS:= .agg [.int .i64,.int .i64,.whole 4 1,.whole 22 2]
abbrev awu:VS:= .agg [.int .i64,.int .i64,.int .u64,.int .u64,.list 63]
abbrev KL:VS:= .agg [.int .i64,.int .i64,.list 140,.int .i64,.int .i64,.list 140]
abbrev awv:VS:= .agg [.int .i64,.int .i64,.list 50,.int .i64,.int .i64,.list 50,.bool]
abbrev aww:VS:= .agg [.int .i64,.bool]
abbrev awx:VS:= .agg [.int .i64,.int .i64,.whole 50 0]
abbrev ah1:VS:= .agg [.int .i64,.int .i64,.int .u64,.int .u64,.whole 63 0]
abbrev wX:BS:= .var 3 [aa]
abbrev yN:BS:= .var 85 [av6]
abbrev Ay:BS:= .var 58 [dg,aa]
abbrev sW:BS:= .var 50 [aa,aa,dF]
abbrev oc:BS:= .var 26 [aa,aa,vk,da]
abbrev sX:BS:= .var 81 [ju]
abbrev rP:BS:= .var 284 [da,aa,vj,vj,vj,vj,vj,vj,vj,vj,vj,vj,vj]
abbrev CI:BS:= .var 85 [av7]
abbrev wY:BS:= .var 279 [aj,aj,aj,aj,aj,aj]
abbrev KM:BS:= .var 26 [aa,aa,av8,Cz]
abbrev CJ:BS:= .var 227 [ju,aa]
abbrev FX:BS:= .var 26 [aa,aa,Yi,CB]
abbrev FY:BS:= .var 4 [aj]
abbrev CK:BS:= .var 26 [aa,aa,ahD,FQ]
abbrev vp:BS:= .var 90 [aa,da,KE,dg,vk,vk]
abbrev awy:BS:= .var 224 [aa,aj,rN,Av,mM,nz,FQ,ahE,aa,KD,Yk,Yl,Yh]
abbrev YD:BS:= .var 26 [aa,aa,ahC,av9]
abbrev vq:BS:= .var 42 [aa,aa,dM,dM,vm]
abbrev awz:BS:= .var 82 [Ym]
abbrev awA:BS:= .var 170 [CA,awa]
abbrev Az:BS:= .var 149 [awb]
abbrev Rs:BS:= .var 203 [dM]
abbrev wZ:BS:= .var 140 [aa,aa,vn]
abbrev awB:BS:= .var 24 [da]
abbrev YE:BS:= .var 42 [aa,aa,dM,dM,awc]
abbrev YF:BS:= .var 26 [aa,aa,awd,Yj]
abbrev FZ:BS:= .var 26 [aa,aa,awe,Rk]
abbrev awC:BS:= .var 85 [awf]
abbrev awD:BS:= .var 170 [CA,awg]
abbrev awE:BS:= .var 247 [bZ,tY,tY,da,nz]
abbrev awF:BS:= .var 247 [bZ,tY,tY,da,mM]
abbrev awG:BS:= .var 42 [aa,aa,dM,dM,awh]
abbrev Rt:BS:= .var 26 [aa,aa,awi,ahF]
abbrev YG:BS:= .var 90 [aa,ahG,ahK,Yo,awj,ahH]
abbrev ah2:BS:= .var 125 [rN,ahI,aa]
abbrev ah3:BS:= .var 90 [aa,Yj,awk,Yh,KI,awl]
abbrev awH:BS:= .var 22 [nz]
abbrev awI:BS:= .var 23 [ahC]
abbrev awJ:BS:= .var 82 [ahJ]
abbrev KN:BS:= .var 164 [aa,aa,KF,aa,aa,FU,aj]
abbrev awK:BS:= .var 114 [aa,Rl,Av,aa,CD]
abbrev awL:BS:= .var 170 [CA,awm]
abbrev awM:BS:= .var 247 [bZ,tY,tY,da,CE]
abbrev awN:BS:= .var 114 [aa,KF,FQ,aa,CD]
abbrev ah4:BS:= .var 26 [aa,aa,KJ,Yn]
abbrev awO:BS:= .var 125 [Av,ahO,aa]
abbrev awP:BS:= .var 185 [aa,aj,FR,Rm,KG,KH,Cz,Yp,aa]
abbrev Ru:BS:= .var 166 [aa,aj]
abbrev Rv:BS:= .var 140 [aa,aa,awo]
abbrev awQ:BS:= .var 82 [Rn]
abbrev ah5:BS:= .var 26 [aa,aa,ahR,Ro]
abbrev awR:BS:= .var 224 [aa,aj,Ax,FR,Yq,KG,ahP,Yp,aa,KD,awp,ahL,Yo]
abbrev awS:BS:= .var 224 [aa,aj,Yn,Ax,ahM,Yq,ahQ,awq,aa,KD,awr,ahN,ahL]
abbrev YH:BS:= .var 278 [aa,aa]
abbrev awT:BS:= .var 224 [aa,aj,rN,Yn,Yt,ahM,Rm,aws,aa,KD,awt,Yr,ahN]
abbrev awU:BS:= .var 114 [aa,KF,FQ,aa,.one (.cK 110 6)]
abbrev awV:BS:= .var 147 [.one (.whole 39 8),.one (.cK 145 9)]
abbrev awW:BS:= .var 147 [.one (.whole 39 7),.one (.cK 145 8)]
abbrev ah6:BS:= .var 185 [aa,aj,Ax,FR,Yq,KG,ahP,Yp,aa]
abbrev ah7:BS:= .var 90 [aa,ahF,.one (.whole 9 11),Yt,.one (.whole 4 13),.one (.whole 4 14)]
abbrev ah8:BS:= .var 185 [aa,aj,ahQ,Rk,KH,Yr,ahG,.one (.whole 265 19),aa]
abbrev ah9:BS:= .var 90 [aa,.one (.whole 22 20),.one (.whole 9 21),.one (.whole 3 22),ahU,.one (.whole 4 24)]
abbrev awX:BS:= .var 185 [aa,aj,FR,Rm,KG,KH,ahW,ahX,aa]
abbrev awY:BS:= .var 90 [aa,.one (.whole 22 19),.one (.whole 9 20),ahY,ahH,ahU]
abbrev aia:BS:= .var 135 [ju,aj,.one (.whole 142 3),aa,aa]
abbrev awZ:BS:= .var 218 [.one (.whole 3 7),.one (.cK 216 8)]
abbrev aw0:BS:= .var 185 [aa,aj,Av,Ro,nz,KK,Cz,.one (.whole 265 7),aa]
abbrev aw1:BS:= .var 224 [aa,aj,Yj,Rk,Yh,Rq,Ax,.one (.whole 265 13),aa,.one (.cK 110 14),.one (.whole 9 15),KH,Yr]
abbrev aX:BS:= .arr 3 false
abbrev bw:BS:= .arr 22 false
abbrev bV:BS:= .arr 4 false
abbrev dO:BS:= .arr 50 false
abbrev AA:BS:= .arr 63 false
abbrev jR:BS:= .arr 9 false
abbrev jS:BS:= .arr 39 false
abbrev qn:BS:= .arr 265 false
abbrev KO:BS:= .arr 5 false
abbrev yO:BS:= .arr 182 false
abbrev CL:BS:= .arr 22 true
abbrev AB:BS:= .arr 140 false
abbrev YI:BS:= .arr 3 true
abbrev CM:BS:= .arr 142 false
abbrev KP:BS:= .arr 132 false
abbrev YJ:BS:= .arr 135 false
abbrev YK:BS:= .arr 278 false
abbrev iZ:BS:= .nest 82
abbrev mN:BS:= .nest 22
abbrev Rw:BS:= .nest 64
abbrev YL:BS:= .nest 23
abbrev bD:List BS:=[dO]
abbrev cz:List BS:=[AA]
abbrev e9:List BS:=[wX]
abbrev lg:List BS:=[aX]
abbrev pG:List BS:=[CJ]
abbrev rQ:List BS:=[awy,bw,bw,aX,aX,bw,qn,.map 110,jR,aX,aX]
abbrev tZ:List BS:=[bV]
abbrev ua:List BS:=[awz,yN,.dead,iZ,jS]
abbrev vr:List BS:=[awA,.dead,KO]
abbrev w8:List BS:=[sX,yN,sW,iZ]
abbrev w9:List BS:=[yN,sW,CI,iZ,iZ]
abbrev xb:List BS:=[awB]
abbrev xc:List BS:=[Ay]
abbrev yP:List BS:=[oc]
abbrev AD:List BS:=[Ay,YD,KM,bV,bw,bV,mN]
abbrev AE:List BS:=[sX,wX,yN,iZ]
abbrev AF:List BS:=[sX,CI,FY,awC,iZ,iZ]
abbrev CN:List BS:=[awD,.dead,sW,KO]
abbrev CO:List BS:=[awE,rP,.dead,aX,aX]
abbrev CP:List BS:=[awF,rP,.dead,aX]
abbrev F0:List BS:=[oc,YE,awG,AA,AA]
abbrev F3:List BS:=[Ay,CK,FX,aX,bV,bw,bV,mN]
abbrev F4:List BS:=[Ay,KM,YF,jR,aX,bV,bw,bV,mN]
abbrev F5:List BS:=[aX,awH,awI,bV,YI]
abbrev F6:List BS:=[.dead,dO]
abbrev F7:List BS:=[FY,awJ,CI,.dead,iZ,jS]
abbrev KQ:List BS:=[wY,wY]
abbrev KR:List BS:=[awK,dO,bw,.map 110]
abbrev KS:List BS:=[awL,KO]
abbrev KT:List BS:=[awM,rP,aX]
abbrev KU:List BS:=[bV,bw]
abbrev KV:List BS:=[Ay,bV,mN]
abbrev Rx:List BS:=[awN,.dead,.dead,.map 110,dO,bw]
abbrev Ry:List BS:=[CK,FX,aX,aX,bV,bw,bV,bw]
abbrev Rz:List BS:=[awO,oc,mN]
abbrev RA:List BS:=[ah2,CL,.dead,ah3,awP,YG,bw,yO,bw,jR,aX,bV,bV,bw,bw,aX,aX,qn,mN,jR,aX,bV,bV]
abbrev RB:List BS:=[AA,Rs]
abbrev RC:List BS:=[vp,YD,KM,bV,bw,bV,mN]
abbrev RD:List BS:=[wY,wY,mN]
abbrev RE:List BS:=[dO,Rs]
abbrev RF:List BS:=[awQ,yN,jS,iZ]
abbrev YM:List BS:=[awR,.dead,.dead,.dead,.dead,.dead,.dead,.map 110,.dead,.dead,.dead,aX,bw,bw,aX,aX,bw,qn,jR,aX,aX]
abbrev YN:List BS:=[awS,.dead,.dead,.dead,.dead,.dead,.dead,.map 110,.dead,.dead,.dead,bw,bw,aX,aX,bw,qn,jR,aX,aX]
abbrev YO:List BS:=[rP,aX,aX]
abbrev YP:List BS:=[awT,bw,.dead,.dead,.dead,.dead,.dead,.map 110,.dead,.dead,.dead,bw,aX,aX,bw,qn,jR,aX,aX]
abbrev aib:List BS:=[ah5,awU,bV,bw,dO,bw,.map 110]
abbrev aic:List BS:=[Ay,CK,FX,jR,bV,bw,bV,mN]
abbrev aid:List BS:=[oc,FX,FZ,aX,aX,ah4,bV,bw,bV,bw,bV,bw]
abbrev aie:List BS:=[FX,aX,FZ,aX,aX,aX,bV,bw,bV,bw]
abbrev aif:List BS:=[Az,vq,FX,awV,ah4,aX,bV,bw,jS,.map 145,bV,bw]
abbrev aih:List BS:=[Az,vq,KM,awW,Rt,bV,bw,jS,.map 145,bV,bw]
abbrev aii:List BS:=[ah2,CL,.dead,ah3,awX,awY,YL,yO,bw,jR,aX,bV,bV,bw,bw,aX,aX,bw,qn,mN,jR,aX,bV,bV]
abbrev aij:List BS:=[oc,KM,awZ,Rt,aX,bV,bw,aX,.map 216,bV,bw]
abbrev aik:List BS:=[aw0,aw1,bw,bw,aX,aX,bw,qn,bw,bw,aX,aX,bw,qn,.map 110,jR,aX,aX]
abbrev dh:List (Nat×VS):=[(0,aa)]
abbrev dU:List (Nat×VS):=[(0,aj)]
abbrev lh:List (Nat×VS):=[(0,aJ)]
abbrev od:List (Nat×VS):=[(0,sR)]
abbrev ub:List (Nat×VS):=[(4,aj)]
abbrev xd:List (Nat×VS):=[(0,YB)]
abbrev xe:List (Nat×VS):=[(0,dM)]
abbrev yQ:List (Nat×VS):=[(2,aa)]
abbrev CQ:List (Nat×VS):=[(4,aa)]
abbrev CR:List (Nat×VS):=[(0,sR),(1,aa)]
abbrev CS:List (Nat×VS):=[(0,aa),(1,aa)]
abbrev CT:List (Nat×VS):=[(0,da)]
abbrev CU:List (Nat×VS):=[(0,cg)]
abbrev F8:List (Nat×VS):=[(2,aj)]
abbrev F9:List (Nat×VS):=[(0,dg)]
abbrev Ga:List (Nat×VS):=[(0,aJ),(1,aa),(2,aa)]
abbrev Gb:List (Nat×VS):=[(0,nA)]
abbrev KW:List (Nat×VS):=[(0,awu)]
abbrev KX:List (Nat×VS):=[(0,aJ),(1,aa)]
abbrev KY:List (Nat×VS):=[(0,ah0)]
abbrev KZ:List (Nat×VS):=[(0,awn)]
abbrev K0:List (Nat×VS):=[(0,Rl)]
abbrev RH:List (Nat×VS):=[(0,dg),(1,aa)]
abbrev RI:List (Nat×VS):=[(0,YC),(1,sR),(2,dC)]
abbrev RJ:List (Nat×VS):=[(0,aa),(1,aJ),(2,bZ),(3,cU)]
abbrev RK:List (Nat×VS):=[(0,awv)]
abbrev RL:List (Nat×VS):=[(0,aww),(1,sR)]
abbrev RM:List (Nat×VS):=[(0,CG),(1,aa)]
abbrev RN:List (Nat×VS):=[(0,awx)]
abbrev YQ:List (Nat×VS):=[(0,aa),(1,dF)]
abbrev YR:List (Nat×VS):=[(0,aa),(1,aJ)]
abbrev YS:List (Nat×VS):=[(0,aa),(1,aJ),(2,bZ)]
abbrev YT:List (Nat×VS):=[(0,aa),(1,aj)]
abbrev YU:List (Nat×VS):=[(0,sU),(1,aj)]
abbrev ail:List (Nat×VS):=[(0,aJ),(1,aa),(6,bZ),(7,cU),(8,aa),(9,aa)]
abbrev aim:List (Nat×VS):=[(0,aJ),(2,rO),(7,cU),(8,aa),(11,tY),(12,aa),(13,aa)]
abbrev ain:List (Nat×VS):=[(6,dg),(8,dg),(44,aa),(45,aa)]
def Wn:Shape×List (Out×Shape):=(⟨ain,[]⟩,[(.ret,⟨F8,[]⟩),(.exit 0,⟨ain++[(46,aj)],[]⟩)])
def VI:Shape×List (Out×Shape):=(⟨[(1,aJ),(2,bZ),(5,cU),(6,aa),(7,dg),(31,da),(32,aa),(33,aa),(42,aj)],F0⟩,[(.norm,⟨[(1,aJ),(2,bZ),(5,cU),(6,aa),(7,dg),(31,da),(32,aa),(33,aa)],F0⟩)])
abbrev aio:List (Nat×VS):=[(1,aJ),(2,bZ),(5,cU),(6,aa),(31,da),(32,aa),(33,aa),(49,dg),(50,aa),(51,aa)]
def VJ:Shape×List (Out×Shape):=(⟨aio,F0⟩,[(.exit 2,⟨aio++[(52,aj)],F0⟩)])
abbrev aip:List (Nat×VS):=[(1,aJ),(2,bZ),(5,cU),(31,da),(32,aa),(33,aa)]
def VK:Shape×List (Out×Shape):=(⟨aip,F0⟩,[(.exit 0,⟨aip++[(34,aj)],F0⟩)])
abbrev aiq:List (Nat×VS):=[(2,aJ),(3,bZ),(20,vm),(21,aa),(22,aa)]
def VM:Shape×List (Out×Shape):=(⟨aiq,[.var 42 [aa,aa,dM,dM,.one (.whole 63 2)],YE,AA,AA]⟩,[(.exit 0,⟨aiq++[(23,aj)],[.var 42 [aa,aa,dM,dM,.one (.whole 63 2)],YE,AA,AA]⟩)])
def YV:Shape×List (Out×Shape):=(⟨[(4,aJ),(7,bZ)],aib⟩,[(.ret,⟨[(4,aJ),(5,aa)],[.var 26 [aa,aa,.one (.whole 4 1),Av],bV,bw]⟩),(.exit 0,⟨[(4,aJ),(7,bZ),(22,aj)],aib⟩)])
abbrev air:List (Nat×VS):=[(1,aa),(7,aJ),(9,rO),(33,aa),(34,aa)]
def Un:Shape×List (Out×Shape):=(⟨air,[vp,aX]⟩,[(.exit 0,⟨air++[(35,aj)],[vp,aX]⟩)])
def VW:Shape×List (Out×Shape):=(⟨[(6,bZ),(7,cU),(8,aa),(17,aa),(18,aa),(25,.one (.row 3 3 [0])),(26,aa),(27,aa)],[Ay,CK,.var 26 [aa,aa,Yi,Ro],mN,bV,bw,bV]⟩,[(.exit 2,⟨[(6,bZ),(7,cU),(8,aa),(17,aa),(18,aa),(25,.one (.row 3 3 [0])),(26,aa),(27,aa),(28,aj)],[Ay,CK,.var 26 [aa,aa,Yi,Ro],mN,bV,bw,bV]⟩)])
abbrev ais:List (Nat×VS):=[(6,bZ),(7,cU),(17,aa),(18,aa)]
def VX:Shape×List (Out×Shape):=(⟨ais,AD⟩,[(.exit 0,⟨ais++[(19,aj)],AD⟩)])
def V0:Shape×List (Out×Shape):=(⟨ail,AD⟩,[(.exit 0,⟨[(0,aJ),(1,aa),(6,bZ),(7,cU),(8,aa),(9,aa),(27,aj)],AD⟩)])
abbrev ait:List (Nat×VS):=[(0,aJ),(1,aa),(6,bZ),(7,cU),(8,aa),(10,aa),(11,mM),(12,aa)]
def V1:Shape×List (Out×Shape):=(⟨ait,F3⟩,[(.exit 4,⟨ait++[(52,aj)],F3⟩)])
abbrev aiu:List (Nat×VS):=[(0,aJ),(1,aa),(6,bZ),(7,cU),(8,aa),(10,aa),(11,mM),(13,aa)]
def V2:Shape×List (Out×Shape):=(⟨aiu,F3⟩,[(.exit 6,⟨aiu++[(61,aj)],F3⟩)])
abbrev aiv:List (Nat×VS):=[(0,aJ),(1,aa),(6,bZ),(7,cU),(8,aa),(10,aa)]
def V3:Shape×List (Out×Shape):=(⟨aiv,AD⟩,[(.exit 2,⟨aiv++[(47,aj)],AD⟩)])
abbrev aiw:List (Nat×VS):=[(0,aJ),(1,aa),(4,bZ),(5,cU),(6,yM),(8,ju),(9,nz),(10,aa),(11,ju),(12,aa),(22,yM),(23,aa),(24,aa),(50,yM),(51,aa),(52,aa)]
def V5:Shape×List (Out×Shape):=(⟨aiw,F4⟩,[(.exit 6,⟨aiw++[(53,aj)],F4⟩)])
abbrev aix:List (Nat×VS):=[(0,aJ),(1,aa),(4,bZ),(5,cU),(6,yM),(8,ju),(9,nz),(10,aa),(11,ju),(12,aa),(22,yM),(23,aa),(24,aa)]
def V6:Shape×List (Out×Shape):=(⟨aix,F4⟩,[(.exit 4,⟨aix++[(49,aj)],F4⟩)])
abbrev aiy:List (Nat×VS):=[(0,aJ),(1,aa),(4,bZ),(5,cU),(6,yM),(8,ju),(9,nz),(10,aa),(22,yM),(23,aa),(24,aa)]
def V7:Shape×List (Out×Shape):=(⟨aiy,F4⟩,[(.exit 2,⟨aiy++[(38,aj)],F4⟩)])
abbrev aiz:List (Nat×VS):=[(0,aJ),(1,aa),(4,bZ),(5,cU),(6,yM),(22,yM),(23,aa),(24,aa)]
def V8:Shape×List (Out×Shape):=(⟨aiz,aic⟩,[(.exit 0,⟨aiz++[(25,aj)],aic⟩)])
abbrev aiA:List (Nat×VS):=[(0,aJ),(1,aa),(6,bZ),(7,cU),(8,aa),(9,aa),(10,mM),(11,aa)]
def VU:Shape×List (Out×Shape):=(⟨aiA,F3⟩,[(.exit 2,⟨aiA++[(37,aj)],F3⟩)])
def VV:Shape×List (Out×Shape):=(⟨ail,AD⟩,[(.exit 0,⟨[(0,aJ),(1,aa),(6,bZ),(7,cU),(8,aa),(9,aa),(24,aj)],AD⟩)])
abbrev aiB:List (Nat×VS):=[(1,aJ),(3,aa),(38,da),(39,aa),(40,aa),(49,dg),(50,aa),(51,aa)]
def YW:Shape×List (Out×Shape):=(⟨aiB,yP⟩,[(.ret,⟨yQ,[]⟩),(.exit 2,⟨aiB++[(52,aj)],yP⟩)])
abbrev aiC:List (Nat×VS):=[(1,aJ),(3,aa),(38,da),(39,aa),(40,aa)]
def YX:Shape×List (Out×Shape):=(⟨aiC,yP⟩,[(.ret,⟨yQ,[]⟩),(.exit 0,⟨aiC++[(41,aj)],yP⟩)])
abbrev aiD:List (Nat×VS):=[(1,aJ),(34,vm),(35,aa),(36,aa)]
def U4:Shape×List (Out×Shape):=(⟨aiD,[vq]⟩,[(.ret,⟨yQ,[]⟩),(.exit 0,⟨aiD++[(37,aj)],[vq]⟩)])
abbrev aiE:List (Nat×VS):=[(0,aJ),(3,nz),(16,aa),(17,aa)]
def YY:Shape×List (Out×Shape):=(⟨aiE,[.var 114 [aa,FU,Cz,aa,CD],.dead,.dead,.map 110,aX,dO,bw]⟩,[(.ret,⟨yQ,Rx⟩),(.exit 0,⟨aiE++[(18,aj)],[.var 114 [aa,FU,Cz,aa,CD],.dead,.dead,.map 110,aX,dO,bw]⟩)])
abbrev aiF:List (Nat×VS):=[(2,vo),(3,Aw),(21,CF),(22,aa),(23,aa)]
def aw2:Shape×List (Out×Shape):=(⟨aiF,[.var 114 [aa,CF,CB,aa,CD],.dead,.dead,.map 110,FZ,.var 26 [aa,aa,KJ,CB],dO,bw,bV,bw,bV]⟩,[(.exit 0,⟨aiF++[(24,aj)],[.var 114 [aa,CF,CB,aa,CD],.dead,.dead,.map 110,FZ,.var 26 [aa,aa,KJ,CB],dO,bw,bV,bw,bV]⟩)])
abbrev aiG:List (Nat×VS):=[(1,aJ),(2,bZ),(4,cU),(5,mM),(6,nz),(7,Aw),(8,aa),(10,Yv),(28,nz),(29,aa),(30,aa),(47,dg),(48,aa),(49,aa)]
def YZ:Shape×List (Out×Shape):=(⟨aiG,[oc,YF,Rt,aX,aX,.var 26 [aa,aa,KI,Ax],aX,bV,bw,bV,bw,bV,bw]⟩,[(.exit 2,⟨aiG++[(50,aj)],[oc,YF,Rt,aX,aX,.var 26 [aa,aa,KI,Ax],aX,bV,bw,bV,bw,bV,bw]⟩)])
abbrev aiH:List (Nat×VS):=[(1,aJ),(2,bZ),(4,cU),(5,mM),(6,nz),(7,Aw),(28,nz),(29,aa),(30,aa)]
def Y0:Shape×List (Out×Shape):=(⟨aiH,aid⟩,[(.exit 0,⟨aiH++[(31,aj)],aid⟩)])
abbrev aiI:List (Nat×VS):=[(2,aJ),(6,rO),(13,cU),(14,mM),(15,nz),(87,KK),(88,aa),(89,aa)]
def Y1:Shape×List (Out×Shape):=(⟨aiI,aie⟩,[(.exit 4,⟨aiI++[(90,aj)],aie⟩)])
abbrev aiJ:List (Nat×VS):=[(0,ju),(1,aa),(18,aa),(19,aa)]
def aw3:Shape×List (Out×Shape):=(⟨aiJ,[]⟩,[(.ret,⟨ub,[]⟩),(.exit 0,⟨aiJ++[(20,aj)],[]⟩)])
abbrev aiK:List (Nat×VS):=[(1,ahV),(4,.one (.whole 132 1)),(5,aa),(6,aa)]
def Um:Shape×List (Out×Shape):=(⟨aiK,[YJ,KP]⟩,[(.exit 0,⟨aiK++[(7,aj)],[YJ,KP]⟩)])
abbrev aiL:List (Nat×VS):=[(2,aa),(3,aJ),(11,rO),(13,aa),(39,Yw),(40,aa),(41,aa)]
def Y2:Shape×List (Out×Shape):=(⟨aiL,[vp,aX,CM]⟩,[(.ret,⟨[(6,aj),(7,aa),(8,nA),(9,aa),(10,aa)],lg⟩),(.exit 0,⟨aiL++[(42,aj)],[vp,aX,CM]⟩)])
abbrev aiM:List (Nat×VS):=[(0,aa),(1,aa),(5,Yu),(6,aa),(7,aa)]
def aw4:Shape×List (Out×Shape):=(⟨aiM,[jR]⟩,[(.exit 2,⟨aiM++[(26,aj)],[jR]⟩)])
abbrev aiN:List (Nat×VS):=[(0,aa),(1,aa),(5,Yu),(6,aa)]
def aw5:Shape×List (Out×Shape):=(⟨aiN,[jR]⟩,[(.exit 0,⟨aiN++[(12,aj)],[jR]⟩)])
def Ve:Shape×List (Out×Shape):=(⟨[(0,aa),(2,.fn 80 [] [.az 0 0 0]),(3,.fn 52 [] [.az 1 0 0]),(8,cU),(11,nB),(12,vo),(13,aa),(14,dM),(15,KK),(36,aa),(37,aa)],aif⟩,[(.exit 2,⟨[(0,aa),(2,.fn 80 [] [.az 0 0 0]),(3,.fn 52 [] [.az 1 0 0]),(8,cU),(11,nB),(12,vo),(13,aa),(14,dM),(15,KK),(36,aa),(37,aa),(38,aj)],aif⟩)])
def Vf:Shape×List (Out×Shape):=(⟨[(0,aa),(2,.fn 80 [] [.az 0 0 0]),(3,.fn 52 [] [.az 1 0 0]),(8,cU),(11,nB),(12,vo),(13,aa)],aih⟩,[(.ret,⟨[(8,cU),(9,ahJ),(10,aa)],[Az,vq,YD,bV,bw,jS]⟩),(.exit 0,⟨[(0,aa),(2,.fn 80 [] [.az 0 0 0]),(3,.fn 52 [] [.az 1 0 0]),(8,cU),(11,nB),(12,vo),(13,aa),(25,aj)],aih⟩)])
abbrev aiO:List (Nat×VS):=[(1,aJ),(3,bZ),(11,aa),(12,aa)]
def U7:Shape×List (Out×Shape):=(⟨aiO,[vq,.var 149 [.one (.whole 64 2)],Rw]⟩,[(.exit 0,⟨aiO++[(13,aj)],[vq,.var 149 [.one (.whole 64 2)],Rw]⟩)])
abbrev aiP:List (Nat×VS):=[(3,aJ),(23,vm),(24,aa),(25,aa)]
def U8:Shape×List (Out×Shape):=(⟨aiP,[.var 149 [.one (.whole 64 1)],Rw]⟩,[(.exit 2,⟨aiP++[(26,aj)],[.var 149 [.one (.whole 64 1)],Rw]⟩)])
def Wc:Shape×List (Out×Shape):=(⟨[(0,cW),(1,aa),(2,aa),(3,aa),(4,.fn 30 [] []),(10,aj),(11,aj),(12,aa),(39,aj)],cz⟩,[(.norm,⟨[(0,cW),(1,aa),(2,aa),(3,aa),(4,.fn 30 [] []),(10,aj),(11,aj),(12,aa)],cz⟩)])
def Wd:Shape×List (Out×Shape):=(⟨[(0,cW),(1,aa),(2,aa),(3,aa),(4,.fn 30 [] []),(10,aj),(11,aj),(12,aa),(13,aa),(14,aa),(56,aj)],cz⟩,[(.norm,⟨[(0,cW),(1,aa),(2,aa),(3,aa),(4,.fn 30 [] []),(10,aj),(11,aj),(12,aa),(13,aa),(14,aa)],cz⟩)])
def We:Shape×List (Out×Shape):=(⟨[(0,cW),(1,aa),(2,aa),(3,aa),(4,.fn 30 [] []),(10,aj),(11,aj),(12,aa),(13,aa),(75,aj)],cz⟩,[(.ret,⟨[(0,cW),(1,aa),(2,aa),(3,aa),(4,.fn 30 [] []),(10,aj),(11,aj),(12,aa),(13,aa),(80,aj)],cz⟩),(.norm,⟨[(0,cW),(1,aa),(2,aa),(3,aa),(4,.fn 30 [] []),(10,aj),(11,aj),(12,aa),(13,aa)],cz⟩)])
def Wf:Shape×List (Out×Shape):=(⟨[(0,cW),(1,aa),(2,aa),(3,aa),(4,.fn 30 [] []),(10,aj),(11,aj)],cz⟩,[(.ret,⟨[],cz⟩)])
abbrev aiQ:List (Nat×VS):=[(3,aa),(6,dg),(7,aa),(8,aa)]
def U0:Shape×List (Out×Shape):=(⟨aiQ,[]⟩,[(.ret,⟨yQ,[]⟩),(.exit 0,⟨aiQ++[(9,aj)],[]⟩)])
abbrev aiR:List (Nat×VS):=[(1,aa),(53,dF),(54,aa),(55,aa)]
def aw6:Shape×List (Out×Shape):=(⟨aiR,[]⟩,[(.ret,⟨ub,[]⟩),(.exit 1,⟨aiR++[(56,aj)],[]⟩)])
abbrev aiS:List (Nat×VS):=[(1,aJ),(2,bZ),(3,Ys),(20,dF),(21,aa),(22,aa)]
def aw7:Shape×List (Out×Shape):=(⟨aiS,[sW,.var 50 [aa,aa,FV],dO,dO]⟩,[(.exit 0,⟨aiS++[(23,aj)],[sW,.var 50 [aa,aa,FV],dO,dO]⟩)])
abbrev aiT:List (Nat×VS):=[(19,dF),(20,aa),(21,aa)]
def aw8:Shape×List (Out×Shape):=(⟨aiT,[]⟩,[(.ret,⟨F8,[]⟩),(.exit 1,⟨aiT++[(22,aj)],[]⟩)])
abbrev aiU:List (Nat×VS):=[(2,aJ),(4,bZ),(5,CE),(7,mM),(31,aa),(32,aa)]
def Y3:Shape×List (Out×Shape):=(⟨aiU,Ry⟩,[(.exit 0,⟨aiU++[(33,aj)],Ry⟩)])
abbrev aiV:List (Nat×VS):=[(2,aJ),(4,bZ),(7,CE),(39,mM),(40,aa),(41,aa)]
def Y4:Shape×List (Out×Shape):=(⟨aiV,Ry⟩,[(.exit 2,⟨aiV++[(42,aj)],Ry⟩)])
abbrev aiW:List (Nat×VS):=[(1,aJ),(3,rO),(4,aa),(24,vk),(25,aa),(26,aa)]
def Y5:Shape×List (Out×Shape):=(⟨aiW,[oc,aX]⟩,[(.exit 0,⟨aiW++[(27,aj)],[oc,aX]⟩)])
abbrev aiX:List (Nat×VS):=[(1,aJ),(3,rO),(4,aa),(7,ahS),(8,mM),(9,aa),(11,vo),(46,da),(47,aa),(48,aa),(58,dg),(59,aa),(60,aa)]
def Y6:Shape×List (Out×Shape):=(⟨aiX,[oc,aX,.map 176,aX,.var 178 [aa,aa,aa,aa,aa,aa,aa]]⟩,[(.exit 6,⟨aiX++[(61,aj)],[oc,aX,.map 176,aX,.var 178 [aa,aa,aa,aa,aa,aa,aa]]⟩)])
abbrev aiY:List (Nat×VS):=[(1,aJ),(3,rO),(4,aa),(7,ahS),(8,mM),(46,da),(47,aa),(48,aa)]
def Y7:Shape×List (Out×Shape):=(⟨aiY,[oc,aX,.map 176,aX]⟩,[(.exit 4,⟨aiY++[(49,aj)],[oc,aX,.map 176,aX]⟩)])
def Y8:Shape×List (Out×Shape):=(⟨[(1,aJ),(3,rO),(4,aa)],[oc,aX]⟩,[(.ret,⟨[(2,nA)],lg⟩)])
abbrev aiZ:List (Nat×VS):=[(2,dC),(3,aJ),(7,bZ),(20,dF),(21,aa),(22,aa)]
def aw9:Shape×List (Out×Shape):=(⟨aiZ,[sX,.var 85 [Yx],iZ]⟩,[(.exit 0,⟨aiZ++[(23,aj)],[sX,.var 85 [Yx],iZ]⟩)])
abbrev ai0:List (Nat×VS):=[(3,aJ),(4,bZ),(7,Rn),(8,nB),(9,aa)]
def axa:Shape×List (Out×Shape):=(⟨ai0,[sX,sW,jS,wX]⟩,[(.exit 0,⟨ai0++[(28,aj)],[sX,sW,jS,wX]⟩)])
abbrev ai1:List (Nat×VS):=[(3,aJ),(8,bZ),(10,Yx),(11,nB),(12,aa)]
def axb:Shape×List (Out×Shape):=(⟨ai1,[sX,wX,iZ,CI,iZ]⟩,[(.exit 2,⟨ai1++[(48,aj)],[sX,wX,iZ,CI,iZ]⟩)])
abbrev ai2:List (Nat×VS):=[(2,dC),(3,aJ),(4,bZ),(7,cU),(20,dF),(21,aa),(22,aa)]
def axc:Shape×List (Out×Shape):=(⟨ai2,[sX,sW,yN,iZ]⟩,[(.exit 0,⟨ai2++[(23,aj)],[sX,sW,yN,iZ]⟩)])
def axd:Shape×List (Out×Shape):=(⟨[(1,.fn 72 [] [.az 0 0 0,.az 1 0 0,.az 2 0 0]),(4,aa),(5,dM),(6,dC),(7,aa),(8,aa)],w8⟩,[(.exit 2,⟨[(1,.fn 72 [] [.az 0 0 0,.az 1 0 0,.az 2 0 0]),(4,aa),(5,dM),(6,dC),(7,aa),(8,aa),(14,aj)],w8⟩)])
def axe:Shape×List (Out×Shape):=(⟨[(1,.fn 72 [] [.az 0 0 0,.az 1 0 0,.az 2 0 0]),(6,dC),(7,aa),(8,aa)],w8⟩,[(.exit 0,⟨[(1,.fn 72 [] [.az 0 0 0,.az 1 0 0,.az 2 0 0]),(6,dC),(7,aa),(8,aa),(9,aj)],w8⟩)])
def axf:Shape×List (Out×Shape):=(⟨[(0,aa),(1,aJ),(2,bZ),(3,cU),(10,aj)],w8⟩,[(.norm,⟨[],w8⟩)])
abbrev ai3:List (Nat×VS):=[(0,aJ),(3,bZ),(5,aa),(6,aa),(33,aa),(34,aa),(37,aa),(38,aa)]
def Y9:Shape×List (Out×Shape):=(⟨ai3,Rz⟩,[(.exit 2,⟨ai3++[(39,aj)],Rz⟩)])
abbrev ai4:List (Nat×VS):=[(0,aJ),(3,bZ),(5,aa),(33,aa),(34,aa)]
def Za:Shape×List (Out×Shape):=(⟨ai4,Rz⟩,[(.exit 0,⟨ai4++[(35,aj)],Rz⟩)])
abbrev ai5:List (Nat×VS):=[(0,aJ),(2,nB),(5,vo),(7,aa),(8,Aw),(9,aa)]
def Zb:Shape×List (Out×Shape):=(⟨ai5,[.var 125 [rN,.one (.whole 182 6),aa],CL,.dead,.var 90 [aa,CB,Yk,Yl,KJ,KI],ah6,YG,yO,bw,jR,aX,bV,bV,bw,bw,aX,aX,bw,qn,mN,jR,aX,bV,bV]⟩,[(.exit 0,⟨ai5++[(55,aj)],[.var 125 [rN,.one (.whole 182 6),aa],CL,.dead,.var 90 [aa,CB,Yk,Yl,KJ,KI],ah6,YG,yO,bw,jR,aX,bV,bV,bw,bw,aX,aX,bw,qn,mN,jR,aX,bV,bV]⟩)])
abbrev ai6:List (Nat×VS):=[(0,aJ),(2,nB),(5,vo),(7,aa),(8,Aw),(10,aa),(12,aa),(86,Cz),(87,aa),(88,aa)]
def Zc:Shape×List (Out×Shape):=(⟨ai6,RA⟩,[(.exit 4,⟨ai6++[(119,aj)],RA⟩)])
abbrev ai7:List (Nat×VS):=[(0,aJ),(2,nB),(5,vo),(7,aa),(8,Aw),(86,Cz),(87,aa),(88,aa)]
def Zd:Shape×List (Out×Shape):=(⟨ai7,RA⟩,[(.exit 2,⟨ai7++[(89,aj)],RA⟩)])
abbrev ai8:List (Nat×VS):=[(2,nB),(5,vo),(7,aa),(8,Aw),(13,ahT),(14,aa),(15,.one (.az 7 0 0)),(162,Yy),(163,aa),(164,aa),(175,Rk),(176,aa),(177,aa)]
def Ze:Shape×List (Out×Shape):=(⟨ai8,[.var 125 [rN,Yy,aa],CL,.dead,ah7,ah8,ah9,YL,.var 182 [aa,vk,aa],yO,bw,bw,jR,aX,bV,bV,bw,aX,aX,bw,qn,mN,jR,aX,bV,bV]⟩,[(.exit 8,⟨ai8++[(178,aj)],[.var 125 [rN,Yy,aa],CL,.dead,ah7,ah8,ah9,YL,.var 182 [aa,vk,aa],yO,bw,bw,jR,aX,bV,bV,bw,aX,aX,bw,qn,mN,jR,aX,bV,bV]⟩)])
abbrev ai9:List (Nat×VS):=[(2,nB),(5,vo),(7,aa),(8,Aw),(13,ahT),(162,ahI),(163,aa),(164,aa)]
def Zf:Shape×List (Out×Shape):=(⟨ai9,aii⟩,[(.exit 6,⟨ai9++[(165,aj)],aii⟩)])
def Zg:Shape×List (Out×Shape):=(⟨[(2,aJ),(3,bZ),(22,.agg [.str,.str]),(23,aa)],[.var 135 [ju,aj,Yw,aa,aa],aia,CM,CM]⟩,[(.exit 0,⟨[(2,aJ),(3,bZ),(22,.agg [.str,.str]),(23,aa),(24,aj)],[.var 135 [ju,aj,Yw,aa,aa],aia,CM,CM]⟩)])
abbrev aja:List (Nat×VS):=[(1,aa),(7,ahZ),(8,rO),(26,vk),(27,aa),(28,aa)]
def Zh:Shape×List (Out×Shape):=(⟨aja,[KP,aX]⟩,[(.exit 0,⟨aja++[(29,aj)],[KP,aX]⟩)])
abbrev ajb:List (Nat×VS):=[(0,dC),(5,dM),(16,nA),(17,aa),(18,aa)]
def UT:Shape×List (Out×Shape):=(⟨ajb,lg⟩,[(.exit 0,⟨ajb++[(19,aj)],lg⟩)])
def Wa:Shape×List (Out×Shape):=(⟨[(0,cW),(1,aa),(2,aa),(3,.fn 30 [] []),(8,aa),(9,aa)],cz⟩,[(.exit 2,⟨[(0,cW),(1,aa),(2,aa),(3,.fn 30 [] []),(8,aa),(9,aa),(34,aj)],cz⟩)])
def Wb:Shape×List (Out×Shape):=(⟨[(0,cW),(1,aa),(2,aa),(3,.fn 30 [] []),(8,aa)],cz⟩,[(.exit 0,⟨[(0,cW),(1,aa),(2,aa),(3,.fn 30 [] []),(8,aa),(14,aj)],cz⟩)])
def axg:Shape×List (Out×Shape):=(⟨[(0,cW),(3,.fn 30 [] []),(8,aa),(9,aa),(10,aa),(11,aa)],cz⟩,[(.exit 0,⟨[(0,cW),(3,.fn 30 [] []),(8,aa),(9,aa),(10,aa),(11,aa),(21,aj)],cz⟩)])
def axh:Shape×List (Out×Shape):=(⟨[(0,cW),(3,.fn 30 [] []),(8,aa),(9,aa),(12,aa)],cz⟩,[(.exit 2,⟨[(0,cW),(3,.fn 30 [] []),(8,aa),(9,aa),(12,aa),(33,aj)],cz⟩)])
def axi:Shape×List (Out×Shape):=(⟨[(0,cW),(1,aa),(8,aa),(9,bZ),(10,dM),(11,aa),(12,aa),(45,aj)],RB⟩,[(.norm,⟨[(0,cW),(1,aa),(8,aa),(9,bZ),(10,dM),(11,aa),(12,aa)],RB⟩)])
abbrev ajc:List (Nat×VS):=[(0,cW),(1,aa),(8,aa),(9,bZ),(10,dM),(11,aa)]
def axj:Shape×List (Out×Shape):=(⟨ajc,RB⟩,[(.exit 0,⟨ajc++[(35,aj)],RB⟩)])
def axk:Shape×List (Out×Shape):=(⟨[(0,vm),(3,.fn 30 [] []),(11,aJ),(12,aa),(13,aa),(14,aa),(36,aj)],e9⟩,[(.norm,⟨[(0,vm),(3,.fn 30 [] []),(11,aJ),(12,aa),(13,aa),(14,aa)],e9⟩)])
def axl:Shape×List (Out×Shape):=(⟨[(0,vm),(3,.fn 30 [] []),(10,aa),(11,aJ),(12,aa),(13,aa),(14,aa),(34,aj)],e9⟩,[(.norm,⟨[(11,aJ),(13,aa)],e9⟩)])
abbrev ajd:List (Nat×VS):=[(0,cW),(8,aa),(9,aa)]
def axm:Shape×List (Out×Shape):=(⟨ajd,cz⟩,[(.exit 0,⟨ajd++[(15,aj)],cz⟩)])
def axn:Shape×List (Out×Shape):=(⟨[(0,cW),(1,aa),(2,aa),(3,.fn 30 [] []),(9,aa),(10,aa)],cz⟩,[(.exit 2,⟨[(0,cW),(1,aa),(2,aa),(3,.fn 30 [] []),(9,aa),(10,aa),(36,aj)],cz⟩)])
def axo:Shape×List (Out×Shape):=(⟨[(0,cW),(1,aa),(2,aa),(3,.fn 30 [] []),(9,aa),(10,aa),(11,aa)],cz⟩,[(.exit 4,⟨[(0,cW),(1,aa),(2,aa),(3,.fn 30 [] []),(9,aa),(10,aa),(11,aa)],cz⟩)])
def axp:Shape×List (Out×Shape):=(⟨[(0,cW),(1,aa),(2,aa),(3,.fn 30 [] []),(9,aa),(10,aa),(65,aj)],cz⟩,[(.norm,⟨[(0,cW),(1,aa),(2,aa),(3,.fn 30 [] []),(9,aa),(10,aa)],cz⟩)])
def axq:Shape×List (Out×Shape):=(⟨[(0,cW),(1,aa),(2,aa),(3,.fn 30 [] []),(9,aa),(10,aa),(12,aa)],cz⟩,[(.exit 6,⟨[(0,cW),(1,aa),(2,aa),(3,.fn 30 [] []),(9,aa),(10,aa),(12,aa)],cz⟩)])
def axr:Shape×List (Out×Shape):=(⟨[(0,cW),(1,aa),(2,aa),(3,.fn 30 [] []),(9,aa),(10,aa)],cz⟩,[(.ret,⟨[(8,aj)],cz⟩),(.exit 0,⟨[(0,cW),(1,aa),(2,aa),(3,.fn 30 [] []),(9,aa),(10,aa),(16,aj)],cz⟩)])
def axs:Shape×List (Out×Shape):=(⟨[(0,cW),(1,aa),(4,.fn 30 [] []),(11,aa),(12,aa)],cz⟩,[(.exit 2,⟨[(0,cW),(1,aa),(4,.fn 30 [] []),(11,aa),(12,aa),(47,aj)],cz⟩)])
def axt:Shape×List (Out×Shape):=(⟨[(0,cW),(1,aa),(4,.fn 30 [] []),(11,aa),(12,aa)],cz⟩,[(.exit 4,⟨[(0,cW),(1,aa),(4,.fn 30 [] []),(11,aa),(12,aa),(65,aj)],cz⟩)])
def axu:Shape×List (Out×Shape):=(⟨[(0,cW),(1,aa),(4,.fn 30 [] []),(11,aa),(12,aa)],cz⟩,[(.exit 0,⟨[(0,cW),(1,aa),(4,.fn 30 [] []),(11,aa),(12,aa),(70,aj)],cz⟩)])
def axv:Shape×List (Out×Shape):=(⟨[(0,cW),(1,aa),(4,.fn 30 [] []),(12,aa),(13,aa)],cz⟩,[(.exit 0,⟨[(0,cW),(1,aa),(4,.fn 30 [] []),(12,aa),(13,aa),(47,aj)],cz⟩)])
def axw:Shape×List (Out×Shape):=(⟨[(0,cW),(1,aa),(4,.fn 30 [] []),(12,aa),(13,aa)],cz⟩,[(.exit 2,⟨[(0,cW),(1,aa),(4,.fn 30 [] []),(12,aa),(13,aa),(66,aj)],cz⟩)])
def axx:Shape×List (Out×Shape):=(⟨[(0,cW),(1,aa),(4,.fn 30 [] []),(12,aa),(13,aa)],cz⟩,[(.exit 6,⟨[(0,cW),(1,aa),(4,.fn 30 [] []),(12,aa),(13,aa),(120,aj)],cz⟩)])
def axy:Shape×List (Out×Shape):=(⟨[(0,cW),(1,aa),(4,.fn 30 [] []),(12,aa),(13,aa)],cz⟩,[(.exit 8,⟨[(0,cW),(1,aa),(4,.fn 30 [] []),(12,aa),(13,aa),(139,aj)],cz⟩)])
def axz:Shape×List (Out×Shape):=(⟨[(0,cW),(1,aa),(4,.fn 30 [] []),(12,aa),(13,aa)],cz⟩,[(.exit 4,⟨[(0,cW),(1,aa),(4,.fn 30 [] []),(12,aa),(13,aa),(144,aj)],cz⟩)])
def axA:Shape×List (Out×Shape):=(⟨[(0,dM),(2,aa),(4,aj)],[]⟩,[(.norm,⟨[(0,dM),(2,aa)],[]⟩)])
def axB:Shape×List (Out×Shape):=(⟨[(0,dM),(2,aa),(8,aj)],[]⟩,[(.norm,⟨[(0,dM),(2,aa)],[]⟩)])
abbrev aje:List (Nat×VS):=[(1,aa),(2,aJ),(23,dF),(24,aa),(25,aa)]
def axC:Shape×List (Out×Shape):=(⟨aje,e9⟩,[(.ret,⟨[(6,aj)],e9⟩),(.exit 0,⟨aje++[(26,aj)],e9⟩)])
def axD:Shape×List (Out×Shape):=(⟨[(3,aJ),(4,bZ),(5,cU),(6,nB),(24,aj)],[sW,KN,.var 50 [aa,aa,CF],.var 50 [aa,aa,.one (.whole 50 7)],dO,dO,dO,dO]⟩,[(.norm,⟨[(3,aJ),(4,bZ),(5,cU)],[sW,.var 164 [aa,aa,FV,aa,aa,KF,aj],.var 50 [aa,aa,FU],dO,dO,dO]⟩)])
def axE:Shape×List (Out×Shape):=(⟨[(0,aJ),(3,cU),(5,aa),(28,aj)],CN⟩,[(.norm,⟨[],vr⟩)])
def axF:Shape×List (Out×Shape):=(⟨[(0,aJ),(3,cU),(5,aa),(22,aj)],CN⟩,[(.norm,⟨[],vr⟩)])
def axG:Shape×List (Out×Shape):=(⟨[(0,aJ),(3,cU),(5,aa),(14,aj)],CN⟩,[(.norm,⟨[],vr⟩)])
def axH:Shape×List (Out×Shape):=(⟨[(0,aJ),(3,cU),(5,aa),(10,aj)],CN⟩,[(.norm,⟨[],vr⟩)])
def axI:Shape×List (Out×Shape):=(⟨[(0,aJ),(3,cU),(5,aa),(6,aj)],CN⟩,[(.norm,⟨[],vr⟩)])
def Zi:Shape×List (Out×Shape):=(⟨[(0,aa),(2,.fn 101 [] [.az 0 0 0]),(3,.fn 102 [] [.az 0 0 0]),(8,bZ),(11,cU),(12,nB),(13,aa),(14,aa),(15,nz),(36,aa),(37,aa)],aij⟩,[(.exit 2,⟨[(0,aa),(2,.fn 101 [] [.az 0 0 0]),(3,.fn 102 [] [.az 0 0 0]),(8,bZ),(11,cU),(12,nB),(13,aa),(14,aa),(15,nz),(36,aa),(37,aa),(38,aj)],aij⟩)])
def Zj:Shape×List (Out×Shape):=(⟨[(0,aa),(2,.fn 101 [] [.az 0 0 0]),(3,.fn 102 [] [.az 0 0 0]),(8,bZ),(11,cU),(12,nB),(13,aa)],[oc,CK,.var 218 [Yv,.one (.cK 216 7)],FZ,bV,bw,aX,.map 216,bV,bw]⟩,[(.ret,⟨[(8,bZ),(9,nz),(10,aa)],[oc,ah5,bV,bw,aX]⟩),(.exit 0,⟨[(0,aa),(2,.fn 101 [] [.az 0 0 0]),(3,.fn 102 [] [.az 0 0 0]),(8,bZ),(11,cU),(12,nB),(13,aa),(25,aj)],[oc,CK,.var 218 [Yv,.one (.cK 216 7)],FZ,bV,bw,aX,.map 216,bV,bw]⟩)])
abbrev ajf:List (Nat×VS):=[(0,Rr),(1,dC),(6,aa)]
def axJ:Shape×List (Out×Shape):=(⟨ajf,[jS]⟩,[(.exit 0,⟨ajf++[(12,aj)],[jS]⟩)])
abbrev ajg:List (Nat×VS):=[(0,aa),(1,aJ),(2,bZ),(3,cU),(10,aa),(11,aa)]
def axK:Shape×List (Out×Shape):=(⟨ajg,w9⟩,[(.exit 0,⟨ajg++[(12,aj)],w9⟩)])
abbrev ajh:List (Nat×VS):=[(0,aa),(1,aJ),(2,bZ),(3,cU),(5,Ym),(6,aa)]
def axL:Shape×List (Out×Shape):=(⟨ajh,[sX,wX,yN,iZ,jS]⟩,[(.exit 0,⟨ajh++[(13,aj)],[sX,wX,yN,iZ,jS]⟩)])
def Zk:Shape×List (Out×Shape):=(⟨[(4,aJ),(6,bZ)],aik⟩,[(.ret,⟨[(4,aJ),(5,aa)],[.var 185 [aa,aj,rN,Av,mM,nz,FQ,ahE,aa],bw,bw,aX,aX,bw,qn]⟩),(.exit 0,⟨[(4,aJ),(6,bZ),(21,aj)],aik⟩)])
abbrev aji:List (Nat×VS):=[(1,aJ),(3,bZ),(28,da),(29,aa),(30,aa)]
def Zl:Shape×List (Out×Shape):=(⟨aji,[vp,vp]⟩,[(.ret,⟨yQ,[]⟩),(.exit 0,⟨aji++[(31,aj)],[vp,vp]⟩)])
abbrev ajj:List (Nat×VS):=[(0,aJ),(1,aa),(4,aa),(7,mM),(20,nz),(21,aa),(22,aa)]
def Zm:Shape×List (Out×Shape):=(⟨ajj,CO⟩,[(.exit 2,⟨ajj++[(23,aj)],CO⟩)])
abbrev ajk:List (Nat×VS):=[(0,aJ),(1,aa),(4,aa),(7,mM)]
def Zn:Shape×List (Out×Shape):=(⟨ajk,CO⟩,[(.ret,⟨[(4,aa),(5,aj),(6,aj)],CP⟩),(.exit 0,⟨ajk++[(14,aj)],CO⟩)])
abbrev ajl:List (Nat×VS):=[(0,aJ),(3,mM),(15,nz),(16,aa),(17,aa)]
def Zo:Shape×List (Out×Shape):=(⟨ajl,CO⟩,[(.exit 0,⟨ajl++[(18,aj)],CO⟩)])
abbrev ajm:List (Nat×VS):=[(0,dC),(8,dC),(9,aa),(10,aa)]
def UU:Shape×List (Out×Shape):=(⟨ajm,[]⟩,[(.ret,⟨F8,[]⟩),(.exit 0,⟨ajm++[(11,aj)],[]⟩)])
def UQ:Shape×List (Out×Shape):=(⟨[(0,dM),(3,nA)],lg⟩,[(.exit 0,⟨[(0,dM),(3,nA),(5,aj)],lg⟩)])
def axM:Shape×List (Out×Shape):=(⟨[(0,cW),(2,aa),(3,aa),(4,.fn 30 [] []),(10,aa),(11,aa),(40,aj)],cz⟩,[(.norm,⟨[(0,cW),(2,aa),(3,aa),(4,.fn 30 [] []),(10,aa),(11,aa)],cz⟩)])
def axN:Shape×List (Out×Shape):=(⟨[(0,cW),(2,aa),(3,aa),(4,.fn 30 [] []),(10,aa)],cz⟩,[(.exit 0,⟨[(0,cW),(2,aa),(3,aa),(4,.fn 30 [] []),(10,aa),(11,aa),(18,aj)],cz⟩),(.ret,⟨[(0,cW),(2,aa),(3,aa),(4,.fn 30 [] []),(10,aa),(11,aa),(58,aj)],cz⟩)])
abbrev ajn:List (Nat×VS):=[(2,aJ),(3,bZ),(4,cU),(5,FV),(6,KF),(7,aa),(21,dF),(22,aa),(23,aa)]
def axO:Shape×List (Out×Shape):=(⟨ajn,[Ru,sW,.var 164 [aa,aa,FU,aa,aa,CF,aj],dO,dO,dO,dO]⟩,[(.exit 0,⟨ajn++[(24,aj)],[Ru,sW,.var 164 [aa,aa,FU,aa,aa,CF,aj],dO,dO,dO,dO]⟩)])
abbrev ajo:List (Nat×VS):=[(2,aJ),(4,bZ),(5,Ys),(6,FV),(7,aj),(20,dF),(21,aa),(22,aa)]
def axP:Shape×List (Out×Shape):=(⟨ajo,[Ru,KN,dO,dO,dO,dO]⟩,[(.exit 0,⟨ajo++[(23,aj)],[Ru,KN,dO,dO,dO,dO]⟩)])
abbrev ajp:List (Nat×VS):=[(4,aJ),(6,Rl),(7,aj),(11,Ys),(54,FV),(55,aa),(56,aa)]
def axQ:Shape×List (Out×Shape):=(⟨ajp,[KN,dO,dO,dO,dO,dO]⟩,[(.exit 2,⟨ajp++[(57,aj)],[KN,dO,dO,dO,dO,dO]⟩)])
def axR:Shape×List (Out×Shape):=(⟨[(0,aJ),(2,ju),(3,aa),(9,cU),(10,dF),(11,aa),(12,aa),(18,aj)],CN⟩,[(.norm,⟨[(0,aJ),(2,ju),(3,aa),(9,cU),(10,dF),(11,aa),(12,aa)],CN⟩)])
abbrev ajq:List (Nat×VS):=[(0,aJ),(2,ju),(3,aa),(10,dF),(11,aa),(12,aa)]
def axS:Shape×List (Out×Shape):=(⟨ajq,vr⟩,[(.exit 0,⟨ajq++[(13,aj)],vr⟩)])
def axT:Shape×List (Out×Shape):=(⟨[(0,dF),(1,.fn 141 [] []),(7,aa),(8,aa)],[]⟩,[(.ret,⟨CQ,[]⟩),(.exit 0,⟨[(0,dF),(1,.fn 141 [] []),(7,aa),(8,aa),(9,aj)],[]⟩)])
abbrev ajr:List (Nat×VS):=[(1,aj),(6,aJ),(39,da),(40,aa),(41,aa)]
def Zp:Shape×List (Out×Shape):=(⟨ajr,rQ⟩,[(.ret,⟨[(4,.one (.eV)),(5,aa)],[]⟩),(.exit 0,⟨ajr++[(42,aj)],rQ⟩)])
def Zq:Shape×List (Out×Shape):=(⟨[(6,aJ),(9,aa),(72,aj)],rQ⟩,[(.norm,⟨[(6,aJ),(9,aa)],rQ⟩)])
def Zr:Shape×List (Out×Shape):=(⟨[(6,aJ),(9,aa),(10,aa),(11,dg),(12,ju),(13,aa),(85,rN),(86,aa),(87,aa),(106,aj)],rQ⟩,[(.norm,⟨[(6,aJ),(9,aa),(13,aa),(85,rN),(86,aa),(87,aa)],rQ⟩)])
abbrev ajs:List (Nat×VS):=[(6,aJ),(9,aa),(85,rN),(86,aa),(87,aa)]
def Zs:Shape×List (Out×Shape):=(⟨ajs,rQ⟩,[(.exit 2,⟨ajs++[(88,aj)],rQ⟩)])
def Zt:Shape×List (Out×Shape):=(⟨[(0,aJ),(3,aa),(4,Rq),(5,aa),(7,Yt),(8,aa),(10,ju),(27,FR),(28,aa),(29,aa),(78,aj)],[.var 224 [aa,aj,FR,Rm,KG,KH,ahW,ahX,aa,KD,ahK,Yo,ahY],.dead,.dead,.dead,.dead,.dead,.dead,.map 110,.dead,.dead,.dead,aX,aX,bw,bw,aX,aX,bw,qn,jR,aX,aX]⟩,[(.norm,⟨[(0,aJ),(3,aa),(4,Rq),(5,aa),(8,aa),(27,Ax),(28,aa),(29,aa)],YM⟩)])
abbrev ajt:List (Nat×VS):=[(0,aJ),(3,aa),(4,Rq),(27,Ax),(28,aa),(29,aa)]
def Zu:Shape×List (Out×Shape):=(⟨ajt,YM⟩,[(.ret,⟨yQ,YN⟩),(.exit 0,⟨ajt++[(30,aj)],YM⟩)])
abbrev aju:List (Nat×VS):=[(0,dg),(1,aa),(7,aa),(8,aa)]
def Zv:Shape×List (Out×Shape):=(⟨aju,[]⟩,[(.ret,⟨CQ,[]⟩),(.exit 0,⟨aju++[(9,aj)],[]⟩)])
abbrev ajv:List (Nat×VS):=[(0,aJ),(2,bZ),(4,Yz)]
def axU:Shape×List (Out×Shape):=(⟨ajv,[CJ,Rv,AB,AB]⟩,[(.ret,⟨[(2,bZ),(3,aj)],[CJ,.var 140 [aa,aa,Yz],AB]⟩),(.exit 0,⟨ajv++[(16,aj)],[CJ,Rv,AB,AB]⟩)])
abbrev ajw:List (Nat×VS):=[(1,aJ),(3,aa),(53,da),(54,aa),(55,aa)]
def Zw:Shape×List (Out×Shape):=(⟨ajw,[vp]⟩,[(.ret,⟨F8,[]⟩),(.exit 0,⟨ajw++[(56,aj)],[vp]⟩)])
abbrev ajx:List (Nat×VS):=[(1,aJ),(2,bZ),(3,cU),(4,aa),(5,dg),(19,da),(20,aa),(21,aa),(34,dg),(35,aa),(36,aa)]
def Zx:Shape×List (Out×Shape):=(⟨ajx,RC⟩,[(.exit 2,⟨ajx++[(37,aj)],RC⟩)])
abbrev ajy:List (Nat×VS):=[(1,aJ),(2,bZ),(3,cU),(19,da),(20,aa),(21,aa)]
def Zy:Shape×List (Out×Shape):=(⟨ajy,RC⟩,[(.exit 0,⟨ajy++[(22,aj)],RC⟩)])
abbrev ajz:List (Nat×VS):=[(0,dg),(1,dg),(12,aa),(13,aa)]
def Zz:Shape×List (Out×Shape):=(⟨ajz,[]⟩,[(.ret,⟨ub,[]⟩),(.exit 0,⟨ajz++[(14,aj)],[]⟩)])
abbrev ajA:List (Nat×VS):=[(0,KE),(1,KE),(12,aa),(13,aa)]
def ZA:Shape×List (Out×Shape):=(⟨ajA,[]⟩,[(.ret,⟨ub,[]⟩),(.exit 0,⟨ajA++[(14,aj)],[]⟩)])
abbrev ajB:List (Nat×VS):=[(0,vk),(1,vk),(12,aa),(13,aa)]
def ZB:Shape×List (Out×Shape):=(⟨ajB,[]⟩,[(.ret,⟨ub,[]⟩),(.exit 0,⟨ajB++[(14,aj)],[]⟩)])
abbrev ajC:List (Nat×VS):=[(0,da),(1,dg),(5,FT),(15,dg),(16,aa),(17,aa)]
def ZC:Shape×List (Out×Shape):=(⟨ajC,tZ⟩,[(.ret,⟨ub,[]⟩),(.exit 0,⟨ajC++[(18,aj)],tZ⟩)])
abbrev ajD:List (Nat×VS):=[(0,da),(1,dg),(5,FT),(9,aa),(47,dg),(48,aa),(49,aa),(53,dg),(54,aa),(55,aa)]
def ZD:Shape×List (Out×Shape):=(⟨ajD,tZ⟩,[(.ret,⟨ub,[]⟩),(.exit 4,⟨ajD++[(56,aj)],tZ⟩)])
abbrev ajE:List (Nat×VS):=[(0,da),(1,dg),(5,FT),(47,dg),(48,aa),(49,aa)]
def ZE:Shape×List (Out×Shape):=(⟨ajE,tZ⟩,[(.ret,⟨ub,[]⟩),(.exit 2,⟨ajE++[(50,aj)],tZ⟩)])
abbrev ajF:List (Nat×VS):=[(3,aJ),(6,vn),(7,aa),(8,aa)]
def axV:Shape×List (Out×Shape):=(⟨ajF,[FY]⟩,[(.exit 0,⟨ajF++[(9,aj)],[FY]⟩)])
abbrev ajG:List (Nat×VS):=[(1,aJ),(3,.one (.whole 278 1)),(19,vn),(20,aa),(21,aa)]
def axW:Shape×List (Out×Shape):=(⟨ajG,[wZ,YK]⟩,[(.exit 1,⟨ajG++[(22,aj)],[wZ,YK]⟩)])
abbrev ajH:List (Nat×VS):=[(0,da),(1,dg),(7,aJ),(8,bZ),(10,Av),(11,aa),(33,aa),(34,aa),(37,dg),(38,aa),(39,aa)]
def ZF:Shape×List (Out×Shape):=(⟨ajH,RD⟩,[(.exit 2,⟨ajH++[(40,aj)],RD⟩)])
abbrev ajI:List (Nat×VS):=[(0,da),(1,dg),(7,aJ),(8,bZ),(10,Av),(33,aa),(34,aa)]
def ZG:Shape×List (Out×Shape):=(⟨ajI,RD⟩,[(.exit 0,⟨ajI++[(35,aj)],RD⟩)])
abbrev ajJ:List (Nat×VS):=[(0,da),(7,aJ),(11,bZ),(12,CE),(18,Rp),(19,aa),(20,aa),(24,tY),(25,aa),(26,aa),(48,aa),(49,aa)]
def ZH:Shape×List (Out×Shape):=(⟨ajJ,[rP,YH,aX]⟩,[(.exit 4,⟨ajJ++[(50,aj)],[rP,YH,aX]⟩)])
abbrev ajK:List (Nat×VS):=[(0,da),(7,aJ),(18,Rp),(19,aa),(20,aa),(24,tY),(25,aa),(26,aa)]
def ZI:Shape×List (Out×Shape):=(⟨ajK,[rP]⟩,[(.exit 2,⟨ajK++[(27,aj)],[rP]⟩)])
abbrev ajL:List (Nat×VS):=[(0,da),(7,aJ),(18,Rp),(19,aa),(20,aa)]
def ZJ:Shape×List (Out×Shape):=(⟨ajL,[rP]⟩,[(.exit 0,⟨ajL++[(21,aj)],[rP]⟩)])
def ZK:Shape×List (Out×Shape):=(⟨[(0,aJ),(2,rO),(7,cU),(8,aa),(10,nB),(11,tY),(12,aa),(13,aa),(18,aa),(19,aj)],[rP,aX,aX,YH]⟩,[(.norm,⟨aim,YO⟩)])
def ZL:Shape×List (Out×Shape):=(⟨aim,YO⟩,[(.exit 0,⟨[(0,aJ),(2,rO),(7,cU),(8,aa),(11,tY),(12,aa),(13,aa),(14,aj)],YO⟩)])
def ZM:Shape×List (Out×Shape):=(⟨[(0,aJ),(3,aa)],CP⟩,[(.ret,⟨F8,CP⟩),(.exit 0,⟨[(0,aJ),(3,aa),(11,aj)],CP⟩)])
def axX:Shape×List (Out×Shape):=(⟨[(0,cg),(1,.fn 105 [] []),(5,aa),(6,aa)],bD⟩,[(.exit 0,⟨[(0,cg),(1,.fn 105 [] []),(5,aa),(6,aa),(19,aj)],bD⟩)])
abbrev ajM:List (Nat×VS):=[(0,aa),(5,cg),(8,dF),(9,aa),(10,aa)]
def axY:Shape×List (Out×Shape):=(⟨ajM,bD⟩,[(.exit 0,⟨ajM++[(11,aj)],bD⟩)])
abbrev ajN:List (Nat×VS):=[(0,dg),(13,dg),(14,aa),(15,aa)]
def ZN:Shape×List (Out×Shape):=(⟨ajN,[]⟩,[(.ret,⟨F8,[]⟩),(.exit 0,⟨ajN++[(16,aj)],[]⟩)])
abbrev ajO:List (Nat×VS):=[(3,nA),(14,aa),(15,aa)]
def ZO:Shape×List (Out×Shape):=(⟨ajO,lg⟩,[(.exit 0,⟨ajO++[(16,aj)],lg⟩)])
abbrev ajP:List (Nat×VS):=[(3,.one (.whole 5 0)),(9,dg),(10,aa),(11,aa)]
def ZP:Shape×List (Out×Shape):=(⟨ajP,[KO]⟩,[(.exit 0,⟨ajP++[(12,aj)],[KO]⟩)])
abbrev ajQ:List (Nat×VS):=[(1,dg),(5,nA),(26,dg),(27,aa),(28,aa)]
def ZQ:Shape×List (Out×Shape):=(⟨ajQ,lg⟩,[(.exit 0,⟨ajQ++[(29,aj)],lg⟩)])
def axZ:Shape×List (Out×Shape):=(⟨lh,pG⟩,[(.exit 0,⟨[(0,aJ),(3,aj)],pG⟩)])
abbrev ajR:List (Nat×VS):=[(0,aJ),(2,bZ),(4,cU)]
def ax0:Shape×List (Out×Shape):=(⟨ajR,[CJ,Rv,wZ,AB]⟩,[(.ret,⟨[(2,bZ),(3,aj)],[CJ,.var 140 [aa,aa,Yz],AB]⟩),(.exit 0,⟨ajR++[(19,aj)],[CJ,Rv,wZ,AB]⟩)])
abbrev ajS:List (Nat×VS):=[(1,aa),(7,dg),(8,aa),(9,aa)]
def ZR:Shape×List (Out×Shape):=(⟨ajS,[]⟩,[(.ret,⟨ub,[]⟩),(.exit 0,⟨ajS++[(10,aj)],[]⟩)])
abbrev ajT:List (Nat×VS):=[(0,da),(13,da),(14,aa),(15,aa),(24,dg),(25,aa),(26,aa)]
def ZS:Shape×List (Out×Shape):=(⟨ajT,[]⟩,[(.ret,⟨yQ,[]⟩),(.exit 2,⟨ajT++[(27,aj)],[]⟩)])
abbrev ajU:List (Nat×VS):=[(0,da),(13,da),(14,aa),(15,aa)]
def ZT:Shape×List (Out×Shape):=(⟨ajU,[]⟩,[(.ret,⟨yQ,[]⟩),(.exit 0,⟨ajU++[(16,aj)],[]⟩)])
abbrev ajV:List (Nat×VS):=[(0,da),(5,FT),(7,aa),(9,dg),(10,dg),(16,dg),(17,aa),(18,aa),(29,da),(30,aa),(31,aa),(45,dg),(46,aa),(47,aa)]
def ZU:Shape×List (Out×Shape):=(⟨ajV,tZ⟩,[(.ret,⟨ub,[]⟩),(.exit 4,⟨ajV++[(48,aj)],tZ⟩)])
abbrev ajW:List (Nat×VS):=[(0,da),(5,FT),(7,aa),(16,dg),(17,aa),(18,aa),(29,da),(30,aa),(31,aa)]
def ZV:Shape×List (Out×Shape):=(⟨ajW,tZ⟩,[(.ret,⟨ub,[]⟩),(.exit 2,⟨ajW++[(32,aj)],tZ⟩)])
abbrev ajX:List (Nat×VS):=[(0,da),(5,FT),(16,dg),(17,aa),(18,aa)]
def ZW:Shape×List (Out×Shape):=(⟨ajX,tZ⟩,[(.ret,⟨ub,[]⟩),(.exit 0,⟨ajX++[(19,aj)],tZ⟩)])
def ZX:Shape×List (Out×Shape):=(⟨[(0,da),(3,nA),(4,bZ),(5,cU),(6,.fn 213 [] [.az 2 0 0,.az 1 0 0]),(7,aa),(9,aa),(17,aa),(18,aa),(45,dg),(46,aa),(47,aa)],F5⟩,[(.exit 4,⟨[(0,da),(3,nA),(4,bZ),(5,cU),(6,.fn 213 [] [.az 2 0 0,.az 1 0 0]),(7,aa),(9,aa),(17,aa),(18,aa),(45,dg),(46,aa),(47,aa),(48,aj)],F5⟩)])
def ZY:Shape×List (Out×Shape):=(⟨[(0,da),(3,nA),(4,bZ),(5,cU),(6,.fn 213 [] [.az 2 0 0,.az 1 0 0]),(7,aa),(17,aa),(18,aa)],F5⟩,[(.exit 2,⟨[(0,da),(3,nA),(4,bZ),(5,cU),(6,.fn 213 [] [.az 2 0 0,.az 1 0 0]),(7,aa),(17,aa),(18,aa),(35,aj)],F5⟩)])
def ZZ:Shape×List (Out×Shape):=(⟨[(0,da),(3,nA),(4,bZ),(5,cU),(6,.fn 213 [] [.az 2 0 0,.az 1 0 0]),(7,aa),(17,aa),(18,aa)],F5⟩,[(.exit 0,⟨[(0,da),(3,nA),(4,bZ),(5,cU),(6,.fn 213 [] [.az 2 0 0,.az 1 0 0]),(7,aa),(17,aa),(18,aa),(19,aj)],F5⟩)])
def Z0:Shape×List (Out×Shape):=(⟨[(0,dg),(1,.fn 197 [] [.az 0 0 0]),(7,aa),(8,aa)],xb⟩,[(.ret,⟨CQ,xb⟩),(.exit 0,⟨[(0,dg),(1,.fn 197 [] [.az 0 0 0]),(7,aa),(8,aa),(9,aj)],xb⟩)])
abbrev ajY:List (Nat×VS):=[(3,nA),(9,aa),(10,aa)]
def Z1:Shape×List (Out×Shape):=(⟨ajY,lg⟩,[(.exit 0,⟨ajY++[(11,aj)],lg⟩)])
abbrev ajZ:List (Nat×VS):=[(0,aa),(1,aJ),(6,aa),(7,aa)]
def Z2:Shape×List (Out×Shape):=(⟨ajZ,xb⟩,[(.ret,⟨[(3,aj)],xb⟩),(.exit 0,⟨ajZ++[(8,aj)],xb⟩)])
def ax1:Shape×List (Out×Shape):=(⟨[(2,aJ),(3,bZ),(4,cU),(5,nB),(8,aj)],[wY,wY,wZ,wZ]⟩,[(.norm,⟨[],KQ⟩)])
abbrev aj0:List (Nat×VS):=[(3,aJ),(6,vn),(7,aa),(8,aa)]
def ax2:Shape×List (Out×Shape):=(⟨aj0,e9⟩,[(.exit 0,⟨aj0++[(9,aj)],e9⟩)])
abbrev aj1:List (Nat×VS):=[(0,da),(1,aa),(2,aa),(7,aa)]
def Z3:Shape×List (Out×Shape):=(⟨aj1,[]⟩,[(.exit 0,⟨aj1++[(19,aj)],[]⟩)])
abbrev aj2:List (Nat×VS):=[(0,da),(7,aa),(8,aa),(9,aa)]
def Z4:Shape×List (Out×Shape):=(⟨aj2,[]⟩,[(.exit 2,⟨aj2++[(45,aj)],[]⟩)])
abbrev aj3:List (Nat×VS):=[(0,da),(1,aa),(8,aa),(54,aa),(55,aa)]
def Z5:Shape×List (Out×Shape):=(⟨aj3,[]⟩,[(.exit 4,⟨aj3++[(56,aj)],[]⟩)])
def Z6:Shape×List (Out×Shape):=(⟨[(0,da),(1,.fn 162 [] []),(7,aa),(8,aa)],[]⟩,[(.ret,⟨CQ,[]⟩),(.exit 0,⟨[(0,da),(1,.fn 162 [] []),(7,aa),(8,aa),(9,aj)],[]⟩)])
def ax3:Shape×List (Out×Shape):=(⟨[(0,cg),(1,.fn 207 [] []),(5,aa),(6,.one (.sub 50 0)),(7,aa)],bD⟩,[(.exit 2,⟨[(0,cg),(1,.fn 207 [] []),(5,aa),(6,.one (.sub 50 0)),(7,aa),(35,aj)],bD⟩)])
def ax4:Shape×List (Out×Shape):=(⟨[(0,cg),(1,.fn 207 [] []),(5,aa)],bD⟩,[(.ret,⟨[(4,Rl)],F6⟩),(.exit 0,⟨[(0,cg),(1,.fn 207 [] []),(5,aa),(15,aj)],bD⟩)])
abbrev aj4:List (Nat×VS):=[(1,aa),(5,aa),(18,vn),(19,aa),(20,aa)]
def ax5:Shape×List (Out×Shape):=(⟨aj4,[]⟩,[(.exit 0,⟨aj4,[]⟩)])
def ax6:Shape×List (Out×Shape):=(⟨[(0,cg),(1,aa),(2,aa),(3,aa),(4,.fn cI [] []),(10,aj),(11,aj),(12,aa),(39,aj)],bD⟩,[(.norm,⟨[(0,cg),(1,aa),(2,aa),(3,aa),(4,.fn cI [] []),(10,aj),(11,aj),(12,aa)],bD⟩)])
def ax7:Shape×List (Out×Shape):=(⟨[(0,cg),(1,aa),(2,aa),(3,aa),(4,.fn cI [] []),(10,aj),(11,aj),(12,aa),(13,aa),(14,aa),(56,aj)],bD⟩,[(.norm,⟨[(0,cg),(1,aa),(2,aa),(3,aa),(4,.fn cI [] []),(10,aj),(11,aj),(12,aa),(13,aa),(14,aa)],bD⟩)])
def ax8:Shape×List (Out×Shape):=(⟨[(0,cg),(1,aa),(2,aa),(3,aa),(4,.fn cI [] []),(10,aj),(11,aj),(12,aa),(13,aa),(75,aj)],bD⟩,[(.ret,⟨[(0,cg),(1,aa),(2,aa),(3,aa),(4,.fn cI [] []),(10,aj),(11,aj),(12,aa),(13,aa),(80,aj)],bD⟩),(.norm,⟨[(0,cg),(1,aa),(2,aa),(3,aa),(4,.fn cI [] []),(10,aj),(11,aj),(12,aa),(13,aa)],bD⟩)])
def ax9:Shape×List (Out×Shape):=(⟨[(0,cg),(1,aa),(2,aa),(3,aa),(4,.fn cI [] []),(10,aj),(11,aj)],bD⟩,[(.ret,⟨[],bD⟩)])
def aya:Shape×List (Out×Shape):=(⟨[(0,dF),(1,dF),(2,.fn cI [] []),(11,dF),(12,aa),(13,aa)],[]⟩,[(.ret,⟨[(6,aa)],[]⟩),(.exit 0,⟨[(0,dF),(1,dF),(2,.fn cI [] []),(11,dF),(12,aa),(13,aa),(14,aj)],[]⟩)])
def ayb:Shape×List (Out×Shape):=(⟨[(0,cg),(1,aa),(2,aa),(3,.fn cI [] []),(8,aa),(9,aa)],bD⟩,[(.exit 2,⟨[(0,cg),(1,aa),(2,aa),(3,.fn cI [] []),(8,aa),(9,aa),(34,aj)],bD⟩)])
def ayc:Shape×List (Out×Shape):=(⟨[(0,cg),(1,aa),(2,aa),(3,.fn cI [] []),(8,aa)],bD⟩,[(.exit 0,⟨[(0,cg),(1,aa),(2,aa),(3,.fn cI [] []),(8,aa),(14,aj)],bD⟩)])
def ayd:Shape×List (Out×Shape):=(⟨[(0,cg),(3,.fn cI [] []),(8,aa),(9,aa),(10,aa),(11,aa)],bD⟩,[(.exit 0,⟨[(0,cg),(3,.fn cI [] []),(8,aa),(9,aa),(10,aa),(11,aa),(21,aj)],bD⟩)])
def aye:Shape×List (Out×Shape):=(⟨[(0,cg),(3,.fn cI [] []),(8,aa),(9,aa),(12,aa)],bD⟩,[(.exit 2,⟨[(0,cg),(3,.fn cI [] []),(8,aa),(9,aa),(12,aa),(33,aj)],bD⟩)])
def ayf:Shape×List (Out×Shape):=(⟨[(0,cg),(1,aa),(8,aa),(9,bZ),(10,dM),(11,aa),(12,aa),(45,aj)],RE⟩,[(.norm,⟨[(0,cg),(1,aa),(8,aa),(9,bZ),(10,dM),(11,aa),(12,aa)],RE⟩)])
abbrev aj5:List (Nat×VS):=[(0,cg),(1,aa),(8,aa),(9,bZ),(10,dM),(11,aa)]
def ayg:Shape×List (Out×Shape):=(⟨aj5,RE⟩,[(.exit 0,⟨aj5++[(35,aj)],RE⟩)])
def ayh:Shape×List (Out×Shape):=(⟨[(0,dF),(3,.fn cI [] []),(11,aJ),(12,aa),(13,aa),(14,aa),(36,aj)],e9⟩,[(.norm,⟨[(0,dF),(3,.fn cI [] []),(11,aJ),(12,aa),(13,aa),(14,aa)],e9⟩)])
def ayi:Shape×List (Out×Shape):=(⟨[(0,dF),(3,.fn cI [] []),(10,aa),(11,aJ),(12,aa),(13,aa),(14,aa),(34,aj)],e9⟩,[(.norm,⟨[(11,aJ),(13,aa)],e9⟩)])
abbrev aj6:List (Nat×VS):=[(0,cg),(8,aa),(9,aa)]
def ayj:Shape×List (Out×Shape):=(⟨aj6,bD⟩,[(.exit 0,⟨aj6++[(15,aj)],bD⟩)])
def ayk:Shape×List (Out×Shape):=(⟨[(0,cg),(1,aa),(2,aa),(3,.fn cI [] []),(9,aa),(10,aa)],bD⟩,[(.exit 2,⟨[(0,cg),(1,aa),(2,aa),(3,.fn cI [] []),(9,aa),(10,aa),(36,aj)],bD⟩)])
def ayl:Shape×List (Out×Shape):=(⟨[(0,cg),(1,aa),(2,aa),(3,.fn cI [] []),(9,aa),(10,aa),(11,aa)],bD⟩,[(.exit 4,⟨[(0,cg),(1,aa),(2,aa),(3,.fn cI [] []),(9,aa),(10,aa),(11,aa)],bD⟩)])
def aym:Shape×List (Out×Shape):=(⟨[(0,cg),(1,aa),(2,aa),(3,.fn cI [] []),(9,aa),(10,aa),(65,aj)],bD⟩,[(.norm,⟨[(0,cg),(1,aa),(2,aa),(3,.fn cI [] []),(9,aa),(10,aa)],bD⟩)])
def ayn:Shape×List (Out×Shape):=(⟨[(0,cg),(1,aa),(2,aa),(3,.fn cI [] []),(9,aa),(10,aa),(12,aa)],bD⟩,[(.exit 6,⟨[(0,cg),(1,aa),(2,aa),(3,.fn cI [] []),(9,aa),(10,aa),(12,aa)],bD⟩)])
def ayo:Shape×List (Out×Shape):=(⟨[(0,cg),(1,aa),(2,aa),(3,.fn cI [] []),(9,aa),(10,aa)],bD⟩,[(.ret,⟨[(8,aj)],bD⟩),(.exit 0,⟨[(0,cg),(1,aa),(2,aa),(3,.fn cI [] []),(9,aa),(10,aa),(16,aj)],bD⟩)])
def ayp:Shape×List (Out×Shape):=(⟨[(0,cg),(1,aa),(4,.fn cI [] []),(11,aa),(12,aa)],bD⟩,[(.exit 2,⟨[(0,cg),(1,aa),(4,.fn cI [] []),(11,aa),(12,aa),(47,aj)],bD⟩)])
def ayq:Shape×List (Out×Shape):=(⟨[(0,cg),(1,aa),(4,.fn cI [] []),(11,aa),(12,aa)],bD⟩,[(.exit 4,⟨[(0,cg),(1,aa),(4,.fn cI [] []),(11,aa),(12,aa),(65,aj)],bD⟩)])
def ayr:Shape×List (Out×Shape):=(⟨[(0,cg),(1,aa),(4,.fn cI [] []),(11,aa),(12,aa)],bD⟩,[(.exit 0,⟨[(0,cg),(1,aa),(4,.fn cI [] []),(11,aa),(12,aa),(70,aj)],bD⟩)])
def ays:Shape×List (Out×Shape):=(⟨[(0,cg),(1,aa),(4,.fn cI [] []),(12,aa),(13,aa)],bD⟩,[(.exit 0,⟨[(0,cg),(1,aa),(4,.fn cI [] []),(12,aa),(13,aa),(47,aj)],bD⟩)])
def ayt:Shape×List (Out×Shape):=(⟨[(0,cg),(1,aa),(4,.fn cI [] []),(12,aa),(13,aa)],bD⟩,[(.exit 2,⟨[(0,cg),(1,aa),(4,.fn cI [] []),(12,aa),(13,aa),(66,aj)],bD⟩)])
def ayu:Shape×List (Out×Shape):=(⟨[(0,cg),(1,aa),(4,.fn cI [] []),(12,aa),(13,aa)],bD⟩,[(.exit 6,⟨[(0,cg),(1,aa),(4,.fn cI [] []),(12,aa),(13,aa),(120,aj)],bD⟩)])
def ayv:Shape×List (Out×Shape):=(⟨[(0,cg),(1,aa),(4,.fn cI [] []),(12,aa),(13,aa)],bD⟩,[(.exit 8,⟨[(0,cg),(1,aa),(4,.fn cI [] []),(12,aa),(13,aa),(139,aj)],bD⟩)])
def ayw:Shape×List (Out×Shape):=(⟨[(0,cg),(1,aa),(4,.fn cI [] []),(12,aa),(13,aa)],bD⟩,[(.exit 4,⟨[(0,cg),(1,aa),(4,.fn cI [] []),(12,aa),(13,aa),(144,aj)],bD⟩)])
def ayx:Shape×List (Out×Shape):=(⟨[(0,cg),(2,aa),(3,aa),(4,.fn cI [] []),(10,aa),(11,aa),(40,aj)],bD⟩,[(.norm,⟨[(0,cg),(2,aa),(3,aa),(4,.fn cI [] []),(10,aa),(11,aa)],bD⟩)])
def ayy:Shape×List (Out×Shape):=(⟨[(0,cg),(2,aa),(3,aa),(4,.fn cI [] []),(10,aa)],bD⟩,[(.exit 0,⟨[(0,cg),(2,aa),(3,aa),(4,.fn cI [] []),(10,aa),(11,aa),(18,aj)],bD⟩),(.ret,⟨[(0,cg),(2,aa),(3,aa),(4,.fn cI [] []),(10,aa),(11,aa),(58,aj)],bD⟩)])
def ayz:Shape×List (Out×Shape):=(⟨[(0,dF),(1,.fn 105 [] []),(7,aa),(8,aa)],[]⟩,[(.ret,⟨CQ,[]⟩),(.exit 0,⟨[(0,dF),(1,.fn 105 [] []),(7,aa),(8,aa),(9,aj)],[]⟩)])
def ayA:Shape×List (Out×Shape):=(⟨[(0,cg),(1,.fn 172 [] []),(5,aa),(6,aa)],bD⟩,[(.exit 0,⟨[(0,cg),(1,.fn 172 [] []),(5,aa),(6,aa),(19,aj)],bD⟩)])
def ayB:Shape×List (Out×Shape):=(⟨[(0,dF),(1,.fn 172 [] []),(7,aa),(8,aa)],[]⟩,[(.ret,⟨CQ,[]⟩),(.exit 0,⟨[(0,dF),(1,.fn 172 [] []),(7,aa),(8,aa),(9,aj)],[]⟩)])
def ayC:Shape×List (Out×Shape):=(⟨[(0,cg),(1,.fn 141 [] []),(5,aa),(6,aa)],bD⟩,[(.exit 0,⟨[(0,cg),(1,.fn 141 [] []),(5,aa),(6,aa),(19,aj)],bD⟩)])
def ayD:Shape×List (Out×Shape):=(⟨[(1,.fn 108 [] [.az 0 0 0]),(4,aa),(5,dM),(6,dC),(7,aa),(8,aa)],e9⟩,[(.exit 2,⟨[(1,.fn 108 [] [.az 0 0 0]),(4,aa),(5,dM),(6,dC),(7,aa),(8,aa),(14,aj)],e9⟩)])
def ayE:Shape×List (Out×Shape):=(⟨[(1,.fn 108 [] [.az 0 0 0]),(6,dC),(7,aa),(8,aa)],e9⟩,[(.exit 0,⟨[(1,.fn 108 [] [.az 0 0 0]),(6,dC),(7,aa),(8,aa),(9,aj)],e9⟩)])
def ayF:Shape×List (Out×Shape):=(⟨[(1,.fn 111 [] [.az 0 0 0,.az 1 0 0,.az 2 0 0]),(4,aa),(5,dM),(6,dC),(7,aa),(8,aa)],AE⟩,[(.exit 2,⟨[(1,.fn 111 [] [.az 0 0 0,.az 1 0 0,.az 2 0 0]),(4,aa),(5,dM),(6,dC),(7,aa),(8,aa),(14,aj)],AE⟩)])
def ayG:Shape×List (Out×Shape):=(⟨[(1,.fn 111 [] [.az 0 0 0,.az 1 0 0,.az 2 0 0]),(6,dC),(7,aa),(8,aa)],AE⟩,[(.exit 0,⟨[(1,.fn 111 [] [.az 0 0 0,.az 1 0 0,.az 2 0 0]),(6,dC),(7,aa),(8,aa),(9,aj)],AE⟩)])
def ayH:Shape×List (Out×Shape):=(⟨[(1,.fn 110 [] [.az 0 0 0,.az 1 0 0,.az 2 0 0]),(4,aa),(5,dM),(6,dC),(7,aa),(8,aa)],w9⟩,[(.exit 2,⟨[(1,.fn 110 [] [.az 0 0 0,.az 1 0 0,.az 2 0 0]),(4,aa),(5,dM),(6,dC),(7,aa),(8,aa),(14,aj)],w9⟩)])
def ayI:Shape×List (Out×Shape):=(⟨[(1,.fn 110 [] [.az 0 0 0,.az 1 0 0,.az 2 0 0]),(6,dC),(7,aa),(8,aa)],w9⟩,[(.exit 0,⟨[(1,.fn 110 [] [.az 0 0 0,.az 1 0 0,.az 2 0 0]),(6,dC),(7,aa),(8,aa),(9,aj)],w9⟩)])
def ayJ:Shape×List (Out×Shape):=(⟨[(1,.fn 109 [] [.az 0 0 0,.az 1 0 0]),(4,aa),(5,dM),(6,dC),(7,aa),(8,aa)],ua⟩,[(.exit 2,⟨[(1,.fn 109 [] [.az 0 0 0,.az 1 0 0]),(4,aa),(5,dM),(6,dC),(7,aa),(8,aa),(14,aj)],ua⟩)])
def ayK:Shape×List (Out×Shape):=(⟨[(1,.fn 109 [] [.az 0 0 0,.az 1 0 0]),(6,dC),(7,aa),(8,aa)],ua⟩,[(.exit 0,⟨[(1,.fn 109 [] [.az 0 0 0,.az 1 0 0]),(6,dC),(7,aa),(8,aa),(9,aj)],ua⟩)])
def ayL:Shape×List (Out×Shape):=(⟨[(1,.fn 103 [] [.az 0 0 0,.az 1 0 0]),(4,aa),(5,dM),(6,dC),(7,aa),(8,aa)],ua⟩,[(.exit 2,⟨[(1,.fn 103 [] [.az 0 0 0,.az 1 0 0]),(4,aa),(5,dM),(6,dC),(7,aa),(8,aa),(14,aj)],ua⟩)])
def ayM:Shape×List (Out×Shape):=(⟨[(1,.fn 103 [] [.az 0 0 0,.az 1 0 0]),(6,dC),(7,aa),(8,aa)],ua⟩,[(.exit 0,⟨[(1,.fn 103 [] [.az 0 0 0,.az 1 0 0]),(6,dC),(7,aa),(8,aa),(9,aj)],ua⟩)])
def ayN:Shape×List (Out×Shape):=(⟨[(1,.fn 106 [] [.az 0 0 0,.az 1 0 0,.az 2 0 0,.az 3 0 0]),(4,aa),(5,dM),(6,dC),(7,aa),(8,aa)],AF⟩,[(.exit 2,⟨[(1,.fn 106 [] [.az 0 0 0,.az 1 0 0,.az 2 0 0,.az 3 0 0]),(4,aa),(5,dM),(6,dC),(7,aa),(8,aa),(14,aj)],AF⟩)])
def ayO:Shape×List (Out×Shape):=(⟨[(1,.fn 106 [] [.az 0 0 0,.az 1 0 0,.az 2 0 0,.az 3 0 0]),(6,dC),(7,aa),(8,aa)],AF⟩,[(.exit 0,⟨[(1,.fn 106 [] [.az 0 0 0,.az 1 0 0,.az 2 0 0,.az 3 0 0]),(6,dC),(7,aa),(8,aa),(9,aj)],AF⟩)])
def ayP:Shape×List (Out×Shape):=(⟨[(1,.fn 107 [] [.az 0 0 0,.az 1 0 0,.az 2 0 0]),(4,aa),(5,dM),(6,dC),(7,aa),(8,aa)],F7⟩,[(.exit 2,⟨[(1,.fn 107 [] [.az 0 0 0,.az 1 0 0,.az 2 0 0]),(4,aa),(5,dM),(6,dC),(7,aa),(8,aa),(14,aj)],F7⟩)])
def ayQ:Shape×List (Out×Shape):=(⟨[(1,.fn 107 [] [.az 0 0 0,.az 1 0 0,.az 2 0 0]),(6,dC),(7,aa),(8,aa)],F7⟩,[(.exit 0,⟨[(1,.fn 107 [] [.az 0 0 0,.az 1 0 0,.az 2 0 0]),(6,dC),(7,aa),(8,aa),(9,aj)],F7⟩)])
def ayR:Shape×List (Out×Shape):=(⟨[(0,dF),(1,.fn 64 [] []),(7,aa),(8,aa)],[]⟩,[(.ret,⟨CQ,[]⟩),(.exit 0,⟨[(0,dF),(1,.fn 64 [] []),(7,aa),(8,aa),(9,aj)],[]⟩)])
def ayS:Shape×List (Out×Shape):=(⟨[(2,.fn 200 [] [.az 0 0 0,.az 1 0 0]),(3,cU),(13,vn),(14,aa),(15,aa)],[wY,wY,wZ]⟩,[(.exit 0,⟨[(2,.fn 200 [] [.az 0 0 0,.az 1 0 0]),(3,cU),(13,vn),(14,aa),(15,aa),(16,aj)],[wY,wY,wZ]⟩)])
def ayT:Shape×List (Out×Shape):=(⟨[(2,.fn 214 [] [.az 0 0 0]),(3,bZ),(13,vn),(14,aa),(15,aa)],[wX,wZ]⟩,[(.exit 0,⟨[(2,.fn 214 [] [.az 0 0 0]),(3,bZ),(13,vn),(14,aa),(15,aa),(16,aj)],[wX,wZ]⟩)])
def ayU:List (Nat×FuncId):=[(3,3),
 (4,4),
 (5,5),
 (6,6),
 (7,7),
 (8,8),
 (9,9),
 (10,10),
 (11,11),
 (12,12),
 (13,13),
 (14,14),
 (15,15),
 (16,16),
 (17,17),
 (18,18),
 (19,19),
 (20,20),
 (21,21),
 (22,22),
 (23,23),
 (24,24),
 (25,25),
 (26,26),
 (27,27),
 (28,28),
 (29,29),
 (30,30),
 (31,31),
 (32,32),
 (33,33),
 (34,34),
 (35,35),
 (36,36),
 (37,37),
 (38,38),
 (39,39),
 (40,40),
 (41,41),
 (42,42),
 (43,43),
 (44,44),
 (45,45),
 (46,46),
 (47,47),
 (48,48),
 (49,49),
 (50,50),
 (51,51),
 (52,52),
 (53,53),
 (54,54),
 (55,55),
 (56,56),
 (57,57),
 (58,58),
 (59,59),
 (60,60),
 (61,61),
 (62,62),
 (63,63),
 (64,64),
 (65,65),
 (66,66),
 (67,67),
 (68,68),
 (69,69),
 (70,70),
 (71,71),
 (72,72),
 (73,73),
 (74,74),
 (75,75),
 (76,76),
 (77,77),
 (78,78),
 (79,79),
 (80,80),
 (81,81),
 (82,82),
 (83,83),
 (84,84),
 (85,85),
 (86,86),
 (87,87),
 (88,88),
 (89,89),
 (91,91),
 (92,92),
 (93,93),
 (94,94),
 (95,95),
 (96,96),
 (97,97),
 (98,98),
 (99,99),
 (100,100),
 (101,101),
 (102,102),
 (103,103),
 (104,104),
 (105,105),
 (106,106),
 (107,107),
 (108,108),
 (109,109),
 (110,110),
 (111,111),
 (112,112),
 (113,113),
 (115,115),
 (116,116),
 (117,117),
 (118,118),
 (119,119),
 (120,120),
 (121,121),
 (122,122),
 (123,123),
 (124,124),
 (125,125),
 (126,126),
 (127,127),
 (128,128),
 (129,129),
 (130,130),
 (131,131),
 (132,132),
 (133,133),
 (134,134),
 (135,135),
 (136,136),
 (137,137),
 (138,138),
 (139,139),
 (140,140),
 (141,141),
 (142,142),
 (143,143),
 (144,144),
 (145,145),
 (146,146),
 (147,147),
 (148,148),
 (149,149),
 (150,150),
 (151,151),
 (152,152),
 (153,153),
 (154,154),
 (155,155),
 (156,156),
 (157,157),
 (158,158),
 (159,159),
 (160,160),
 (161,161),
 (162,162),
 (163,163),
 (164,164),
 (165,165),
 (166,166),
 (167,167),
 (168,168),
 (169,169),
 (170,170),
 (171,171),
 (172,172),
 (173,173),
 (175,175),
 (176,176),
 (177,177),
 (178,178),
 (179,179),
 (180,180),
 (181,181),
 (182,182),
 (183,183),
 (184,184),
 (185,185),
 (186,186),
 (187,187),
 (188,188),
 (189,189),
 (191,191),
 (192,192),
 (193,193),
 (194,194),
 (195,195),
 (196,196),
 (197,197),
 (200,200),
 (201,201),
 (202,202),
 (203,203),
 (204,204),
 (205,cI),
 (206,206),
 (207,207),
 (209,209),
 (210,210),
 (211,211),
 (212,212),
 (213,213),
 (214,214),
 (215,215),
 (216,216),
 (217,217),
 (218,218),
 (219,219),
 (220,220),
 (221,221),
 (222,222),
 (223,223),
 (224,224),
 (225,225),
 (226,226),
 (228,228),
 (229,229),
 (230,230),
 (231,231),
 (253,140),
 (254,99),
 (255,139),
 (256,167),
 (257,139),
 (258,167),
 (259,41),
 (260,71),
 (261,79),
 (262,71),
 (263,71),
 (264,71),
 (265,71),
 (266,71),
 (267,71),
 (268,99),
 (269,139),
 (270,198),
 (271,198)]
def ayV:List (Nat×Shape):=[(3,⟨F9,[]⟩),
 (4,⟨RH,[]⟩),
 (5,⟨xd,[]⟩),
 (6,⟨[],[]⟩),
 (7,⟨xd,[]⟩),
 (8,⟨F9,[]⟩),
 (9,⟨Ga,xc⟩),
 (10,⟨lh,xc⟩),
 (11,⟨xd,[]⟩),
 (12,⟨xd,[]⟩),
 (13,⟨KW,[]⟩),
 (14,⟨KW,[]⟩),
 (15,⟨CR,[]⟩),
 (16,⟨YQ,[]⟩),
 (17,⟨dh,[]⟩),
 (18,⟨xd,[]⟩),
 (19,⟨[(0,sR),(1,ju)],[]⟩),
 (20,⟨[(0,YB),(1,aa)],[]⟩),
 (21,⟨KX,xc⟩),
 (22,⟨Ga,xc⟩),
 (23,⟨Ga,xc⟩),
 (24,⟨KX,xc⟩),
 (25,⟨Ga,xc⟩),
 (26,⟨xd,[]⟩),
 (27,⟨KW,[]⟩),
 (28,⟨KW,[]⟩),
 (29,⟨[(0,cW),(1,.fn 30 [] [])],cz⟩),
 (30,⟨[(0,.agg [.int .i64,.int .i64,.int .i64]),(1,.agg [.int .i64,.int .i64,.int .i64])],[]⟩),
 (31,⟨CR,[]⟩),
 (32,⟨CR,[]⟩),
 (33,⟨od,[]⟩),
 (34,⟨lh,KR⟩),
 (35,⟨lh,KR⟩),
 (36,⟨lh,KR⟩),
 (37,⟨xd,[]⟩),
 (38,⟨od,[]⟩),
 (39,⟨[(0,ju),(1,aa)],[]⟩),
 (40,⟨[(0,YC)],[]⟩),
 (41,⟨[(0,Rr),(1,aa)],[jS]⟩),
 (42,⟨RI,[]⟩),
 (43,⟨[(0,dC),(1,aa)],[]⟩),
 (44,⟨dh,[]⟩),
 (45,⟨xd,[]⟩),
 (46,⟨[],[]⟩),
 (47,⟨[(0,CH),(1,aa),(2,aa)],[]⟩),
 (48,⟨CS,[]⟩),
 (49,⟨CS,[]⟩),
 (50,⟨[(0,aa),(1,dM),(2,.fn 80 [] [.az 0 0 0]),(3,.fn 52 [] [.az 1 0 0])],[Az,vq]⟩),
 (51,⟨KW,[]⟩),
 (52,⟨[(0,dM),(1,aJ)],[vq]⟩),
 (53,⟨dh,[]⟩),
 (54,⟨[(0,cW),(1,aa),(2,aa),(3,aa),(4,.fn 30 [] [])],cz⟩),
 (55,⟨xe,[]⟩),
 (56,⟨F9,[]⟩),
 (57,⟨CS,[]⟩),
 (58,⟨od,[]⟩),
 (59,⟨CR,[]⟩),
 (60,⟨[(0,aJ),(1,sR)],KR⟩),
 (61,⟨od,[]⟩),
 (62,⟨CR,[]⟩),
 (63,⟨od,[]⟩),
 (64,⟨od,[]⟩),
 (65,⟨xd,[]⟩),
 (66,⟨xd,[]⟩),
 (67,⟨[(0,YC),(1,dF),(2,dC)],[]⟩),
 (68,⟨RI,[]⟩),
 (69,⟨RI,[]⟩),
 (70,⟨RI,[]⟩),
 (71,⟨[(0,dC),(1,.fn 72 [] [.az 0 0 0,.az 1 0 0,.az 2 0 0])],w8⟩),
 (72,⟨RJ,w8⟩),
 (73,⟨[(0,aJ),(1,YB)],[.var 125 [.one (.nilS 22),ahO,aa]]⟩),
 (74,⟨lh,[.var 125 [rN,.one (.whole 182 2),aa],mN,yO]⟩),
 (75,⟨[],[]⟩),
 (76,⟨[(0,.agg [.str,.bool,.int .i64,.int .i64,.str,.str])],[]⟩),
 (77,⟨[(0,CH),(1,aa)],[]⟩),
 (78,⟨[(0,da),(1,dg),(2,KL),(3,aa)],[]⟩),
 (79,⟨[(0,aJ),(1,dM)],[.var 147 [.one (.whole 39 1),.one (.ff 145)],jS]⟩),
 (80,⟨[(0,dM),(1,aa),(2,aJ)],[Az]⟩),
 (81,⟨[(0,dC),(1,dM)],[]⟩),
 (82,⟨[(0,cW),(1,aa),(2,aa),(3,.fn 30 [] [])],cz⟩),
 (83,⟨[(0,cW),(1,aa),(2,aa),(3,.fn 30 [] [])],cz⟩),
 (84,⟨[(0,cW),(1,aa),(2,aa),(3,.fn 30 [] [])],cz⟩),
 (85,⟨[(0,vm),(1,aa),(2,aa),(3,.fn 30 [] [])],[]⟩),
 (86,⟨[(0,cW),(1,aa),(2,aa),(3,.fn 30 [] [])],cz⟩),
 (87,⟨[(0,cW),(1,aa),(2,aa),(3,.fn 30 [] [])],cz⟩),
 (88,⟨[(0,cW),(1,aa),(2,aa),(3,aa),(4,.fn 30 [] [])],cz⟩),
 (89,⟨[(0,cW),(1,aa),(2,aa),(3,aa),(4,.fn 30 [] [])],cz⟩),
 (91,⟨xe,[]⟩),
 (92,⟨dh,[]⟩),
 (93,⟨[(0,sR),(1,aa),(2,aJ)],e9⟩),
 (94,⟨YQ,[]⟩),
 (95,⟨RK,[]⟩),
 (96,⟨RL,[]⟩),
 (97,⟨[(0,aJ),(1,sR)],KS⟩),
 (98,⟨lh,KS⟩),
 (99,⟨[(0,dF),(1,.fn 141 [] [])],[]⟩),
 (100,⟨[(0,aa),(1,aa),(2,.fn 101 [] [.az 0 0 0]),(3,.fn 102 [] [.az 0 0 0])],yP⟩),
 (101,⟨[(0,aa),(1,aa),(2,aJ)],yP⟩),
 (102,⟨YR,yP⟩),
 (103,⟨YS,RF⟩),
 (104,⟨[(0,Rr),(1,dC),(2,aa)],[jS]⟩),
 (105,⟨od,[]⟩),
 (106,⟨[(0,aa),(1,aJ),(2,bZ),(3,cU),(4,nB)],AF⟩),
 (107,⟨RJ,[FY,.var 82 [YA],CI,jS,iZ]⟩),
 (108,⟨YR,e9⟩),
 (109,⟨YS,RF⟩),
 (110,⟨RJ,w9⟩),
 (111,⟨RJ,AE⟩),
 (112,⟨xe,[]⟩),
 (113,⟨[(0,da),(1,aj)],[]⟩),
 (115,⟨RH,[]⟩),
 (116,⟨[(0,.agg [.int .i64,.list 4,.int .i64]),(1,dg)],[]⟩),
 (117,⟨[(0,ju)],[]⟩),
 (118,⟨[(0,CH)],[]⟩),
 (119,⟨[(0,da),(1,dg),(2,KL)],[]⟩),
 (120,⟨lh,KT⟩),
 (121,⟨KX,KT⟩),
 (122,⟨lh,KT⟩),
 (123,⟨[(0,dC)],[]⟩),
 (124,⟨xe,[]⟩),
 (125,⟨dh,[]⟩),
 (126,⟨[(0,cW),(1,aa),(2,aa),(3,aa),(4,.fn 30 [] [])],cz⟩),
 (127,⟨dh,[]⟩),
 (128,⟨lh,[Rs]⟩),
 (129,⟨[(0,vm),(1,aa),(2,aJ),(3,.fn 30 [] [])],e9⟩),
 (130,⟨[(0,vm),(1,aa),(2,aa),(3,aa),(4,aJ),(5,.fn 30 [] [])],e9⟩),
 (131,⟨[(0,dF)],[]⟩),
 (132,⟨[(0,dF)],[]⟩),
 (133,⟨[(0,dF)],[]⟩),
 (134,⟨[],[]⟩),
 (135,⟨RL,[]⟩),
 (136,⟨RL,[]⟩),
 (137,⟨[(0,aJ),(1,FW)],KS⟩),
 (138,⟨[(0,aJ),(1,dF),(2,ju),(3,aa)],KS⟩),
 (139,⟨[(0,dF),(1,.fn 141 [] [])],[]⟩),
 (140,⟨KX,[.var 218 [rO,.one (.ff 216)],aX]⟩),
 (141,⟨od,[]⟩),
 (142,⟨[(0,da),(1,aj)],[]⟩),
 (143,⟨lh,rQ⟩),
 (144,⟨lh,rQ⟩),
 (145,⟨RH,[]⟩),
 (146,⟨lh,pG⟩),
 (147,⟨[(0,aJ),(1,FW)],pG⟩),
 (148,⟨[(0,KL)],[]⟩),
 (149,⟨[(0,CH)],[]⟩),
 (150,⟨[(0,CH)],[]⟩),
 (151,⟨[(0,dg),(1,dg)],[]⟩),
 (152,⟨[(0,KE),(1,KE)],[]⟩),
 (153,⟨[(0,vk),(1,vk)],[]⟩),
 (154,⟨CT,[]⟩),
 (155,⟨[(0,da),(1,dg)],[]⟩),
 (156,⟨CT,[]⟩),
 (157,⟨[(0,vn)],[]⟩),
 (158,⟨[(0,sU)],[]⟩),
 (159,⟨[(0,da),(1,dg),(2,KL)],[]⟩),
 (160,⟨[(0,da),(1,aa),(2,Rp)],[]⟩),
 (161,⟨[(0,da),(1,.fn 162 [] [])],[]⟩),
 (162,⟨F9,[]⟩),
 (163,⟨[(0,aJ),(1,tY),(2,rO)],[rP,aX]⟩),
 (164,⟨lh,KT⟩),
 (165,⟨[(0,vm),(1,aa),(2,aa),(3,aJ),(4,.fn 30 [] [])],e9⟩),
 (166,⟨[],[]⟩),
 (167,⟨[(0,cg),(1,.fn 105 [] [])],bD⟩),
 (168,⟨YQ,[]⟩),
 (169,⟨[(0,aa),(1,dF),(2,sR)],[]⟩),
 (170,⟨CU,bD⟩),
 (171,⟨[],[]⟩),
 (172,⟨od,[]⟩),
 (173,⟨RL,[]⟩),
 (175,⟨[(0,aJ),(1,ju)],KS⟩),
 (176,⟨dh,[]⟩),
 (177,⟨F9,[]⟩),
 (178,⟨[(0,aJ),(1,dg),(2,aa),(3,aa),(4,ju),(5,aa)],rQ⟩),
 (179,⟨dh,[]⟩),
 (180,⟨F9,[]⟩),
 (181,⟨[(0,dg),(1,dg)],[]⟩),
 (182,⟨Ga,rQ⟩),
 (183,⟨Ga,rQ⟩),
 (184,⟨lh,pG⟩),
 (185,⟨[(0,FW)],[]⟩),
 (186,⟨lh,pG⟩),
 (187,⟨lh,pG⟩),
 (188,⟨[(0,sU)],[]⟩),
 (189,⟨RH,[]⟩),
 (191,⟨CT,[]⟩),
 (192,⟨[(0,da),(1,dg)],[]⟩),
 (193,⟨CT,[]⟩),
 (194,⟨CT,[]⟩),
 (195,⟨[(0,dg),(1,.fn 197 [] [.az 0 0 0])],xb⟩),
 (196,⟨CT,[]⟩),
 (197,⟨YR,xb⟩),
 (200,⟨[(0,sU),(1,sU),(2,aJ),(3,bZ)],KQ⟩),
 (201,⟨[(0,vn)],[]⟩),
 (202,⟨[(0,da),(1,aa),(2,aa)],[]⟩),
 (203,⟨[(0,da),(1,.fn 162 [] [])],[]⟩),
 (204,⟨[(0,cg),(1,.fn cI [] [])],bD⟩),
 (205,⟨[(0,sR),(1,sR)],[]⟩),
 (206,⟨[(0,cg),(1,.fn 207 [] [])],bD⟩),
 (207,⟨[(0,sR),(1,sR)],[]⟩),
 (209,⟨[(0,ju),(1,FW)],[]⟩),
 (210,⟨lh,pG⟩),
 (211,⟨lh,pG⟩),
 (212,⟨[(0,sU),(1,aa)],[]⟩),
 (213,⟨YS,[.var 23 [ahR],.var 22 [mM],bV,YI]⟩),
 (214,⟨[(0,sU),(1,sU),(2,aJ)],e9⟩),
 (215,⟨[(0,cg),(1,aa),(2,aa),(3,aa),(4,.fn cI [] [])],bD⟩),
 (216,⟨[(0,dF),(1,dF),(2,.fn cI [] [])],[]⟩),
 (217,⟨[(0,ju),(1,FW)],[]⟩),
 (218,⟨[(0,sU)],[]⟩),
 (219,⟨[(0,cg),(1,aa),(2,aa),(3,.fn cI [] [])],bD⟩),
 (220,⟨[(0,cg),(1,aa),(2,aa),(3,.fn cI [] [])],bD⟩),
 (221,⟨[(0,cg),(1,aa),(2,aa),(3,.fn cI [] [])],bD⟩),
 (222,⟨[(0,dF),(1,aa),(2,aa),(3,.fn cI [] [])],[]⟩),
 (223,⟨[(0,cg),(1,aa),(2,aa),(3,.fn cI [] [])],bD⟩),
 (224,⟨[(0,cg),(1,aa),(2,aa),(3,.fn cI [] [])],bD⟩),
 (225,⟨[(0,cg),(1,aa),(2,aa),(3,aa),(4,.fn cI [] [])],bD⟩),
 (226,⟨[(0,cg),(1,aa),(2,aa),(3,aa),(4,.fn cI [] [])],bD⟩),
 (228,⟨[(0,cg),(1,aa),(2,aa),(3,aa),(4,.fn cI [] [])],bD⟩),
 (229,⟨[(0,dF),(1,aa),(2,aJ),(3,.fn cI [] [])],e9⟩),
 (230,⟨[(0,dF),(1,aa),(2,aa),(3,aa),(4,aJ),(5,.fn cI [] [])],e9⟩),
 (231,⟨[(0,dF),(1,aa),(2,aa),(3,aJ),(4,.fn cI [] [])],e9⟩),
 (253,⟨KX,[.var 218 [rO,.one (.cK 216 2)],aX,.map 216]⟩),
 (254,⟨[(0,dF),(1,.fn 105 [] [])],[]⟩),
 (255,⟨[(0,dF),(1,.fn 105 [] [])],[]⟩),
 (256,⟨[(0,cg),(1,.fn 172 [] [])],bD⟩),
 (257,⟨[(0,dF),(1,.fn 172 [] [])],[]⟩),
 (258,⟨[(0,cg),(1,.fn 141 [] [])],bD⟩),
 (259,⟨[(0,.one (.row 39 0 [0])),(1,aa)],[iZ]⟩),
 (260,⟨[(0,dC),(1,.fn 108 [] [.az 0 0 0])],e9⟩),
 (261,⟨[(0,aJ),(1,dM)],[.var 147 [.one (.whole 39 1),.one (.cK 145 2)],jS,.map 145]⟩),
 (262,⟨[(0,dC),(1,.fn 111 [] [.az 0 0 0,.az 1 0 0,.az 2 0 0])],AE⟩),
 (263,⟨[(0,dC),(1,.fn 110 [] [.az 0 0 0,.az 1 0 0,.az 2 0 0])],w9⟩),
 (264,⟨[(0,dC),(1,.fn 109 [] [.az 0 0 0,.az 1 0 0])],RF⟩),
 (265,⟨[(0,dC),(1,.fn 103 [] [.az 0 0 0,.az 1 0 0])],RF⟩),
 (266,⟨[(0,dC),(1,.fn 106 [] [.az 0 0 0,.az 1 0 0,.az 2 0 0,.az 3 0 0])],AF⟩),
 (267,⟨[(0,dC),(1,.fn 107 [] [.az 0 0 0,.az 1 0 0,.az 2 0 0])],[FY,.var 82 [YA],CI,jS,iZ]⟩),
 (268,⟨[(0,dF),(1,.fn 64 [] [])],[]⟩),
 (269,⟨[(0,dF),(1,.fn 64 [] [])],[]⟩),
 (270,⟨[(0,sU),(1,sU),(2,.fn 200 [] [.az 0 0 0,.az 1 0 0])],KQ⟩),
 (271,⟨[(0,sU),(1,sU),(2,.fn 214 [] [.az 0 0 0])],e9⟩)]
def ayW:List (Nat×Shape):=[(3,⟨dU,[]⟩),
 (4,⟨[(0,CG)],[bV,mN]⟩),
 (5,⟨RM,KU⟩),
 (6,⟨dU,[]⟩),
 (7,⟨[(0,dg),(1,aj)],[]⟩),
 (8,⟨lh,xc⟩),
 (9,⟨KY,KV⟩),
 (10,⟨dh,xc⟩),
 (11,⟨RM,KU⟩),
 (12,⟨[(0,ah1),(1,aa)],cz⟩),
 (13,⟨RM,KU⟩),
 (14,⟨[(0,ah1)],cz⟩),
 (15,⟨RM,KU⟩),
 (16,⟨od,[]⟩),
 (17,⟨RN,bD⟩),
 (18,⟨[(0,CG)],KU⟩),
 (19,⟨dU,[]⟩),
 (20,⟨[(0,nA),(1,aa)],lg⟩),
 (21,⟨dh,xc⟩),
 (22,⟨KY,KV⟩),
 (23,⟨KY,KV⟩),
 (24,⟨KY,KV⟩),
 (25,⟨KY,KV⟩),
 (26,⟨dh,[]⟩),
 (27,⟨[(0,CG),(1,Rn),(2,aa)],[bV,bw,jS]⟩),
 (28,⟨dh,[]⟩),
 (29,⟨[],cz⟩),
 (30,⟨dh,[]⟩),
 (31,⟨dh,[]⟩),
 (32,⟨lh,KR⟩),
 (33,⟨od,[]⟩),
 (34,⟨dU,Rx⟩),
 (35,⟨dh,Rx⟩),
 (36,⟨[(0,.agg [.int .i64,.int .i64,.whole 4 4,.whole 22 5])],[.var 114 [aa,CF,FQ,aa,CD],.dead,.dead,.map 110,bV,bw,dO]⟩),
 (37,⟨[(0,CG),(1,CE)],[bV,bw,aX]⟩),
 (38,⟨dU,[]⟩),
 (39,⟨dU,[]⟩),
 (40,⟨[(0,Rr)],[jS]⟩),
 (41,⟨[],[jS]⟩),
 (42,⟨KZ,[iZ]⟩),
 (43,⟨dU,[]⟩),
 (44,⟨dU,[]⟩),
 (45,⟨[(0,CH),(1,aa)],[]⟩),
 (46,⟨[(0,ahV)],[YJ]⟩),
 (47,⟨[(0,aj),(1,aa),(2,nA),(3,aa),(4,aa)],lg⟩),
 (48,⟨dh,[]⟩),
 (49,⟨[(0,Yu)],[jR]⟩),
 (50,⟨[(0,.agg [.int .i64,.int .i64,.whole 4 2,.whole 22 3]),(1,Ym),(2,aa)],[Az,vq,bV,bw,jS]⟩),
 (51,⟨[(0,.fn 80 [] [.az 0 0 0])],[Az]⟩),
 (52,⟨dU,[vq]⟩),
 (53,⟨xe,[]⟩),
 (54,⟨[],cz⟩),
 (55,⟨dh,[]⟩),
 (56,⟨dh,[]⟩),
 (57,⟨dh,[]⟩),
 (58,⟨dU,[]⟩),
 (59,⟨dU,[]⟩),
 (60,⟨dh,Rx⟩),
 (61,⟨od,[]⟩),
 (62,⟨CR,[]⟩),
 (63,⟨[(0,ju)],[]⟩),
 (64,⟨dU,[]⟩),
 (65,⟨[(0,CG),(1,CE)],[bV,bw,aX]⟩),
 (66,⟨Gb,lg⟩),
 (67,⟨KZ,[iZ]⟩),
 (68,⟨KZ,[iZ]⟩),
 (69,⟨KZ,[iZ]⟩),
 (70,⟨KZ,[iZ]⟩),
 (71,⟨[],w8⟩),
 (72,⟨[],w8⟩),
 (73,⟨dh,[.var 125 [rN,.one (.whole 182 2),aa],mN,yO]⟩),
 (74,⟨[(0,CH),(1,.one (.list 23)),(2,aa)],[.var 125 [rN,.one (.whole 182 3),aa],CL,.dead,yO]⟩),
 (75,⟨[(0,ahZ)],[KP]⟩),
 (76,⟨[(0,.agg [.str,.bool,.whole 142 0,.int .i64,.int .i64])],[CM]⟩),
 (77,⟨[(0,nA),(1,aa)],lg⟩),
 (78,⟨[(0,nA),(1,aa),(2,aa)],lg⟩),
 (79,⟨dh,[.var 147 [Rn,.one (.cK 145 3)],.dead,jS,.map 145]⟩),
 (80,⟨xe,[Az]⟩),
 (81,⟨xe,[]⟩),
 (82,⟨[],cz⟩),
 (83,⟨[],cz⟩),
 (84,⟨[],cz⟩),
 (85,⟨CS,[]⟩),
 (86,⟨[],cz⟩),
 (87,⟨dU,cz⟩),
 (88,⟨dh,cz⟩),
 (89,⟨YT,cz⟩),
 (91,⟨dh,[]⟩),
 (92,⟨dU,[]⟩),
 (93,⟨dU,e9⟩),
 (94,⟨od,[]⟩),
 (95,⟨CR,[]⟩),
 (96,⟨RK,[]⟩),
 (97,⟨[],vr⟩),
 (98,⟨[(0,ju)],[.var 170 [CA,CA],.dead]⟩),
 (99,⟨dU,[]⟩),
 (100,⟨[(0,ah0),(1,mM),(2,aa)],[oc,bV,bw,aX]⟩),
 (101,⟨dh,yP⟩),
 (102,⟨dU,yP⟩),
 (103,⟨[],ua⟩),
 (104,⟨[],[jS]⟩),
 (105,⟨dU,[]⟩),
 (106,⟨[],AF⟩),
 (107,⟨[],F7⟩),
 (108,⟨[],e9⟩),
 (109,⟨[],ua⟩),
 (110,⟨[],w9⟩),
 (111,⟨[],AE⟩),
 (112,⟨dh,[]⟩),
 (113,⟨[(0,.agg [.int .i64,.bool,.whole 22 0,.whole 22 1,.whole 3 2,.whole 3 3,.whole 22 4,.whole 265 5,.int .i64]),(1,aa)],[bw,bw,aX,aX,bw,qn]⟩),
 (115,⟨dU,[]⟩),
 (116,⟨dU,[]⟩),
 (117,⟨[(0,KL),(1,aa),(2,aa)],[]⟩),
 (118,⟨dh,[]⟩),
 (119,⟨[(0,aJ),(1,.one (.DF .i64 0))],KT⟩),
 (120,⟨dU,CP⟩),
 (121,⟨[(0,aa),(1,aj),(2,aj)],CP⟩),
 (122,⟨[(0,mM)],CO⟩),
 (123,⟨dU,[]⟩),
 (124,⟨Gb,lg⟩),
 (125,⟨xe,[]⟩),
 (126,⟨[],cz⟩),
 (127,⟨xe,[]⟩),
 (128,⟨xe,[Rs]⟩),
 (129,⟨dh,e9⟩),
 (130,⟨dh,e9⟩),
 (131,⟨od,[]⟩),
 (132,⟨od,[]⟩),
 (133,⟨od,[]⟩),
 (134,⟨RN,bD⟩),
 (135,⟨RK,[]⟩),
 (136,⟨RK,[]⟩),
 (137,⟨[(0,CA)],vr⟩),
 (138,⟨[],vr⟩),
 (139,⟨dh,[]⟩),
 (140,⟨dh,[.var 218 [CE,.one (.cK 216 3)],.dead,aX,.map 216]⟩),
 (141,⟨dU,[]⟩),
 (142,⟨[(0,aJ),(1,.one (.DF .i64 0))],rQ⟩),
 (143,⟨dU,YN⟩),
 (144,⟨dh,YN⟩),
 (145,⟨dh,[]⟩),
 (146,⟨YU,pG⟩),
 (147,⟨dU,pG⟩),
 (148,⟨dh,[]⟩),
 (149,⟨dU,[]⟩),
 (150,⟨[(0,CG)],[bV,mN]⟩),
 (151,⟨dU,[]⟩),
 (152,⟨dU,[]⟩),
 (153,⟨dU,[]⟩),
 (154,⟨dh,[]⟩),
 (155,⟨dU,[]⟩),
 (156,⟨dh,[]⟩),
 (157,⟨dU,[]⟩),
 (158,⟨[(0,.one (.whole 278 0))],[YK]⟩),
 (159,⟨CT,[]⟩),
 (160,⟨lh,[rP]⟩),
 (161,⟨dU,[]⟩),
 (162,⟨dU,[]⟩),
 (163,⟨dh,[rP,aX]⟩),
 (164,⟨dU,CP⟩),
 (165,⟨CS,e9⟩),
 (166,⟨RN,bD⟩),
 (167,⟨K0,F6⟩),
 (168,⟨CU,bD⟩),
 (169,⟨od,[]⟩),
 (170,⟨K0,F6⟩),
 (171,⟨RN,bD⟩),
 (172,⟨dU,[]⟩),
 (173,⟨od,[]⟩),
 (175,⟨[(0,aa),(1,CA)],vr⟩),
 (176,⟨dh,[]⟩),
 (177,⟨dU,[]⟩),
 (178,⟨dh,YP⟩),
 (179,⟨Gb,lg⟩),
 (180,⟨[(0,ju)],[]⟩),
 (181,⟨Gb,lg⟩),
 (182,⟨dh,YP⟩),
 (183,⟨dU,YP⟩),
 (184,⟨[],pG⟩),
 (185,⟨dU,[]⟩),
 (186,⟨[(0,FW)],pG⟩),
 (187,⟨YU,pG⟩),
 (188,⟨dh,[]⟩),
 (189,⟨dU,[]⟩),
 (191,⟨dh,[]⟩),
 (192,⟨dU,[]⟩),
 (193,⟨Gb,lg⟩),
 (194,⟨dU,[]⟩),
 (195,⟨dh,xb⟩),
 (196,⟨Gb,lg⟩),
 (197,⟨dU,xb⟩),
 (200,⟨[],KQ⟩),
 (201,⟨dh,[]⟩),
 (202,⟨dh,[]⟩),
 (203,⟨dh,[]⟩),
 (204,⟨[],bD⟩),
 (205,⟨dh,[]⟩),
 (206,⟨K0,F6⟩),
 (207,⟨dU,[]⟩),
 (209,⟨dh,[]⟩),
 (210,⟨YU,pG⟩),
 (211,⟨YT,pG⟩),
 (212,⟨dh,[]⟩),
 (213,⟨[],[.var 23 [ahD],.var 22 [KK],.dead,.dead,bV,YI]⟩),
 (214,⟨[],e9⟩),
 (215,⟨[],bD⟩),
 (216,⟨dh,[]⟩),
 (217,⟨dh,[]⟩),
 (218,⟨dU,[]⟩),
 (219,⟨[],bD⟩),
 (220,⟨[],bD⟩),
 (221,⟨[],bD⟩),
 (222,⟨CS,[]⟩),
 (223,⟨[],bD⟩),
 (224,⟨dU,bD⟩),
 (225,⟨dh,bD⟩),
 (226,⟨YT,bD⟩),
 (228,⟨[],bD⟩),
 (229,⟨dh,e9⟩),
 (230,⟨dh,e9⟩),
 (231,⟨CS,e9⟩),
 (253,⟨dh,[.var 218 [mM,.one (.cK 216 2)],.dead,.map 216,aX]⟩),
 (254,⟨dU,[]⟩),
 (255,⟨dh,[]⟩),
 (256,⟨K0,F6⟩),
 (257,⟨dh,[]⟩),
 (258,⟨K0,F6⟩),
 (259,⟨[],[iZ]⟩),
 (260,⟨[],e9⟩),
 (261,⟨dh,[.var 147 [YA,.one (.cK 145 2)],.dead,.map 145,jS]⟩),
 (262,⟨[],AE⟩),
 (263,⟨[],w9⟩),
 (264,⟨[],ua⟩),
 (265,⟨[],ua⟩),
 (266,⟨[],AF⟩),
 (267,⟨[],F7⟩),
 (268,⟨dU,[]⟩),
 (269,⟨dh,[]⟩),
 (270,⟨[],KQ⟩),
 (271,⟨[],e9⟩)]
def ayX:List (Nat×Shape):=[(119,⟨[(0,.one (.eV)),(1,aa)],[]⟩),
 (142,⟨[(0,.one (.eV)),(1,aa)],[]⟩),
 (167,⟨CU,bD⟩),
 (170,⟨CU,bD⟩),
 (206,⟨CU,bD⟩),
 (256,⟨CU,bD⟩),
 (258,⟨CU,bD⟩)]
def ayY(n:Nat):List Nat:=(List.range (n.log2+1)).filter n.testBit
def aj7:Nat→List Nat→List (Nat×List Nat)
 |_,[]=>[]
 |i,n::l=>(i,ayY n)::aj7 (i+1) l
def Z7(l:List (Nat×List Nat)):List (Nat×List (Nat×List Nat)):=l.map fun e=>(e.1,aj7 0 e.2)
def ayZ:List (Nat×List (Nat×List Nat)):=Z7 [(3,[1,8,56,1048632,4,208,960,2199023255872,4,52776558133568,123145302311232,52776558134592,52776558136640,615726511557952,1741626418400576,1741626418400576,52776558136640,36644523530521920,36081573577100608,52776558136640,38685626227720910148731200,4,52776558133568,4]),
 (4,[19,50,16]),
 (5,[6,52,8244,12,100,4194404,12,12]),
 (6,[0,6,1]),
 (7,[2,48,131088,12,12]),
 (8,[1,33,1,4]),
 (9,[71,327,839,64,33095,64,4194375,64,64]),
 (10,[1,4]),
 (11,[6,22,278,12,12]),
 (12,[6,22,8214,12,524294,12,38,15032385574,32212254758,15032385766,4413078896870,15032385766,3940664706334822,8444264333705318,3940664706335590,3940664706334822,3940664706334822,15032385574,12]),
 (13,[6,84,16468,12,12]),
 (14,[6,262,4,14,7340044,15728652,7340076,7340044,7340044,12,4]),
 (15,[22,86,8278,48,144,4194448,400,67109264,48,48]),
 (16,[19,16]),
 (17,[5,4]),
 (18,[6,134,4,12,4]),
 (19,[6,16390,16,38,102,102,16]),
 (20,[6,70,524358,48,8388614,48,386,1073742210,48,642,25769804418,60129542786,25769805442,25769839234,25769804418,1125925676681858,25769804418,288230401921516162,25769804418,25769804418,48]),
 (21,[3,16387,16,3,16]),
 (22,[71,192,393408,917696,393664,235274688,503710144,235276224,235274688,235274688,393408,192,64]),
 (23,[71,199,451,451,963,134218691,963,963,1475,140737488356803,1475,3523,7619,4503599627378115,7619,7619,11715,2305843009213705667,11715,28099,28099,11715,64]),
 (24,[19,51,115,29360243,62914675,29360499,29360499,29361011,29362035,274907268979,29362035,29364083,29368179,562949982789491,7881299377266547,16888498632007539,7881299377291123,584342051680698227,7881299377266547,7881299377266547,29368179,29362035,29360243,29360243,16]),
 (25,[71,199,451,451,963,16778179,963,963,1987,4035,137438957507,4035,4035,963,64]),
 (26,[2,32770,4,10,1048586,4,68719476746,4,1924145348618,4123168604170,1924145348650,283399122059306,4,3942573819297802,8446173446668298,3942573819297930,2309785583032991754,4,3942573819297802,1924145348618,4]),
 (27,[6,38,550,28,28]),
 (28,[2,4194306,4,4294967298,4,120259084290,257698037762,120259084314,36893488267678187546,4,309485009821345188983865346,4,120259084290,4]),
 (29,[19,0]),
 (30,[12,16]),
 (31,[6,1030,16,8198,16,131072,16,16]),
 (32,[6,38,36,32,16]),
 (33,[6,38,4,4]),
 (34,[1,4]),
 (35,[1,9,196617,458761,196633,196729,274878103673,4,197049,2251799813882041,288230376151908409,4,196761,196617,196617,1,0,4]),
 (36,[5,13,14680076,31457292,14680108,14680076,14680076,4]),
 (37,[6,54,118,246,1879048438,4026532086,1879049206,551634862582,1879049718,985164297537014,2111064204379638,985164297543158,985164297537014,985164297537014,1879049462,1879048438,1879048438,24676,57444,1083197534374707740536791108,2321137573660088015435915332,1083197534374707740536987716,1083197534374707740536987716,317995847591432058114712789060,1083197534374707740536791108,1083197534374707740536791108,12]),
 (38,[2,4]),
 (39,[3,65539,16,786435,1835011,786467,17180655619,16,786435,16]),
 (40,[2,4]),
 (41,[0]),
 (42,[28,540,1564,64,131612,64,67109404,67109404,64,8589934620,64,156,128,64]),
 (43,[3,16]),
 (44,[1,4]),
 (46,[0,2,114,242,122,114,114,1]),
 (47,[14,6158,67115022,1984,8589936654,1984,10254,3848290707468,8246337218572,3848290756620,285323267467276,1984,3848291182604,3848291051532,18446747922000603148,1984,92233724216838809612,1984,2361183245283113576460,3848290707468,1984]),
 (48,[3,67,16,3,2051,1,16]),
 (49,[3,35,99,4195,99,227,67109091,227,227,16]),
 (50,[271,2319,2317,6413,14605,33569037,14605,30989,63757,206158493965,481036400909,206158559501,206158493965,206158493965,4503599627434253,1792,30989,14605,1792]),
 (51,[2,10,6154,14346,6170,6154,6154,58720264,125829128,58720328,58720264,58720264,4]),
 (52,[3,8]),
 (53,[1,4]),
 (54,[1055,3103,7199,33561631,0,4294974495,0,549755821087,7199,7199,31775,72057594037959711,15391,15391,31775,37778931862957161724959,1208925819614629174721567,158456325028528675187087916063,35869,3103,200735,71711,858143,1902623,42535295865117307932921825928972929055,68639,68637,3103,68639,68635,3103]),
 (55,[1,4,4]),
 (56,[1,9,456,968,488,16872,4,456,4]),
 (57,[3,35,99,2115,4096,16,16,8195,16,65539,16,524288,16,16]),
 (58,[2,10,4]),
 (59,[6,518,16,134217734,16,536870918,16,1610612742,1610612742,16,137975824390,137975824390,137975824390,17592186044422,16,35184908959750,35184372088838,2251799813685254,16,63050394783186946,135107988821114882,63050394783187010,4674736413210574850,16,63050394783186946,16]),
 (60,[9,41,41,32,16]),
 (61,[6,518,4,14,7340046,15728654,7340094,7340046,7340046,4]),
 (62,[22,48]),
 (63,[2,66,4,10,8,4]),
 (64,[2,66,194,194,4,1090,4,32834,32834,3670016,7864320,3670032,137887744,4,3670016,4,536870914,4,4]),
 (65,[6,8198,12,54,180,6442451124,15032385716,6442451380,6442451124,6442451124,3848290697364,8246337208468,3848290698900,3848290697364,3848290697364,12]),
 (66,[2,262146,4,26,117440538,251658266,117440634,68836917306,117440538,117440538,154,410,492581209244058,1055531162665370,492581209245594,492581209247642,2018105214271228826,4323948223484922778,2018105214271241114,2018105214271228826,2018105214271228826,492581209295770,1208925820107210383969178,492581209263002,492581209260954,492581209244058,492581209244058,19807040628566084398385987970,4,26]),
 (67,[14,142,7340172,15728780,7340684,7341708,7341708,7342732,7346316,7340172,7340172,64]),
 (68,[28,412,408,920,268436376,920,920,1288,3336,7432,281474976718088,7432,15624,15624,15624,7432,64]),
 (69,[28,156,7340188,15728796,7340700,7341212,7340188,7340188,64]),
 (70,[28,140,396,128,64]),
 (71,[450,962,498,16882,498,498,450]),
 (72,[15,1039,0,1048581,0]),
 (74,[5,101,134217829,28,165,17179869349,28,421,933,36028797018964901,933,933,933,541598767187353870268367269,1160568786830044007717929381,541598767187353870268370341,541598767187353870268368293,541598767187353870268368293,541598767187353870268368293,541598767187353870268372389,664613998434056703639257400408544677,541598767187353870268372389,541598767187353870268372389,541598767187353870268367269,8613,40922045845265281709703175316055924550366111211940,87690098239854175092221089962976981179355952587172,40922045845265281709703175316055924550366111261092,40922045845265281709703175316055924550366111261092,335274321610258453047598115364446189841149549088924068,718398206826730667637184872152023485745834329634824612,335274321610258453047598115364446189841149549089120676,335274321610258453047598115364446189841149549088924068,335274321610258453047598115364446189841149549088924068,40922045845265281709703175316055924550366111211940,28]),
 (75,[0,1]),
 (76,[6,14,12582924,29360140,12582956,12583244,8602517580,12582924,12582924,4]),
 (77,[6,70,16454,48,134,16777350,48,390,469762434,1006633346,469763970,1099981390722,469762434,469762434,48]),
 (78,[75,6152,16783368,1792,2147485704,1792,8589936648,1792,59392,2199023298560,1792,70368744185856,1792,1792]),
 (79,[3,99,131107,4194307,3,35,35,32,16]),
 (80,[7,32]),
 (81,[3,1027,16,35,458785,983073,458913,458785,458785,16]),
 (82,[271,16655,271,783,17179869967,783,783]),
 (83,[271,783,1801,3849,2101001,3849,3849,4873,8589939465,4873,4873,4873]),
 (84,[259,131331,771,1795,3843,34359742211,3843,7939,35184372096771,7939,3843]),
 (85,[15,1035,3083,7179,15371,31753,17179900937,68719507465,30729,30729,30729,10240,36028797018972160,768,180143985094828032,768,1152921504606855168,768]),
 (86,[261,769,33537,769,769,769]),
 (87,[15,527,1551,67087,1551,68719478287,1551,2199023257103,256,35184372090383,256,1551,36893488147419104783,3599,590295810358705655311,3599,19342813113834066795302415,3599,20282409603651670423947251287567,5647,649037107316853453566312041158159,5647,21267647932558653966460912964485518863,5647,256]),
 (88,[31,23,6163,140737488361491,6163,36893488147419109395,6163,1180591620717411309587,6163,6163,6163,1024]),
 (89,[31,23,12307,140737488367635,12307,73786976294838218771,12307,2361183241434822619155,8192,3072,12307,12307,12307,1329227995784915872903807060280356883,12307,696898287454081973172991196020261297074195,12307,22300745198530623141535718272648361505992723,12307,12307,12307,8192,3072]),
 (91,[5,21,1,5,261,5,5,16389,5,5,4]),
 (92,[1,4]),
 (93,[14,65550,64,14,58720262,125829126,58720518,17238589446,64,58720262,64]),
 (94,[19,83,211,16,2131,16,32787,16,2097171,16,49,67108912,201326640,137438953520,16,16,35184372088880,140737488355376,16,144115188075855920,16,16,16]),
 (95,[6,134,12,12]),
 (96,[28,124,4220,12412,16,266364,16777336,56,16,2147487804,2147487804,2147487804,16,274877911100,144,400,16,144115188075855932,16,16]),
 (97,[9,41,105,0,1065,0,16425,0,4194345,0,268435497,0,17179869225,0,1099511627817,9,0,281474976710665,1,0]),
 (98,[1,4]),
 (99,[3,16]),
 (100,[271,2319,2317,6413,14605,33569037,14605,30989,63757,206158493965,481036400909,206158559501,206158493965,206158493965,4503599627434253,1792,30989,14605,1792]),
 (101,[7,32]),
 (102,[3,8]),
 (103,[0]),
 (104,[67,4163,67,67]),
 (105,[2,4]),
 (106,[93,69,0]),
 (107,[4109,0]),
 (108,[0]),
 (109,[135,0]),
 (110,[3087,7183,3119,68655,3087,3087,3087]),
 (111,[47,111,8303,111,111,47,41,0]),
 (112,[1,17,4,4]),
 (113,[19,208,65744,48,2097232,336,33554768,48,48]),
 (115,[3,16]),
 (116,[6,16]),
 (117,[5,8197,28,37,229,67108965,28,485,4398046511460,28,516,1540,4503599627372036,28,28]),
 (118,[2,514,4,26,67108874,4,1879048202,4026531850,1879048298,4399925559306,4,1879048202,9444732965739290427392,4,4]),
 (119,[35,291,16675,192,524323,192,4194339,192,547,17179869731,192,1537,1024,1024,192]),
 (120,[1,4]),
 (121,[19,147,16531,147,7340179,15728787,7340947,7340179,7340179,2305843009213694099,112,36893488147419103379,112,112]),
 (122,[1,9,229385,491529,229433,229385,229385,4]),
 (123,[1,129,4,1793,3841,1809,526081,4,1793,4]),
 (124,[1,9,41,9,9,4]),
 (125,[1,4]),
 (126,[1053,3101,265245,1099511630877,3101,288230376151714845,2077,1053]),
 (127,[1,4]),
 (128,[1,1,1,1,4]),
 (129,[15,256]),
 (130,[63,63,55,4,4096]),
 (131,[5,37,4,12,4]),
 (132,[5,37,4,12,4]),
 (133,[5,37,4,12,4]),
 (134,[1,1]),
 (135,[28,124,252,14680316,31457532,14681084,14681596,14681340,4398061191420,14680316,14680316,2200,72057594037930136,216172782113786008,2064,4683743612465318040,2064,1180591620717411305616,2064,16]),
 (136,[28,60,124,252,7340276,15728884,7341044,275776500,7340276,7341428,7340276,7340276,2288,126100789566376144,270215977642232016,126100789566388432,9349472826421164240,126100789566376144,126100789566396624,126100789566376144,126100789566376144,16]),
 (137,[3,3,0,16]),
 (138,[7181,15373,7949,269837,7693,67116557,7181,7693,7181,7181,7181]),
 (139,[3,387,899,419,65955,16,387,16]),
 (140,[3,99,131107,4194307,3,35,35,32,16]),
 (141,[2,4]),
 (142,[3,4194307,48,67,67,3848290697282,8246337208386,3848290697538,144119036366553410,48,3848290697282,3848290697282,578,4722366482869645214272,576,270799383593676935134184000,580284393415022003858965056,270799383593676935134187072,270799383593676935134191168,270799383593676935134215744,81129909213990275372724139343424,270799383593676935134192192,270799383593676935134192192,270799383593676935134184000,270799383593676935134184000,48]),
 (143,[1,4]),
 (144,[1,9,25,939524121,2013265945,939524217,939524281,939525049,939526073,73786976295777732537,4,302231454903658233202105,939524409,158456325028528675188027426105,939524409,939524121,939524121,1,0,4]),
 (145,[3,387,899,419,65955,16,387,16]),
 (146,[5,21,21,65557,21,117,33554485,12,21,8589934612,12,12]),
 (147,[3,257,16,0,16]),
 (148,[2,10,266,4,4]),
 (149,[2,10,16777226,4,2251799813685258,4,63050394783186954,135107988821114890,63050394783186986,295210955574136012810,4,63050394783186954,4]),
 (150,[6,14,3670030,7864334,3670078,3670078,120262754366,257701707838,120262754558,120262754366,120262754366,3670030,4]),
 (151,[3,1027,16,12291,28675,12323,16789507,16,12291,16]),
 (152,[3,1027,16,12291,28675,12323,16789507,16,12291,16]),
 (153,[3,1027,16,12291,28675,12323,16789507,16,12291,16]),
 (154,[1,9,137,4,8192,4,4]),
 (155,[3,35,229411,491555,229603,4398046740643,16,229411,229411,985162418487331,2111062325329955,985162418487843,64035557201674787,136093151239602723,64035557201676835,590359845915907326499,16,64035557201674787,985162418487331,16]),
 (156,[2,34,4,4]),
 (157,[1,9,456,968,488,456,456,4]),
 (158,[2,130,386,4,4098,4,10,3670026,7864330,3670074,3670042,2151153674,3670026,3670026,549755813898,8,4]),
 (159,[35,419,931,931,419,1411,25769805187,60129543555,25769807235,987842481539,2087354109315,987842489731,4611687006269877635,987842481539,987842481539,25769805187,64]),
 (160,[7,133,1835137,3932289,1835649,119275649,253493377,119277697,8796212299905,119281793,844425049413761,1970324956256385,844425049421953,844425049413761,844425049413761,119275649,119275649,1835137,64]),
 (161,[3,16]),
 (162,[1,4]),
 (163,[7,135,391,14725,31109,15749,277893,802181,14725,14725,537148805,14725,14725,1099511905669,14725,14725,4611686018427403653,14725,14725,64]),
 (164,[1,9,2057,9,9,274877906953,4,9,4]),
 (165,[31,4194318,6,3072,3072]),
 (166,[1,1]),
 (167,[3,35,4131,16,99,524387,99,227,536871139,99,99,33,16]),
 (168,[3,35,1825,3873,1953,133025,1825,1825,1825,16]),
 (169,[99,355,867,64,4163,64,64]),
 (170,[1,1,4]),
 (171,[1,1]),
 (172,[2,4]),
 (173,[28,88,16,16]),
 (175,[3,3,2,48]),
 (176,[1,8,24,4,72,4,264,4,1032,4,4096,4,4]),
 (177,[1,4097,4,57345,122881,57361,67166209,4,57345,4]),
 (178,[63,8255,8255,8253,8249,8241,8225,8192,4096]),
 (179,[1,1025,4,8,49160,114696,49176,49160,49160,4]),
 (180,[1,9,3592,7688,3640,3592,3592,4]),
 (181,[3,4194307,16,35,469762082,1006632994,469762274,469762082,469762082,16]),
 (182,[7,263,64,64]),
 (183,[7,135,64]),
 (184,[9]),
 (185,[1,4]),
 (186,[1,4097,4,4]),
 (187,[5,53,16405,12,21,524309,21,213,268435541,12,21,12]),
 (188,[2,32,4,4]),
 (189,[3,898,1922,962,525186,16,898,16]),
 (191,[1,513,4,4097,4,57345,122881,57361,8445969,4,117497857,251715585,117497921,137556451329,4,117497857,57345,4]),
 (192,[3,35,458785,983073,458913,34013345,458913,3758555297,8053522593,3758555809,3758556833,246294363178657,527769339889313,246294363184801,1153167798970025633,16,246294363178657,3758555297,458785,16]),
 (194,[1,4]),
 (195,[3,387,899,419,65955,16,387,16]),
 (196,[1,8,1544,3592,1560,1544,1544,4]),
 (197,[3,195,451,211,536871107,8,195,8]),
 (198,[28,12,57356,122892,57484,57356,57356]),
 (200,[60,316,56,0]),
 (201,[1,9,456,968,488,456,456,4]),
 (202,[7,135,524423,135,391,536871303,897,35184372089729,897,64,54043195528446211,126100789566374147,54043195528446211,54043195528446211,64]),
 (203,[3,387,899,419,65955,16,387,16]),
 (204,[19,0]),
 (205,[12,524,16,524300,16,16]),
 (206,[3,1027,16,35,32803,35,268435491,99,227,34359738595,227,562949953421539,227,227,33,16,16]),
 (207,[12,16]),
 (209,[3,16]),
 (210,[5,21,2069,12,21,1048597,3145749,12,16777237,101,12,12]),
 (211,[1,65,12,16385,12,65537,12,34359738369,12,17,17,12]),
 (212,[6,16390,16,38,1835042,3932194,1835170,1835042,8591769634,1835042,16]),
 (214,[12,140,0]),
 (215,[1055,3103,7199,33561631,0,4294974495,0,549755821087,7199,7199,31775,72057594037959711,15391,15391,31775,37778931862957161724959,1208925819614629174721567,158456325028528675187087916063,35869,3103,200735,71711,858143,1902623,42535295865117307932921825928972929055,68639,68637,3103,68639,68635,3103]),
 (216,[7,14343,30727,14727,2111879,64,15111,15367,2147499015,64,14343,274877906944,64,64]),
 (217,[3,16]),
 (218,[2,18,50,4,65554,4,4294967314,4,8796093022210,4,4]),
 (219,[271,16655,271,783,17179869967,783,783]),
 (220,[271,783,1801,3849,2101001,3849,3849,4873,8589939465,4873,4873,4873]),
 (221,[259,131331,771,1795,3843,34359742211,3843,7939,35184372096771,7939,3843]),
 (222,[15,1035,3083,7179,15371,31753,17179900937,68719507465,30729,30729,30729,10240,36028797018972160,768,180143985094828032,768,1152921504606855168,768]),
 (223,[261,769,33537,769,769,769]),
 (224,[15,527,1551,67087,1551,68719478287,1551,2199023257103,256,35184372090383,256,1551,36893488147419104783,3599,590295810358705655311,3599,19342813113834066795302415,3599,20282409603651670423947251287567,5647,649037107316853453566312041158159,5647,21267647932558653966460912964485518863,5647,256]),
 (225,[31,23,6163,140737488361491,6163,36893488147419109395,6163,1180591620717411309587,6163,6163,6163,1024]),
 (226,[31,23,12307,140737488367635,12307,73786976294838218771,12307,2361183241434822619155,8192,3072,12307,12307,12307,1329227995784915872903807060280356883,12307,696898287454081973172991196020261297074195,12307,22300745198530623141535718272648361505992723,12307,12307,12307,8192,3072]),
 (228,[1053,3101,265245,1099511630877,3101,288230376151714845,2077,1053]),
 (229,[15,256]),
 (230,[63,63,55,4,4096]),
 (231,[31,4194318,6,3072,3072])]++[(45,[(0,[1,2]),(1,[1,2,4]),(2,[1,2,4,13]),(3,[2,3]),(4,[1,2,5,2000011]),(5,[2,5,6,2000011]),(6,[2,5,6,20,2000011]),(7,[2,3]),(8,[2,7,8,9]),(9,[2,7,8,9,29]),(10,[2,3]),(11,[2,7]),(12,[2,3])]),(73,[(0,[0,3,2000006]),(1,[0,3,5,2000006]),(2,[0,3,5,17,2000006]),(3,[4]),(4,[0,3,5,22,2000006]),(5,[0,3,5,2000006]),(6,[0,3,5,33,34,2000006]),(7,[0,3,5,33,34,35,2000006]),(8,[0,3,5,6,33,34,2000006]),(9,[0,3,5,6,33,34,37,38,2000006]),(10,[0,3,5,6,33,34,37,38,39,2000006]),(11,[0,3,5,6,7,33,34,37,38,2000006]),(12,[0,3,5,6,33,34,37,38,2000006]),(13,[0,3,5,6,33,34,37,38,2000006]),(14,[0,3,5,33,34,2000006]),(15,[0,5,2000006]),(16,[]),(17,[4])]),(193,[(0,[0]),(1,[0,3,4,1000007]),(2,[0,3,4,5,1000007]),(3,[0,3,4,5,6,1000007]),(4,[0,3,4,5,6,7,1000007]),(5,[0,3,4,5,6,7,17,18,1000007]),(6,[0,3,4,5,6,7,17,18,19,1000007]),(7,[0,3,4,5,6,7,8,17,18,1000007]),(8,[0,3,4,5,6,7,8,17,18,24,1000007]),(9,[0,3,4,5,6,7,8,17,18,1000007]),(10,[0,3,4,5,6,7,17,18,1000007]),(11,[0,3,4,5,6,7,17,18,35,1000007]),(12,[0,3,4,5,6,7,17,18,1000007]),(13,[0,3,4,5,6,7,9,17,18,1000007]),(14,[0,3,4,5,6,7,9,17,18,45,46,47,1000007]),(15,[0,3,4,5,6,7,9,17,18,45,46,47,48,1000007]),(16,[0,3,4,5,6,7,9,11,17,18,45,46,47,1000007]),(17,[0,3,4,5,6,7,9,11,17,18,45,46,47,1000007]),(18,[0,3,4,5,6,7,9,17,18,45,46,47,1000007]),(19,[0,3,4,5,6,7,9,17,18,45,46,47,1000007]),(20,[0,3,4,5,6,7,17,18,1000007]),(21,[2])]),(213,[(0,[0,1,2,8,3000010]),(1,[0,2,3000010]),(2,[3000010]),(9999,[3000010])])]
def ay0:List (Nat×List (Nat×List Nat)):=Z7 [(3,[0,0,0,0,0,0,0,0,0,0,0,0,0,0,0,0,0,0,0,0,24,0,0,0,0,0,0,0,0,0,0,0,0,0,0,0,0,0,0,0,0,320,0,0,0,0,52776558133568,0,0,0,1741626418400576,0,0,0,0,36081573577100608,0,0,0,0,0,0,0,0,0,0,0,0,0,0,0,0,0,0,0,0,0,0,0,0,0,0,0,0,0,52776558133568]),
 (4,[]),
 (5,[0,0,0,0,0,0,0,0,0,0,0,0,0,20,0,0,0,0,0,0,0,0,68]),
 (6,[]),
 (7,[0,0,0,0,0,0,0,0,0,0,0,0,0,0,0,0,0,16]),
 (8,[0,0,0,0,0,1]),
 (9,[0,0,0,0,0,0,0,0,0,71,0,0,0,0,0,71,0,0,0,0,0,0,71]),
 (10,[]),
 (11,[0,0,0,0,0,0,0,0,6]),
 (12,[0,0,0,0,0,0,0,0,0,0,0,0,0,6,0,0,0,0,0,6,0,0,0,0,0,0,0,0,0,0,0,0,0,0,15032385574,0,0,0,0,0,0,0,15032385766,0,0,0,0,0,0,0,0,0,3940664706334822]),
 (13,[0,0,0,0,0,0,0,0,0,0,0,0,0,0,20]),
 (14,[0,0,0,0,0,0,0,0,6,0,0,0,0,0,0,0,0,0,0,0,0,0,0,7340044]),
 (15,[0,0,0,0,0,0,0,0,0,0,0,0,0,22,0,0,0,0,0,0,0,0,144,0,0,0,144]),
 (16,[]),
 (17,[]),
 (18,[0,0,0,0,0,0,0,6]),
 (19,[0,0,0,0,0,0,0,0,0,0,0,0,0,0,6]),
 (20,[0,0,0,0,0,0,0,0,0,0,0,0,0,0,0,0,0,0,0,6,0,0,0,6,0,0,0,0,0,0,130,0,0,0,0,25769804418,0,0,0,0,0,0,0,0,0,0,0,0,0,0,25769804418,0,0,0,0,0,0,0,25769804418]),
 (21,[0,0,0,0,0,0,0,0,0,0,0,0,0,0,3]),
 (22,[0,0,0,0,0,0,0,0,0,0,0,0,0,0,0,0,0,0,0,393408,0,0,0,0,0,0,0,0,235274688]),
 (23,[0,0,0,0,0,0,0,0,0,0,0,0,0,0,0,0,0,0,0,0,0,0,0,0,0,0,0,963,0,0,0,0,0,0,0,0,0,0,0,0,0,0,0,0,0,0,0,1475,0,0,0,0,7619,0,0,0,0,0,0,0,0,11715]),
 (24,[0,0,0,0,0,0,0,0,0,0,0,0,0,0,0,0,0,0,0,0,0,0,0,0,0,29360243,0,0,0,0,0,0,0,0,0,0,0,0,29362035,0,0,0,0,0,0,0,0,0,0,29368179,0,0,0,7881299377266547,0,0,0,0,0,7881299377266547]),
 (25,[0,0,0,0,0,0,0,0,0,0,0,0,0,0,0,0,0,0,0,0,0,0,0,0,963,0,0,0,0,0,0,0,0,0,0,0,0,4035]),
 (26,[0,0,0,0,0,0,0,0,0,0,0,0,0,0,0,2,0,0,0,0,10,0,0,0,0,0,0,0,0,0,0,0,0,0,0,0,10,0,0,0,0,1924145348618,0,0,0,0,0,0,1924145348650,0,0,0,3942573819297802,0,0,0,0,0,0,0,0,3942573819297802]),
 (27,[0,0,0,0,0,0,0,0,0,6]),
 (28,[0,0,0,0,0,0,0,0,0,0,0,0,0,0,0,0,0,0,0,0,0,0,2,0,0,0,0,0,0,0,0,0,2,0,0,0,0,120259084290,0,0,0,0,0,0,0,0,0,0,0,0,0,0,0,0,0,0,0,0,0,0,0,0,0,0,0,120259084314,0,0,0,0,0,0,0,0,0,0,0,0,0,0,0,0,0,0,0,0,0,0,120259084290]),
 (29,[]),
 (30,[]),
 (31,[0,0,0,0,0,0,0,0,0,0,6,0,0,6,0,0,0,0]),
 (32,[]),
 (33,[0,0,0,0,0,6]),
 (34,[]),
 (35,[0,0,0,0,0,0,0,0,0,0,0,0,0,0,0,0,0,0,196617,0,0,0,0,0,0,0,0,0,0,0,0,0,0,0,0,0,0,0,196665,0,0,0,0,0,0,0,0,0,0,0,0,196761,0,0,0,0,0,0,196665]),
 (36,[0,0,0,0,0,0,0,0,0,0,0,0,0,0,0,0,0,0,0,0,0,0,0,0,14680076]),
 (37,[0,0,0,0,0,0,0,0,0,0,0,0,0,0,0,0,0,0,0,0,0,0,0,0,0,0,0,0,0,0,0,1879048438,0,0,0,0,0,0,0,1879048694,0,0,0,0,0,0,0,0,0,0,985164297537014,0,0,0,0,0,0,0,0,0,0,0,0,0,0,0,0,0,0,0,0,0,0,0,0,0,0,0,0,0,0,0,0,0,0,0,0,0,0,0,1083197534374707740536791108,0,0,0,0,0,0,0,1083197534374707740536791108]),
 (38,[]),
 (39,[0,0,0,0,0,0,0,0,0,0,0,0,0,0,0,0,3,0,0,0,786435,0,0,0,0,0,0,0,0,0,0,0,0,0,786435]),
 (40,[]),
 (41,[]),
 (42,[0,0,0,0,0,0,0,0,0,0,28,0,0,0,0,0,0,28,0,0,0,0,0,0,0,0,67109404,0,0,0,0,0,0,28]),
 (43,[]),
 (44,[]),
 (46,[0,0,0,0,0,0,0,114]),
 (47,[0,0,0,0,0,0,0,0,0,0,0,0,0,0,0,0,0,0,0,0,0,0,0,0,0,0,2062,0,0,0,0,0,0,2062,0,0,0,0,0,0,0,0,3848290707468,0,0,0,0,0,3848290756620,0,0,0,0,0,0,0,0,0,0,0,0,0,0,0,0,0,3848290707468,0,0,0,0,3848290707468]),
 (48,[0,0,0,0,0,0,3,0,0,0,0,1]),
 (49,[0,0,0,0,0,0,0,0,0,0,0,0,99,0,0,0,0,0,0,0,0,0,0,0,0,0,227]),
 (50,[0,0,0,0,0,0,0,0,0,0,0,0,0,0,0,0,0,0,0,0,0,0,0,0,0,14605,0,0,0,0,0,0,0,0,0,0,0,0,206158493965,0,0,0,0,0,0,0,0,0,0,0,0,0,63757]),
 (51,[0,0,0,0,0,0,0,0,0,0,0,0,0,6154,0,0,0,0,0,0,0,0,0,0,0,0,58720264]),
 (52,[]),
 (53,[]),
 (54,[0,0,0,0,0,0,0,0,0,0,0,0,0,0,0,0,0,0,0,0,0,0,0,0,0,7199,0,0,0,0,0,0,7199,0,0,0,0,0,0,7199,0,0,0,0,0,0,0,0,0,0,0,0,0,0,0,0,31775,0,0,0,0,0,0,0,0,0,0,0,0,0,0,0,0,0,0,15391,0,0,0,0,15391,0,0,0,0,0,0,0,0,0,0,0,0,0,0,0,0,12319,0,0,0,0,0,0,0,0,0,0,0,0,0,0,0,0,0,0,0,0,0,0,0,0,0,0,0,3103]),
 (55,[]),
 (56,[0,0,0,0,0,0,0,0,0,456,0,0,0,0,456]),
 (57,[0,0,0,0,0,0,0,0,0,0,0,67,0,3,0,0,3,0,0,0]),
 (58,[]),
 (59,[0,0,0,0,0,0,0,0,0,6,0,0,0,0,0,0,0,0,0,0,0,0,0,0,0,0,0,6,0,0,1610612742,0,0,0,0,0,0,137975824390,0,0,0,0,0,0,6,35184372088838,0,0,0,0,0,6,0,0,0,0,63050394783186946,0,0,0,0,0,63050394783186946]),
 (60,[]),
 (61,[0,0,0,0,0,0,0,0,0,6,0,0,0,0,0,0,0,0,0,0,0,0,0,7340046]),
 (62,[]),
 (63,[0,0,0,0,0,0,2]),
 (64,[0,0,0,0,0,0,0,194,0,0,0,0,0,0,0,32834,0,0,0,0,0,0,3670016,0,0,0,0,3670016,0,0]),
 (65,[0,0,0,0,0,0,0,0,0,0,0,0,0,6,0,0,0,0,0,0,0,0,0,0,0,0,0,0,0,0,0,0,0,6442451124,0,0,0,0,0,0,0,0,3848290697364]),
 (66,[0,0,0,0,0,0,0,0,0,0,0,0,0,0,0,0,0,0,2,0,0,0,0,0,0,0,0,117440538,0,0,0,0,0,0,0,0,117440538,0,0,0,0,0,0,0,0,0,0,0,0,492581209244058,0,0,0,0,0,0,0,0,0,0,0,2018105214271228826,0,0,0,0,0,0,0,0,0,0,0,0,0,0,0,0,0,0,492581209260954,0,0,0,0,0,0,0,0,0,0,0,0,0,386]),
 (67,[0,0,0,0,0,0,0,0,0,0,0,0,0,0,0,0,0,0,0,0,0,0,0,7340172]),
 (68,[0,0,0,0,0,0,0,0,0,0,0,0,0,0,0,0,0,0,0,0,0,0,0,0,0,0,0,0,920,0,0,0,0,0,0,0,0,0,0,0,0,0,0,0,0,0,0,0,7432]),
 (69,[0,0,0,0,0,0,0,0,0,0,0,0,0,0,0,0,0,0,0,0,0,0,0,7340188]),
 (70,[]),
 (71,[0,0,0,0,0,0,0,0,0,450,0,0,0,0,498]),
 (72,[0,0,0,0,0,0,0,0,0,0,0,0,0,0,0,0,0,0,0,0,0]),
 (74,[0,0,0,0,0,0,0,0,0,0,0,0,0,0,0,0,0,0,0,0,0,0,0,0,0,0,0,37,0,0,0,0,0,0,165,0,0,0,0,0,0,0,0,0,0,0,0,0,0,0,0,0,0,0,0,933,0,0,0,0,0,0,0,0,0,0,0,0,0,0,0,0,0,0,0,0,0,0,0,0,0,0,0,0,0,0,0,0,0,541598767187353870268367269,0,0,0,0,0,0,0,0,0,0,0,0,0,0,0,0,0,0,0,0,0,0,0,0,0,0,0,0,0,541598767187353870268372389,0,0,0,0,0,0,0,0,0,0,0,0,0,0,0,0,0,0,0,0,0,0,0,0,0,0,0,0,0,0,0,0,0,0,0,0,0,0,0,0,0,0,0,0,0,40922045845265281709703175316055924550366111211940,0,0,0,0,0,0,0,0,0,0,0,0,335274321610258453047598115364446189841149549088924068]),
 (75,[]),
 (76,[0,0,0,0,0,0,0,0,0,0,0,0,0,0,0,0,0,0,0,0,0,0,0,0,12582924,0,0,0,0,0,0,0,0,12582924]),
 (77,[0,0,0,0,0,0,0,0,0,0,0,0,0,0,6,0,0,0,0,0,0,0,0,0,134,0,0,0,0,469762434,0,0,0,0,0,0,0,0,0,0,469762434]),
 (78,[0,0,0,0,0,0,0,0,0,0,0,0,0,0,0,0,0,0,0,0,0,0,0,0,2056,0,0,0,0,0,0,2056,0,2056,0,0,0,0,0,0,0,0,0,0,0,0,0]),
 (79,[0,0,0,0,0,0,0,0,0,0,0,0,0,0,0,0,0,32,0,0,0,0,3]),
 (80,[]),
 (81,[0,0,0,0,0,0,0,0,0,0,3,0,0,0,0,0,0,0,0,458785]),
 (82,[0,0,0,0,0,0,0,0,0,0,0,0,0,0,271,0,0,0,0,0,0,0,0,0,0,0,0,0,0,0,0,0,0,0,783]),
 (83,[0,0,0,0,0,0,0,0,0,0,0,0,0,0,0,0,0,0,0,0,0,3849,0,0,0,0,0,0,0,0,0,0,0,4873]),
 (84,[0,0,0,0,0,0,0,0,0,0,0,0,0,0,0,0,0,0,0,0,0,0,0,0,0,0,0,0,0,0,0,0,0,0,0,3843,0,0,0,0,0,0,0,0,0,7939]),
 (85,[0,0,0,0,0,0,0,0,0,0,0,0,0,0,0,0,0,0,0,0,0,0,0,0,0,0,0,0,0,0,0,0,0,0,10240,0,30729,0,0,0,0,0,0,0,0,0,0,0,0,0,0,0,0,0,0,0,0,768,0,0,768]),
 (86,[0,0,0,0,0,0,0,0,0,0,0,0,0,0,0,769]),
 (87,[0,0,0,0,0,0,0,0,0,0,0,0,0,0,0,0,1551,0,0,0,0,0,0,0,0,0,0,0,0,0,0,0,0,0,0,0,1551,0,0,0,0,1551,0,0,0,1551,0,0,0,0,0,0,0,0,0,0,0,0,0,0,0,0,0,0,0,1551,0,0,0,3599,0,0,0,0,0,0,0,0,0,0,0,0,0,0,3599,0,0,0,0,0,0,0,0,0,0,0,0,0,0,0,0,0,0,0,1551,0,0,0,0,5647,0,0,0,0,0,0,0,0,0,0,0,0,0,0,5647]),
 (88,[0,0,0,0,0,0,0,0,0,0,0,0,0,0,0,0,0,0,0,0,0,0,0,0,0,0,0,0,0,0,0,0,0,0,0,0,0,0,0,0,0,0,0,0,0,0,0,6163,0,0,0,0,0,0,0,0,0,0,0,0,0,0,0,0,0,6163,0,0,0,0,6163]),
 (89,[0,0,0,0,0,0,0,0,0,0,0,0,0,0,0,0,0,0,0,0,0,0,0,0,0,0,0,0,0,0,0,0,0,0,0,0,0,0,0,0,0,0,0,0,0,0,0,12307,0,0,0,0,0,0,0,0,0,0,0,0,0,0,0,0,0,0,12307,0,0,0,0,12307,0,0,0,0,0,0,0,0,0,0,0,0,0,0,0,0,0,0,0,0,0,0,0,0,0,0,0,0,0,0,0,0,0,0,0,0,0,0,0,0,0,0,0,0,0,0,0,0,12307,0,0,0,0,0,0,0,0,0,0,0,0,0,0,0,0,0,0,12307,0,0,0,0,12307]),
 (91,[0,0,0,0,5,0,0,0,5,0,0,0,0,0,5]),
 (92,[]),
 (93,[0,0,0,0,0,0,0,0,0,0,0,0,0,0,0,0,14,0,0,0,0,0,0,0,0,0,58720262,0,0,0,0,0,0,0,58720262]),
 (94,[0,0,0,0,0,0,0,19,0,0,0,19,0,0,0,19,0,0,0,0,0,19,0,0,0,0,0,16,0,0,0,0,0,0,0,0,0,48,0,0,0,0,0,0,0,16,0,48,0,0,0,0,0,0,0,0,0,48]),
 (95,[0,0,0,0,0,0,0,6]),
 (96,[0,0,0,0,0,0,0,0,0,0,0,0,0,48,0,0,0,0,48,0,0,0,0,0,56,0,0,0,0,0,0,2147487804,0,0,0,0,0,0,48,0,0,0,0,0,0,0,0,0,0,0,0,0,0,0,0,0,0,48]),
 (97,[0,0,0,0,0,0,0,0,0,0,0,0,0,0,0,0,0,0,0,0,0,0,0,0,0,0,0,0,0,0,0,0,0,0,0,0,0,0,0,0,0,0,0,0,0,0,0,0,0]),
 (98,[]),
 (99,[]),
 (100,[0,0,0,0,0,0,0,0,0,0,0,0,0,0,0,0,0,0,0,0,0,0,0,0,0,14605,0,0,0,0,0,0,0,0,0,0,0,0,206158493965,0,0,0,0,0,0,0,0,0,0,0,0,0,63757]),
 (101,[]),
 (102,[]),
 (103,[]),
 (104,[0,0,0,0,0,0,0,0,0,0,0,0,67]),
 (105,[]),
 (106,[]),
 (107,[0,0,0,0,0,0,0,0,0,0,0,0,0]),
 (108,[]),
 (109,[0,0,0,0,0,0,0,0]),
 (110,[0,0,0,0,0,0,0,0,0,0,0,0,3087,0,0,0,3087]),
 (111,[0,0,0,0,0,0,0,0,0,0,0,0,0,111]),
 (112,[0,0,0,0,1]),
 (113,[0,0,0,0,0,0,0,0,0,0,0,0,0,0,0,0,80,0,0,0,0,80,0,0,0,80]),
 (115,[]),
 (116,[]),
 (117,[0,0,0,0,0,0,0,0,0,0,0,0,0,5,0,0,0,0,0,0,0,0,0,0,0,0,101,0,0,0,0,0,0,0,0,0,0,0,0,0,0,0,324,0,0,0,0,0,0,0,0,0,516]),
 (118,[0,0,0,0,0,0,0,0,0,2,0,0,0,0,0,0,0,0,0,0,0,0,0,0,0,0,10,0,0,0,0,1879048202,0,0,0,0,0,0,0,0,0,0,1879048202,0,0,0,0,0,0,0,0,0,0,0,0,0,0,0,0,0,0,0,0,0,0,0,0,0,0,0,0,0,0,0]),
 (119,[0,0,0,0,0,0,0,0,0,0,0,0,0,0,35,0,0,0,0,35,0,0,35,0,0,0,0,0,0,0,0,0,0,0,547]),
 (120,[]),
 (121,[0,0,0,0,0,0,0,0,0,0,0,0,0,0,147,0,0,0,0,0,0,0,0,7340179,0,0,0,0,0,0,0,0,0,0,0,0,0,0,0,0,0,0,0,0,0,0,0,0,0,0,0,0,0,0,0,0,0,0,0,0,0,147,0,0,0,147]),
 (122,[0,0,0,0,0,0,0,0,0,0,0,0,0,0,0,0,0,0,229385]),
 (123,[0,0,0,0,0,0,0,1,0,0,0,1793,0,0,0,0,0,0,0,1793]),
 (124,[0,0,0,0,0,9]),
 (125,[]),
 (126,[0,0,0,0,0,0,0,0,0,0,0,0,0,0,0,0,0,0,3101,0,0,0,0,0,0,0,0,0,0,0,0,0,0,0,0,0,0,0,0,0,3101,0,0,0,0,0,0,0,0,0,0,0,0,0,0,0,0,0,3101]),
 (127,[]),
 (128,[]),
 (129,[]),
 (130,[]),
 (131,[0,0,0,0,0,5]),
 (132,[0,0,0,0,0,5]),
 (133,[0,0,0,0,0,5]),
 (134,[]),
 (135,[0,0,0,0,0,0,0,0,0,0,0,0,0,0,0,0,0,0,0,0,0,0,0,0,14680316,0,0,0,0,0,0,0,0,0,0,0,0,0,0,0,0,0,14680316,0,0,0,0,0,0,0,0,0,0,0,0,0,0,2064,0,0,0,0,2064,0,0,0,0,0,0,0,2064]),
 (136,[0,0,0,0,0,0,0,0,0,0,0,0,0,0,0,0,0,0,0,0,0,0,0,7340276,0,0,0,0,7340916,0,0,0,0,0,0,0,0,0,0,0,0,0,0,0,0,0,0,0,0,0,0,0,0,0,0,0,0,126100789566376144,0,0,0,0,0,126100789566388432]),
 (137,[]),
 (138,[0,0,0,0,0,0,0,0,0,0,0,0,0,7181,0,0,0,0,7693,0,0,0,0,0,0,0,7693]),
 (139,[0,0,0,0,0,0,0,0,0,387,0,0,0,0,0,0,387]),
 (140,[0,0,0,0,0,0,0,0,0,0,0,0,0,0,0,0,0,32,0,0,0,0,3]),
 (141,[]),
 (142,[0,0,0,0,0,0,0,0,0,0,0,0,0,0,0,0,0,0,0,0,0,0,3,0,0,0,0,0,0,0,0,0,0,0,0,0,0,0,0,0,0,0,3848290697282,0,0,0,0,0,0,0,0,0,0,0,0,0,0,3848290697538,0,0,0,0,0,0,0,0,0,0,0,0,0,0,576,0,0,0,0,0,0,0,0,0,0,0,0,0,0,0,270799383593676935134184000,0,0,0,0,0,0,0,0,0,0,0,0,0,0,0,0,0,270799383593676935134192192]),
 (143,[]),
 (144,[0,0,0,0,0,0,0,0,0,0,0,0,0,0,0,0,0,0,0,0,0,0,0,0,0,0,0,0,0,0,939524121,0,0,0,0,0,0,0,0,0,0,0,0,0,0,0,0,0,0,0,0,0,0,0,0,0,0,0,0,0,0,0,0,0,0,0,939524409,0,0,0,0,0,0,0,0,0,0,0,939524409,0,0,0,0,0,0,0,0,0,0,0,0,0,0,0,0,0,0,939524409]),
 (145,[0,0,0,0,0,0,0,0,0,387,0,0,0,0,0,0,387]),
 (146,[0,0,0,0,0,0,0,0,0,0,0,0,0,0,0,0,21,0,0,0,0,0,0,0,0,53,0,0,0,0,0,0,0,20]),
 (147,[0,0,0,0,0,0,0,0,1]),
 (148,[0,0,0,0,0,0,0,0,2]),
 (149,[0,0,0,0,0,0,0,0,0,0,0,0,0,0,0,0,0,0,0,0,0,0,0,0,10,0,0,0,0,0,0,0,0,0,0,0,0,0,0,0,0,0,0,0,0,0,0,0,0,0,0,10,0,0,0,0,63050394783186954,0,0,0,0,0,0,0,0,0,0,0,63050394783186954]),
 (150,[0,0,0,0,0,0,0,0,0,0,0,0,0,0,0,0,0,0,0,0,0,0,3670030,0,0,0,0,0,0,0,0,0,0,0,0,0,0,120262754366]),
 (151,[0,0,0,0,0,0,0,0,0,0,3,0,0,0,12291,0,0,0,0,0,0,0,0,0,12291]),
 (152,[0,0,0,0,0,0,0,0,0,0,3,0,0,0,12291,0,0,0,0,0,0,0,0,0,12291]),
 (153,[0,0,0,0,0,0,0,0,0,0,3,0,0,0,12291,0,0,0,0,0,0,0,0,0,12291]),
 (154,[0,0,0,0,0,0,0,1,0,0,0,0,0,0]),
 (155,[0,0,0,0,0,0,0,0,0,0,0,0,0,0,0,0,0,0,229411,0,0,0,0,0,0,0,0,0,0,0,0,0,0,0,0,0,0,0,0,0,0,0,229539,0,0,0,0,0,0,0,985162418487331,0,0,0,0,0,64035557201674787,0,0,0,0,0,0,0,0,0,0,0,0,64035557201674787]),
 (156,[0,0,0,0,0,2]),
 (157,[0,0,0,0,0,0,0,0,0,456]),
 (158,[0,0,0,0,0,0,0,0,2,0,0,0,2,0,0,0,0,0,0,0,0,0,3670026,0,0,0,0,0,0,0,0,3670026,0,0,0,0,0,0,0,8]),
 (159,[0,0,0,0,0,0,0,0,0,0,0,0,0,0,0,0,0,0,0,0,0,0,0,0,0,0,0,0,0,0,0,0,0,0,0,25769805187,0,0,0,0,987842481539,0,0,0,0,0,0,0,0,0,0,0,0,0,0,0,0,0,0,0,0,0,987842481539]),
 (160,[0,0,0,0,0,0,0,0,0,0,0,0,0,0,0,0,0,0,0,0,0,1835137,0,0,0,0,0,119275649,0,0,0,0,0,0,0,0,0,0,0,0,0,0,0,119277697,0,0,0,0,0,0,844425049413761]),
 (161,[]),
 (162,[]),
 (163,[0,0,0,0,0,0,0,0,0,0,0,0,0,0,14725,0,0,0,0,14725,0,0,0,0,0,0,0,0,0,14725,0,0,0,0,0,0,0,0,0,0,14725,0,0,0,0,0,0,0,0,0,0,0,0,0,0,0,0,0,0,0,0,0,14725]),
 (164,[0,0,0,0,0,0,0,0,0,0,0,9,0,0,0,0,0,0,0,0,0,0,0,0,0,0,0,0,0,0,0,0,0,0,0,0,0,0,9]),
 (165,[0,0,0,0,0,0,0,0,0,0,0,0,0,0,0,0,0,0,0,0,0,0,6]),
 (166,[]),
 (167,[0,0,0,0,0,0,0,0,0,0,0,0,35,0,0,0,0,0,0,99,0,0,0,0,0,0,0,0,0,99]),
 (168,[0,0,0,0,0,0,0,0,0,0,0,1825,0,0,0,0,0,1825]),
 (169,[0,0,0,0,0,0,0,0,0,67,0,0,67]),
 (170,[]),
 (171,[]),
 (172,[]),
 (173,[0,0,0,0,0,0,24]),
 (175,[]),
 (176,[0,0,0,0,0,0,0,0,0,0,0,0,0]),
 (177,[0,0,0,0,0,0,0,0,0,0,0,0,1,0,0,0,57345,0,0,0,0,0,0,0,0,0,57345]),
 (178,[]),
 (179,[0,0,0,0,0,0,0,0,0,0,1,0,0,0,0,0,49160]),
 (180,[0,0,0,0,0,0,0,0,0,0,0,0,3592]),
 (181,[0,0,0,0,0,0,0,0,0,0,0,0,0,0,0,0,0,0,0,0,0,0,3,0,0,0,0,0,0,469762082]),
 (182,[0,0,0,0,0,0,0,0,7]),
 (183,[]),
 (184,[0,0,0,1]),
 (185,[]),
 (186,[0,0,0,0,0,0,0,0,0,0,0,0,1]),
 (187,[0,0,0,0,0,0,0,0,0,0,0,0,0,0,21,0,0,0,0,21,0,0,0,0,0,0,0,0,85]),
 (188,[0,0,0,0,0,0]),
 (189,[0,0,0,0,0,0,0,0,0,0,898,0,0,0,0,0,0,0,0,898]),
 (191,[0,0,0,0,0,0,0,0,0,1,0,0,1,0,0,0,57345,0,0,0,0,0,0,57361,0,0,0,117497857,0,0,0,0,0,0,0,0,0,117497857]),
 (192,[0,0,0,0,0,0,0,0,0,0,0,0,0,0,0,0,0,0,0,458785,0,0,0,0,0,458913,0,0,0,0,0,0,3758555297,0,0,0,0,0,0,0,0,0,0,0,0,0,0,0,246294363178657,0,0,0,0,0,0,0,0,0,0,0,246294363178657]),
 (194,[]),
 (195,[0,0,0,0,0,0,0,0,0,387,0,0,0,0,0,0,387]),
 (196,[0,0,0,0,0,0,0,0,0,0,0,1544]),
 (197,[0,0,0,0,0,0,0,0,195,0,0,0,0,0,0,0,0,0,0,0,0,0,0,0,0,0,0,0,0,195]),
 (198,[0,0,0,0,0,0,0,0,0,0,0,0,0,0,0,0,57356]),
 (200,[0,0,0,0,0,0,0,0,0]),
 (201,[0,0,0,0,0,0,0,0,0,456]),
 (202,[0,0,0,0,0,0,0,0,0,0,0,0,0,0,0,0,0,0,0,135,0,0,0,0,0,0,0,0,0,263,0,0,0,0,0,0,0,0,0,0,0,0,0,0,0,897,0,0,0,0,0,0,0,0,0,0,54043195528446211]),
 (203,[0,0,0,0,0,0,0,0,0,387,0,0,0,0,0,0,387]),
 (204,[]),
 (205,[0,0,0,0,0,0,0,0,0,12,0,0,0,0,0,0,0,0,0,12]),
 (206,[0,0,0,0,0,0,0,0,0,0,3,0,0,0,0,35,0,0,0,0,0,0,0,0,0,0,0,0,35,0,0,0,0,0,0,227,0,0,0,0,0,0,0,0,0,0,0,0,0,227]),
 (207,[]),
 (209,[]),
 (210,[0,0,0,0,0,0,0,0,0,0,0,21,0,0,0,0,0,0,0,0,0,20,0,0,20]),
 (211,[0,0,0,0,0,0,1,0,0,0,0,0,0,0,1,0,1,0,0,0,0,0,0,0,0,0,0,0,0,0,0,0,0,0,0,1]),
 (212,[0,0,0,0,0,0,0,0,0,0,0,0,0,0,6,0,0,0,0,0,0,1835042,0,0,0,0,0,0,0,0,0,0,0,1835042]),
 (214,[0,0,0,0,0,0,0,0]),
 (215,[0,0,0,0,0,0,0,0,0,0,0,0,0,0,0,0,0,0,0,0,0,0,0,0,0,7199,0,0,0,0,0,0,7199,0,0,0,0,0,0,7199,0,0,0,0,0,0,0,0,0,0,0,0,0,0,0,0,31775,0,0,0,0,0,0,0,0,0,0,0,0,0,0,0,0,0,0,15391,0,0,0,0,15391,0,0,0,0,0,0,0,0,0,0,0,0,0,0,0,0,12319,0,0,0,0,0,0,0,0,0,0,0,0,0,0,0,0,0,0,0,0,0,0,0,0,0,0,0,3103]),
 (216,[0,0,0,0,0,0,0,0,0,0,0,0,0,0,14343,0,0,0,0,0,0,14727,0,0,0,0,0,0,0,0,0,14343,0,0,0,0,0,0,0]),
 (217,[]),
 (218,[0,0,0,0,0,0,0,0,0,0,0,0,0,0,0,0,0,0,0,0,0,0,0,0,0,0,0,0,0,0,0,0,0,0,0,0,0,0,0,0,0,0,0,0]),
 (219,[0,0,0,0,0,0,0,0,0,0,0,0,0,0,271,0,0,0,0,0,0,0,0,0,0,0,0,0,0,0,0,0,0,0,783]),
 (220,[0,0,0,0,0,0,0,0,0,0,0,0,0,0,0,0,0,0,0,0,0,3849,0,0,0,0,0,0,0,0,0,0,0,4873]),
 (221,[0,0,0,0,0,0,0,0,0,0,0,0,0,0,0,0,0,0,0,0,0,0,0,0,0,0,0,0,0,0,0,0,0,0,0,3843,0,0,0,0,0,0,0,0,0,7939]),
 (222,[0,0,0,0,0,0,0,0,0,0,0,0,0,0,0,0,0,0,0,0,0,0,0,0,0,0,0,0,0,0,0,0,0,0,10240,0,30729,0,0,0,0,0,0,0,0,0,0,0,0,0,0,0,0,0,0,0,0,768,0,0,768]),
 (223,[0,0,0,0,0,0,0,0,0,0,0,0,0,0,0,769]),
 (224,[0,0,0,0,0,0,0,0,0,0,0,0,0,0,0,0,1551,0,0,0,0,0,0,0,0,0,0,0,0,0,0,0,0,0,0,0,1551,0,0,0,0,1551,0,0,0,1551,0,0,0,0,0,0,0,0,0,0,0,0,0,0,0,0,0,0,0,1551,0,0,0,3599,0,0,0,0,0,0,0,0,0,0,0,0,0,0,3599,0,0,0,0,0,0,0,0,0,0,0,0,0,0,0,0,0,0,0,1551,0,0,0,0,5647,0,0,0,0,0,0,0,0,0,0,0,0,0,0,5647]),
 (225,[0,0,0,0,0,0,0,0,0,0,0,0,0,0,0,0,0,0,0,0,0,0,0,0,0,0,0,0,0,0,0,0,0,0,0,0,0,0,0,0,0,0,0,0,0,0,0,6163,0,0,0,0,0,0,0,0,0,0,0,0,0,0,0,0,0,6163,0,0,0,0,6163]),
 (226,[0,0,0,0,0,0,0,0,0,0,0,0,0,0,0,0,0,0,0,0,0,0,0,0,0,0,0,0,0,0,0,0,0,0,0,0,0,0,0,0,0,0,0,0,0,0,0,12307,0,0,0,0,0,0,0,0,0,0,0,0,0,0,0,0,0,0,12307,0,0,0,0,12307,0,0,0,0,0,0,0,0,0,0,0,0,0,0,0,0,0,0,0,0,0,0,0,0,0,0,0,0,0,0,0,0,0,0,0,0,0,0,0,0,0,0,0,0,0,0,0,0,12307,0,0,0,0,0,0,0,0,0,0,0,0,0,0,0,0,0,0,12307,0,0,0,0,12307]),
 (228,[0,0,0,0,0,0,0,0,0,0,0,0,0,0,0,0,0,0,3101,0,0,0,0,0,0,0,0,0,0,0,0,0,0,0,0,0,0,0,0,0,3101,0,0,0,0,0,0,0,0,0,0,0,0,0,0,0,0,0,3101]),
 (229,[]),
 (230,[]),
 (231,[0,0,0,0,0,0,0,0,0,0,0,0,0,0,0,0,0,0,0,0,0,0,6])]++[(45,[(13,[1,2]),(20,[2,5,2000011]),(29,[2,7,8])]),(73,[(17,[0,3,5,2000006]),(22,[0,3,5,2000006]),(35,[0,3,5,33,34,2000006]),(39,[0,3,5,6,33,34,37,38,2000006])]),(193,[(19,[0,3,4,5,6,7,17,18,1000007]),(24,[0,3,4,5,6,7,8,17,18,1000007]),(35,[0,3,4,5,6,7,17,18,1000007]),(48,[0,3,4,5,6,7,9,17,18,45,46,47,1000007])]),(213,[(8,[3000010])])]
def ay1:List (Nat×List (Nat×List Nat)):=Z7 [(3,[0,52776558133568,52776558136640]),
 (4,[]),
 (5,[]),
 (6,[]),
 (7,[]),
 (8,[]),
 (9,[71]),
 (10,[]),
 (11,[]),
 (12,[36,15032385574,15032385574,3940664706334822]),
 (13,[]),
 (14,[12,7340044]),
 (15,[144,144]),
 (16,[]),
 (17,[]),
 (18,[]),
 (19,[]),
 (20,[512,25769804418,25769804418]),
 (21,[]),
 (22,[192,393408,393408,235274688]),
 (23,[451,963,192,1475,3523,7619,1475,11715]),
 (24,[48,29360243,29360755,29362035,29366131,29368179,29368179,7881299377266547]),
 (25,[192,963,1987,4035]),
 (26,[0,1924145348618,1924145348618,3942573819297802]),
 (27,[]),
 (28,[0,120259084290]),
 (29,[]),
 (30,[]),
 (31,[]),
 (32,[]),
 (33,[]),
 (34,[]),
 (35,[9,196617]),
 (36,[12,14680076]),
 (37,[228,1879048438,1879049718,985164297537014,40964,1083197534374707740536791108]),
 (38,[]),
 (39,[0,786435]),
 (40,[]),
 (41,[]),
 (42,[28]),
 (43,[]),
 (44,[]),
 (45,[]),
 (46,[2,114]),
 (47,[8192,3848290707468,3848290707468]),
 (48,[]),
 (49,[32,99,99,227]),
 (50,[6400,14605,63757,206158493965]),
 (51,[10,6154,8,58720264]),
 (52,[]),
 (53,[]),
 (54,[0,3103]),
 (55,[]),
 (56,[8,456]),
 (57,[]),
 (58,[]),
 (59,[6,0,63050394783186946]),
 (60,[]),
 (61,[14,7340046]),
 (62,[]),
 (63,[]),
 (64,[0,0,3670016]),
 (65,[180,6442451124,148,3848290697364]),
 (66,[26,117440538,4,26,402,492581209244058,492581209246618,2018105214271228826]),
 (67,[128,7340172]),
 (68,[408,920,2048,7432]),
 (69,[128,7340188]),
 (70,[]),
 (71,[0,450,450,498]),
 (72,[0]),
 (74,[421,933,421,541598767187353870268367269,541598767187353870268367269,541598767187353870268372389,8452,40922045845265281709703175316055924550366111211940,40922045845265281709703175316055924550366111211940,335274321610258453047598115364446189841149549088924068]),
 (75,[]),
 (76,[12,12582924]),
 (77,[256,469762434]),
 (78,[0]),
 (79,[]),
 (80,[]),
 (81,[32,458785]),
 (82,[0,271,271,783]),
 (83,[1801,3849,0,4873]),
 (84,[0,3843]),
 (85,[768]),
 (86,[0,769]),
 (87,[0,1551,1551,1551,1551,3599,1551,5647]),
 (88,[2048,6163,6163,6163,6163,6163]),
 (89,[12307,12307,12307,12307,8195,12307,12307,12307,12307,12307]),
 (91,[]),
 (92,[]),
 (93,[0,58720262]),
 (94,[19,16,48]),
 (95,[]),
 (96,[48]),
 (97,[0]),
 (98,[]),
 (99,[]),
 (100,[6400,14605,63757,206158493965]),
 (101,[]),
 (102,[]),
 (103,[]),
 (104,[0,67]),
 (105,[]),
 (106,[]),
 (107,[]),
 (108,[]),
 (109,[]),
 (110,[0,3087]),
 (111,[47,111]),
 (112,[]),
 (113,[80,80]),
 (115,[]),
 (116,[]),
 (117,[]),
 (118,[10,1879048202]),
 (119,[]),
 (120,[]),
 (121,[16,147,147,7340179]),
 (122,[8,229385]),
 (123,[0,1793]),
 (124,[8,9]),
 (125,[]),
 (126,[0,1053]),
 (127,[]),
 (128,[]),
 (129,[]),
 (130,[]),
 (131,[]),
 (132,[]),
 (133,[]),
 (134,[]),
 (135,[248,14680316,2064]),
 (136,[240,7340276,2256,126100789566376144]),
 (137,[]),
 (138,[0,7181]),
 (139,[0,387]),
 (140,[]),
 (141,[]),
 (142,[66,3848290697282,64,270799383593676935134184000]),
 (143,[]),
 (144,[17,939524121,939524409]),
 (145,[0,387]),
 (146,[20,21]),
 (147,[]),
 (148,[]),
 (149,[10,63050394783186954]),
 (150,[12,3670030,3670030,120262754366]),
 (151,[0,12291]),
 (152,[0,12291]),
 (153,[0,12291]),
 (154,[]),
 (155,[35,229411,0,985162418487331,985162418487331,64035557201674787]),
 (156,[]),
 (157,[8,456]),
 (158,[2,10,3670026]),
 (159,[1024,25769805187,25769805187,987842481539]),
 (160,[128,1835137,1835137,119275649,119281793,844425049413761]),
 (161,[]),
 (162,[]),
 (163,[128,14725,14725]),
 (164,[0,9]),
 (165,[]),
 (166,[]),
 (167,[33,99]),
 (168,[32,1825]),
 (169,[67]),
 (170,[]),
 (171,[]),
 (172,[]),
 (173,[]),
 (175,[]),
 (176,[0]),
 (177,[0,57345]),
 (178,[]),
 (179,[8,49160]),
 (180,[8,3592]),
 (181,[32,469762082]),
 (182,[]),
 (183,[]),
 (184,[0,1]),
 (185,[]),
 (186,[]),
 (187,[20,21]),
 (188,[]),
 (189,[0,898]),
 (191,[0,57345,57345,117497857]),
 (192,[0,458785,458785,3758555297,3758555297,246294363178657]),
 (194,[]),
 (195,[0,387]),
 (196,[8,1544]),
 (197,[0,195]),
 (198,[0,57356]),
 (200,[]),
 (201,[8,456]),
 (202,[135,135,256,897,256,54043195528446211]),
 (203,[0,387]),
 (204,[]),
 (205,[]),
 (206,[1,35,33,227]),
 (207,[]),
 (209,[]),
 (210,[20]),
 (211,[]),
 (212,[32,1835042]),
 (213,[]),
 (214,[]),
 (215,[0,3103]),
 (216,[3,14343]),
 (217,[]),
 (218,[0]),
 (219,[0,271,271,783]),
 (220,[1801,3849,0,4873]),
 (221,[0,3843]),
 (222,[768]),
 (223,[0,769]),
 (224,[0,1551,1551,1551,1551,3599,1551,5647]),
 (225,[2048,6163,6163,6163,6163,6163]),
 (226,[12307,12307,12307,12307,8195,12307,12307,12307,12307,12307]),
 (228,[0,1053]),
 (229,[]),
 (230,[]),
 (231,[])]++[(73,[(0,[0,3,5,2000006]),(1,[0,3,5,33,34,2000006]),(2,[0,3,5,33,34,2000006]),(3,[0,3,5,6,33,34,37,38,2000006])]),(193,[(0,[3]),(1,[0,3,4,5,6,7,17,18,1000007]),(2,[0,3,4,5,6,7,17,18,1000007]),(3,[0,3,4,5,6,7,17,18,1000007]),(4,[0,3,4,5,6,7,17,18,1000007]),(5,[0,3,4,5,6,7,9,17,18,45,46,47,1000007])])]
def ay2:List (Nat×List (Nat×List Nat)):=[(23,[(1,[5000022])]),
 (24,[(1,[5000020])]),
 (25,[(1,[5000022])]),
 (73,[(3,[2000006])]),
 (160,[(1,[104000319,105000322,106000325,107000328,108000331,109000334,110000337,111000340,112000343,113000346,114000349])]),
 (187,[(1,[4]),(2,[4]),(4,[4]),(5,[4]),(6,[4]),(7,[4]),(8,[4]),(10,[4])]),
 (193,[(2,[4]),(14,[45,1000048])])]
def ay3:List (Nat×List Nat):=[(7,[0]),
 (33,[0]),
 (45,[0]),
 (51,[0]),
 (61,[0]),
 (74,[0,1]),
 (94,[0]),
 (95,[0]),
 (96,[0]),
 (117,[0]),
 (131,[0]),
 (132,[0]),
 (133,[0]),
 (146,[0]),
 (159,[0]),
 (187,[0]),
 (210,[0])]
def ay4:List (Nat×List (Nat×List (Nat×Nat))):=[(3,[(1,[(1,4)]),(2,[(1,5)]),(4,[(3,6)]),(5,[(1,7)]),(6,[(1,7)]),(8,[(0,6)]),(23,[(0,6)])]),
 (4,[(1,[(1,8)]),(2,[(2,10),(4,9)])]),
 (5,[(1,[(1,11)]),(4,[(1,12)]),(7,[(1,14),(2,13)])]),
 (6,[(1,[(0,17),(1,17),(3,16),(5,16),(6,15)]),(2,[(4,18),(10,17),(11,19)])]),
 (7,[(1,[(1,20)])]),
 (9,[(1,[(1,21)]),(3,[(3,22)]),(5,[(4,23)]),(7,[(2,24)]),(8,[(3,25)])]),
 (10,[(1,[(1,21)])]),
 (11,[(1,[(1,26)]),(4,[(1,18)])]),
 (12,[(1,[(1,26)])]),
 (13,[(1,[(1,27)]),(4,[(1,18)])]),
 (14,[(1,[(1,28)]),(9,[(2,29)])]),
 (15,[(1,[(2,31)]),(4,[(1,33),(3,32)]),(5,[(1,34)]),(6,[(1,35)]),(9,[(1,36)])]),
 (18,[(1,[(1,26)]),(3,[(1,37)])]),
 (19,[(1,[(1,38),(5,39)]),(4,[(1,40)]),(5,[(1,41)]),(6,[(3,42),(8,43)])]),
 (20,[(1,[(1,26)]),(4,[(1,44)]),(6,[(1,45)]),(10,[(0,46)]),(13,[(3,47)])]),
 (21,[(4,[(12,48)])]),
 (22,[(1,[(3,25)])]),
 (23,[(2,[(2,21)]),(3,[(2,21)]),(7,[(3,21)]),(19,[(3,21)])]),
 (24,[(2,[(2,21),(4,49)]),(6,[(3,21)])]),
 (25,[(2,[(2,21)]),(3,[(2,21)]),(7,[(3,21)]),(12,[(3,21)])]),
 (27,[(1,[(1,28)]),(4,[(5,51),(7,50)])]),
 (28,[(3,[(7,53)]),(10,[(19,30)])]),
 (29,[(1,[(4,55),(6,54)])]),
 (30,[(1,[(4,57),(9,57),(14,57),(16,56)])]),
 (31,[(3,[(1,58)]),(5,[(2,59)])]),
 (32,[(3,[(2,60)])]),
 (33,[(1,[(1,38)]),(3,[(1,61)])]),
 (35,[(5,[(13,62)]),(8,[(5,63)]),(12,[(2,60)])]),
 (36,[(5,[(3,64)])]),
 (37,[(1,[(1,65)]),(2,[(1,66)]),(17,[(1,65)])]),
 (38,[(1,[(1,31)])]),
 (42,[(3,[(4,67)]),(5,[(6,68)]),(8,[(3,69)]),(10,[(6,70)]),(12,[(2,71)])]),
 (45,[(1,[(1,26)]),(5,[(1,18),(2,73)]),(8,[(0,74)])]),
 (46,[(2,[(0,75)]),(5,[(2,76)])]),
 (47,[(1,[(2,77)]),(7,[(0,75),(4,76)]),(12,[(7,78)])]),
 (50,[(2,[(1,79)]),(12,[(5,80),(6,261)]),(17,[(4,52)])]),
 (54,[(4,[(4,82)]),(6,[(4,83)]),(8,[(4,84)]),(10,[(4,85)]),(12,[(4,86)]),(16,[(4,87)]),(17,[(13,30)]),(18,[(5,88)]),(20,[(5,89)]),(26,[(5,54)]),(29,[(6,54)])]),
 (55,[(2,[(1,91)])]),
 (57,[(1,[(1,92)]),(2,[(1,92)])]),
 (58,[(2,[(1,93)])]),
 (59,[(22,[(2,59)])]),
 (60,[(2,[(5,63)])]),
 (61,[(7,[(3,61)]),(9,[(3,94)])]),
 (62,[(1,[(3,96),(4,95)])]),
 (63,[(1,[(1,38)]),(4,[(1,97)]),(5,[(0,98)])]),
 (64,[(6,[(2,268)]),(12,[(1,64)]),(17,[(9,64)])]),
 (65,[(1,[(1,26)]),(3,[(6,100)])]),
 (66,[(1,[(1,26)])]),
 (67,[(1,[(5,42)]),(5,[(1,40)]),(6,[(2,265)]),(7,[(3,42)]),(8,[(5,105)]),(9,[(2,266)])]),
 (68,[(1,[(1,40)]),(2,[(2,260)]),(6,[(2,41)]),(7,[(3,42)]),(12,[(1,40)]),(13,[(2,41)]),(14,[(5,264)])]),
 (69,[(1,[(6,42)]),(5,[(3,42)]),(6,[(2,263)])]),
 (70,[(1,[(3,42)]),(3,[(2,262)])]),
 (71,[(5,[(4,112),(6,72)])]),
 (72,[(0,[(3,40)]),(2,[(5,259)]),(4,[(6,259)])]),
 (74,[(1,[(4,113)]),(16,[(8,115)]),(32,[(7,116)])]),
 (76,[(5,[(1,117)])]),
 (77,[(1,[(1,118)]),(4,[(0,75)])]),
 (78,[(1,[(3,119)]),(6,[(1,120)]),(8,[(2,121)]),(10,[(1,122)])]),
 (80,[(1,[(5,81)])]),
 (81,[(1,[(1,123)]),(4,[(3,125),(5,124)])]),
 (82,[(4,[(14,30)])]),
 (83,[(6,[(5,126)]),(11,[(5,126)])]),
 (84,[(3,[(1,127)]),(7,[(0,128)])]),
 (85,[(8,[(3,129)]),(9,[(3,129)]),(10,[(3,129)]),(11,[(5,130)])]),
 (87,[(5,[(14,30)]),(16,[(10,30)]),(22,[(10,30)])]),
 (88,[(3,[(13,30)]),(5,[(13,30)])]),
 (89,[(3,[(13,30)]),(5,[(13,30)]),(13,[(13,30)]),(15,[(13,30)])]),
 (93,[(7,[(4,93)])]),
 (94,[(3,[(1,131)]),(5,[(1,132)]),(7,[(1,133)]),(18,[(0,134)]),(19,[(5,105)])]),
 (95,[(1,[(2,31)])]),
 (96,[(12,[(2,135)]),(14,[(5,96)]),(15,[(3,94)]),(16,[(4,94)]),(18,[(2,136)])]),
 (97,[(3,[(1,137)]),(5,[(1,137)]),(7,[(5,137)]),(9,[(3,138)]),(11,[(3,138)]),(13,[(3,138)]),(15,[(1,137)]),(16,[(3,138)]),(18,[(3,138)]),(19,[(1,137)])]),
 (99,[(1,[(2,139)])]),
 (100,[(2,[(1,140)]),(12,[(5,101),(6,253)]),(17,[(4,102)])]),
 (103,[(0,[(6,104)])]),
 (105,[(1,[(14,141)])]),
 (106,[(0,[(1,40)]),(1,[(5,267)])]),
 (107,[(0,[(5,43)]),(1,[(6,104)])]),
 (109,[(0,[(2,43)]),(1,[(6,104)])]),
 (111,[(0,[(1,40)])]),
 (113,[(1,[(2,142)]),(4,[(1,143)]),(5,[(1,144)])]),
 (115,[(1,[(2,145)])]),
 (117,[(4,[(0,146)]),(5,[(3,147)]),(7,[(0,146)]),(11,[(1,148)])]),
 (118,[(1,[(1,149)]),(3,[(1,150),(2,45)]),(9,[(6,151)]),(12,[(4,152),(11,151),(19,153),(27,153)])]),
 (119,[(1,[(1,154)]),(4,[(2,155)]),(6,[(1,148)]),(8,[(1,156)]),(9,[(8,157)]),(11,[(2,158),(5,158),(9,159)]),(12,[(12,160)])]),
 (120,[(1,[(4,161)])]),
 (121,[(1,[(1,122)]),(9,[(9,163),(19,163)]),(11,[(1,164)])]),
 (123,[(6,[(3,125)])]),
 (124,[(4,[(2,112)])]),
 (126,[(3,[(19,30)]),(5,[(13,30)])]),
 (127,[(1,[(2,55)])]),
 (129,[(1,[(8,130)])]),
 (130,[(1,[(5,165)]),(2,[(5,165)]),(3,[(5,165)])]),
 (131,[(1,[(1,254)]),(2,[(0,166)]),(3,[(1,168),(2,258)]),(4,[(1,170),(2,171),(3,169)])]),
 (132,[(1,[(1,99)]),(2,[(0,171)]),(3,[(1,168),(2,256)]),(4,[(1,134),(2,169)])]),
 (133,[(1,[(1,99)]),(2,[(0,171)]),(3,[(1,168),(2,167)]),(4,[(1,170),(2,166),(3,169)])]),
 (135,[(6,[(2,96)]),(11,[(3,94),(7,94)])]),
 (136,[(8,[(4,173)]),(9,[(2,96)]),(19,[(3,94)]),(21,[(1,94),(3,94)])]),
 (138,[(4,[(2,175)]),(5,[(2,176)]),(6,[(2,97)]),(7,[(1,137)]),(8,[(2,97)]),(9,[(1,137)])]),
 (139,[(4,[(5,141)])]),
 (142,[(8,[(10,177)]),(14,[(6,179),(7,178)]),(19,[(5,180)]),(22,[(7,178)])]),
 (144,[(6,[(9,181)]),(7,[(5,180)]),(12,[(14,182),(15,178)]),(13,[(18,183)])]),
 (146,[(2,[(1,184)]),(3,[(5,186),(6,185)]),(4,[(1,184)]),(5,[(1,187)])]),
 (147,[(1,[(1,186)])]),
 (148,[(1,[(2,188)]),(4,[(2,188)])]),
 (149,[(9,[(7,189)]),(12,[(3,189)])]),
 (154,[(1,[(1,191)]),(4,[(2,193),(3,192)])]),
 (156,[(1,[(1,194)]),(3,[(1,196),(3,195)])]),
 (157,[(5,[(3,198)])]),
 (158,[(10,[(2,158)])]),
 (159,[(3,[(4,270)]),(4,[(4,270)]),(5,[(5,201)])]),
 (160,[(13,[(6,202)])]),
 (161,[(1,[(2,203)])]),
 (165,[(1,[(9,30)])]),
 (166,[(1,[(0,171)])]),
 (167,[(1,[(2,255)]),(8,[(2,105)])]),
 (170,[(1,[(1,204)]),(2,[(1,206)])]),
 (173,[(3,[(1,61)])]),
 (178,[(2,[(5,180)])]),
 (181,[(1,[(7,177),(12,177)])]),
 (183,[(1,[(3,182)])]),
 (184,[(0,[(1,147)])]),
 (185,[(1,[(11,209)])]),
 (187,[(1,[(1,210)]),(4,[(1,184)]),(5,[(1,147)]),(6,[(1,184)]),(7,[(1,211)])]),
 (188,[(1,[(1,212)])]),
 (193,[(10,[(2,213)]),(17,[(8,213)]),(18,[(8,213)])]),
 (194,[(1,[(1,154)])]),
 (195,[(4,[(5,197)])]),
 (201,[(5,[(3,271)])]),
 (203,[(4,[(5,162)])]),
 (204,[(1,[(4,55),(6,215)])]),
 (205,[(2,[(4,57)]),(4,[(4,57)]),(5,[(4,216)])]),
 (206,[(6,[(10,207)]),(11,[(10,207)])]),
 (207,[(1,[(2,205)])]),
 (209,[(1,[(2,217)])]),
 (210,[(1,[(1,186)]),(2,[(1,185)]),(9,[(1,146)]),(10,[(4,147)]),(11,[(1,209)])]),
 (211,[(1,[(1,147)]),(3,[(1,147),(5,147)]),(5,[(1,147)]),(6,[(1,147),(4,147)]),(7,[(1,147),(5,186),(10,186)]),(9,[(1,186)]),(11,[(2,147)])]),
 (212,[(1,[(4,218)]),(7,[(5,212)])]),
 (215,[(4,[(4,219)]),(6,[(4,220)]),(8,[(4,221)]),(10,[(4,222)]),(12,[(4,223)]),(16,[(4,224)]),(17,[(13,205)]),(18,[(5,225)]),(20,[(5,226)]),(26,[(5,215)]),(29,[(6,215)])]),
 (216,[(7,[(3,205)])]),
 (219,[(4,[(14,205)])]),
 (220,[(6,[(5,228)]),(11,[(5,228)])]),
 (221,[(3,[(1,127)]),(7,[(0,128)])]),
 (222,[(8,[(3,229)]),(9,[(3,229)]),(10,[(3,229)]),(11,[(5,230)])]),
 (224,[(5,[(14,205)]),(16,[(10,205)]),(22,[(10,205)])]),
 (225,[(3,[(13,205)]),(5,[(13,205)])]),
 (226,[(3,[(13,205)]),(5,[(13,205)]),(13,[(13,205)]),(15,[(13,205)])]),
 (228,[(3,[(19,205)]),(5,[(13,205)])]),
 (229,[(1,[(8,230)])]),
 (230,[(1,[(5,231)]),(2,[(5,231)]),(3,[(5,231)])]),
 (231,[(1,[(9,205)])]),
 (254,[(1,[(2,255)])]),
 (255,[(4,[(5,105)])]),
 (256,[(1,[(2,257)]),(8,[(2,172)])]),
 (257,[(4,[(5,172)])]),
 (258,[(1,[(2,139)]),(8,[(2,141)])]),
 (260,[(5,[(4,112),(6,108)])]),
 (262,[(5,[(4,112),(6,111)])]),
 (263,[(5,[(4,112),(6,110)])]),
 (264,[(5,[(4,112),(6,109)])]),
 (265,[(5,[(4,112),(6,103)])]),
 (266,[(5,[(4,112),(6,106)])]),
 (267,[(5,[(4,112),(6,107)])]),
 (268,[(1,[(2,269)])]),
 (269,[(4,[(5,64)])]),
 (270,[(1,[(3,200)]),(5,[(3,270)])]),
 (271,[(1,[(3,214)]),(5,[(3,271)])])]
def ay5:List (Nat×List (Nat×(Shape×List (Out×Shape)))):=[(3,[(161,Wn)]),
 (12,[(687,VI),(209,VJ),(129,VK)]),
 (14,[(81,VM)]),
 (15,[(81,YV)]),
 (20,[(177,Un)]),
 (22,[(97,VW),(49,VX)]),
 (23,[(81,V0),(209,V1),(273,V2),(145,V3)]),
 (24,[(241,V5),(209,V6),(145,V7),(65,V8)]),
 (25,[(161,VU),(81,VV)]),
 (26,[(225,YW),(145,YX)]),
 (28,[(97,U4)]),
 (35,[(49,YY)]),
 (36,[(49,aw2)]),
 (37,[(161,YZ),(81,Y0),(321,Y1)]),
 (39,[(65,aw3)]),
 (46,[(49,Um)]),
 (47,[(129,Y2)]),
 (49,[(97,aw4),(49,aw5)]),
 (50,[(161,Ve),(81,Vf)]),
 (51,[(49,U7),(129,U8)]),
 (54,[(639,Wc),(911,Wd),(1215,We),(33,Wf)]),
 (56,[(49,U0)]),
 (59,[(321,aw6)]),
 (61,[(81,aw7)]),
 (64,[(161,aw8)]),
 (65,[(97,Y3),(177,Y4)]),
 (66,[(81,Y5),(273,Y6),(209,Y7),(161,Y8)]),
 (67,[(49,aw9)]),
 (68,[(65,axa),(161,axb)]),
 (69,[(49,axc)]),
 (71,[(49,axd),(17,axe)]),
 (72,[(175,axf)]),
 (73,[(161,Y9),(113,Za)]),
 (74,[(145,Zb),(321,Zc),(225,Zd),(481,Ze),(417,Zf)]),
 (76,[(49,Zg)]),
 (77,[(145,Zh)]),
 (81,[(81,UT)]),
 (82,[(65,Wa),(17,Wb)]),
 (83,[(65,axg),(129,axh)]),
 (84,[(735,axi),(81,axj)]),
 (85,[(591,axk),(559,axl)]),
 (86,[(33,axm)]),
 (87,[(81,axn),(225,axo),(1055,axp),(321,axq),(49,axr)]),
 (88,[(49,axs),(81,axt),(50,axu)]),
 (89,[(49,axv),(81,axw),(209,axx),(241,axy),(210,axz)]),
 (91,[(79,axA),(143,axB)]),
 (93,[(81,axC)]),
 (96,[(399,axD)]),
 (97,[(463,axE),(367,axF),(239,axG),(175,axH),(111,axI)]),
 (100,[(161,Zi),(81,Zj)]),
 (104,[(17,axJ)]),
 (110,[(17,axK)]),
 (111,[(33,axL)]),
 (113,[(65,Zk)]),
 (118,[(113,Zl)]),
 (121,[(81,Zm),(33,Zn)]),
 (122,[(49,Zo)]),
 (123,[(65,UU)]),
 (124,[(33,UQ)]),
 (126,[(655,axM),(17,axN)]),
 (135,[(65,axO)]),
 (136,[(81,axP),(225,axQ)]),
 (138,[(303,axR),(17,axS)]),
 (139,[(33,axT)]),
 (142,[(97,Zp),(1167,Zq),(1711,Zr),(257,Zs)]),
 (144,[(1263,Zt),(65,Zu)]),
 (145,[(33,Zv)]),
 (146,[(49,axU)]),
 (149,[(113,Zw)]),
 (150,[(113,Zx),(49,Zy)]),
 (151,[(65,Zz)]),
 (152,[(65,ZA)]),
 (153,[(65,ZB)]),
 (155,[(49,ZC),(209,ZD),(161,ZE)]),
 (157,[(49,axV)]),
 (158,[(129,axW)]),
 (159,[(161,ZF),(113,ZG)]),
 (160,[(177,ZH),(97,ZI),(49,ZJ)]),
 (163,[(319,ZK),(65,ZL)]),
 (164,[(33,ZM)]),
 (167,[(81,axX)]),
 (168,[(49,axY)]),
 (177,[(65,ZN)]),
 (179,[(81,ZO)]),
 (180,[(49,ZP)]),
 (181,[(81,ZQ)]),
 (184,[(1,axZ)]),
 (187,[(81,ax0)]),
 (189,[(33,ZR)]),
 (191,[(177,ZS),(97,ZT)]),
 (192,[(193,ZU),(129,ZV),(49,ZW)]),
 (193,[(241,ZX),(177,ZY),(97,ZZ)]),
 (195,[(33,Z0)]),
 (196,[(49,Z1)]),
 (197,[(33,Z2)]),
 (200,[(143,ax1)]),
 (201,[(49,ax2)]),
 (202,[(33,Z3),(113,Z4),(177,Z5)]),
 (203,[(33,Z6)]),
 (206,[(145,ax3),(65,ax4)]),
 (212,[(81,ax5)]),
 (215,[(639,ax6),(911,ax7),(1215,ax8),(33,ax9)]),
 (216,[(33,aya)]),
 (219,[(65,ayb),(17,ayc)]),
 (220,[(65,ayd),(129,aye)]),
 (221,[(735,ayf),(81,ayg)]),
 (222,[(591,ayh),(559,ayi)]),
 (223,[(33,ayj)]),
 (224,[(81,ayk),(225,ayl),(1055,aym),(321,ayn),(49,ayo)]),
 (225,[(49,ayp),(81,ayq),(50,ayr)]),
 (226,[(49,ays),(81,ayt),(209,ayu),(241,ayv),(210,ayw)]),
 (228,[(655,ayx),(17,ayy)]),
 (255,[(33,ayz)]),
 (256,[(81,ayA)]),
 (257,[(33,ayB)]),
 (258,[(81,ayC)]),
 (260,[(49,ayD),(17,ayE)]),
 (262,[(49,ayF),(17,ayG)]),
 (263,[(49,ayH),(17,ayI)]),
 (264,[(49,ayJ),(17,ayK)]),
 (265,[(49,ayL),(17,ayM)]),
 (266,[(49,ayN),(17,ayO)]),
 (267,[(49,ayP),(17,ayQ)]),
 (269,[(33,ayR)]),
 (270,[(49,ayS)]),
 (271,[(49,ayT)])]
def ay6:List (Nat×List (Nat×List Nat)):=[(23,[(7,[41,42])]),
 (24,[(22,[71,72])]),
 (25,[(13,[49,50])]),
 (42,[(11,[46])]),
 (51,[(1,[9])]),
 (68,[(8,[42])]),
 (73,[(5,[26])]),
 (74,[(7,[42]),(24,[158])]),
 (150,[(1,[16])]),
 (159,[(5,[31])]),
 (163,[(1,[7])]),
 (167,[(12,[41])]),
 (206,[(15,[64])]),
 (256,[(12,[41])]),
 (258,[(12,[41])])]
def RO(k:Nat):FuncId:=(fP ayU k).getD 0
def lY:dz where
 ky:=RO
 sin:=fun k=>(fP ayV k).getD ⟨[],[]⟩
 jw:=fun k=>(fP ayW k).getD ⟨[],[]⟩
 live:=fun k r=>(fP ((fP ayZ (RO k)).getD []) r).getD []
 join:=fun k r=>(fP ((fP ay0 (RO k)).getD []) r).getD []
 blk:=fun k r=>(fP ((fP ay1 (RO k)).getD []) r).getD []
 pur:=fun k r=>(fP ((fP ay2 k).getD []) r).getD []
 AX:=fun k=>(fP ay3 k).getD []
 alt:=fun k=>fP ayX k
 nst:=fun k r=>(fP ((fP ay6 k).getD []) r).getD []
 ck:=fun k r i=>(fP ((fP ((fP ay4 k).getD []) r).getD []) i).getD 0
 kQ:=fun k x=>fP ((fP ay5 k).getD []) x
 um:=[]
 M6:=fun _=>0
 ext:=fun f=>bif Nat.beq f 174 then some 170 else bif Nat.beq f 227 then some 999999 else none
 uo:=fun f=>bif Nat.beq f 114 then some 3 else bif Nat.beq f 190 then some 4 else none
 idle:=fun f=>false
 mv:=fun k=>(fP ([(34,[1,2]),(35,[1,2]),(36,[1,2]),(60,[1,2]),(74,[2]),(79,[1]),(97,[1]),(98,[1]),(103,[2]),(107,[3]),(109,[2]),(120,[2]),(121,[2]),(122,[2]),(137,[1]),(138,[1]),(140,[1]),(143,[1,2,3,4,5,6,8,9,10]),(144,[1,2,3,4,5,6,8,9,10]),(164,[2]),(175,[1]),(178,[2,3,4,5,6,8,9,10]),(182,[2,3,4,5,6,8,9,10]),(183,[2,3,4,5,6,8,9,10]),(213,[2,3]),(253,[1]),(261,[1]),(264,[2]),(265,[2]),(267,[3])]:List (Nat×List Nat)) k).getD []
 aC:=fun g=>bif Nat.beq g 0 then .pref [5,5,5,5,5,5,5,5,5,5,5,5,5,5,5,5,5,5,5,5,5,5,5,5,5,5,5,5,5,5,5,5,5,5,5,5,5,5,5,5,5,5,5,5,5,5,5,5,5,5,5,5,5,5,5,5,5,5,5,5,5,5,5,5] By else .undef
noncomputable abbrev PG:Program:=Tryz.prog
noncomputable abbrev CC:af:=Call Tryz.prog lY
noncomputable abbrev Lp(p:List Nat)(k:Nat):rL:= .loop (yF p (vM PG (lY.ky k)))
noncomputable abbrev Cd(t:Nat)(p q:List Nat)(k:Nat):rL:= .cond t (yF p (vM PG (lY.ky k))) (yF q (vM PG (lY.ky k)))
abbrev bn(C:af)(L:cp)(k:Nat)(b:rL):Prop:=wS PG lY C L k (Hk PG (lY.ky k)) (lY.sin k).db.length b
end Go.AM
set_option maxRecDepth 100000
namespace Go.AM
open Go.IntKind (wrap)
open Go.Proofs Go.RowKit
set_option maxHeartbeats 1000000 in
theorem ay7(hP:Ch Tryz.prog):Qr Tryz.prog 114 3:=by
 refine⟨fun args w=>MuLone.run_callFunc_enter Tryz.func114 (hP _ _ Tryz.func114) (by kernel_rfl:Tryz.f114.body=some (vM Tryz.prog 114)) _ _,22,by kernel_rfl,?_⟩;intro s w Q h1 h2 h3;have hu:Tryz.prog.underlying 22=some (.slice 3):=by kernel_rfl
 go_enter Tryz.func114,Tryz.ntmps114
 rcases h3 with rfl|⟨a,n,c,rfl⟩
 ·go_wp2
  rw[run_eql_slice_nil w 22 3 none 0 0 hu];simp only[Result.andThen];rw[Oper.upon_value]
  go_wp2
  exact trivial
 ·go_wp2
  rw[run_eql_slice_nil w 22 3 (some a) n c hu];simp only[Result.andThen];rw[Oper.upon_value]
  iterate 17 go_step
  obtain⟨v,w',hv,hQ⟩:=h2 _ _ _ rfl;unfold Oper.wp;simp[execOp,resolve,invoke,Act.eval,hv,builtin];rw[Oper.upon_value]
  go_wp2
  exact hQ
set_option maxHeartbeats 1000000 in
theorem ay8(hP:Ch Tryz.prog):Qr Tryz.prog 190 4:=by
 refine⟨fun args w=>MuLone.run_callFunc_enter Tryz.func190 (hP _ _ Tryz.func190) (by kernel_rfl:Tryz.f190.body=some (vM Tryz.prog 190)) _ _,23,by kernel_rfl,?_⟩;intro s w Q h1 h2 h3;have hu:Tryz.prog.underlying 23=some (.slice 4):=by kernel_rfl
 go_enter Tryz.func190,Tryz.ntmps190
 rcases h3 with rfl|⟨a,n,c,rfl⟩
 ·go_wp2
  rw[run_eql_slice_nil w 23 4 none 0 0 hu];simp only[Result.andThen];rw[Oper.upon_value]
  go_wp2
  exact trivial
 ·go_wp2
  rw[run_eql_slice_nil w 23 4 (some a) n c hu];simp only[Result.andThen];rw[Oper.upon_value]
  iterate 17 go_step
  obtain⟨v,w',hv,hQ⟩:=h2 _ _ _ rfl;unfold Oper.wp;simp[execOp,resolve,invoke,Act.eval,hv,builtin];rw[Oper.upon_value]
  go_wp2
  exact hQ
theorem ay9(hP:Ch PG)(f:FuncId)(e:TypeId)(h:lY.uo f=some e):Qr PG f e:=by
 have h1:lY.uo f=bif Nat.beq f 114 then some 3 else bif Nat.beq f 190 then some 4 else none:=by kernel_rfl
 rw[h1]at h;cases RP:Nat.beq f 114 with
 |true=>
  rw[RP]at h;rw[aN]at RP;cases h;subst RP;exact ay7 hP
 |false=>
 rw[RP]at h;simp only[cond_false]at h;cases RQ:Nat.beq f 190 with
 |true=>
  rw[RQ]at h;rw[aN]at RQ;cases h;subst RQ;exact ay8 hP
 |false=>
 rw[RQ]at h;simp only[cond_false]at h;cases h
theorem aza{w:World}{b:Nat}{C:Array Value}{T:TypeId}(h:w.heap[b]? =some (.cells C T (0,0))):w.shape? b=some (T,C.size)∧w.frozen? ⟨b,0,none⟩=false∧w.cell? ⟨b,0,none⟩=C[0]? :=by
 refine⟨by simp[World.shape?,h],by simp[World.frozen?,h],cell?_cells h⟩
set_option maxHeartbeats 1000000 in
theorem azb(b:Nat)(w:World)(h0:w.cell? ⟨b,0,none⟩=some (.pointer (some ⟨b,0,none⟩))):
  Calls Tryz.prog 174 #[.pointer (some ⟨b,0,none⟩)] w fun e w'=>e= .returned (.tuple #[])∧w'=w:=by
 obtain⟨j,hj⟩:=DB.1 (show(Tryz.prog.info? 170).isSome=true by kernel_rfl);have hu:Tryz.prog.underlying 168=some (.pointer 170):=by kernel_rfl
 go_enter Tryz.func174,Tryz.ntmps174
 go_wp2
 rw[Lib.run_neq_ptr_same w _ hu hj]
 go_wp2
 go_end0
 exact⟨rfl,rfl⟩
set_option maxHeartbeats 1000000 in
theorem azc(b n:Nat)(w:World)(hn:0<n)(h0:w.cell? ⟨b,0,none⟩=some (.pointer none))(Qh:w.shape? b=some (170,n))(Fk:w.frozen? ⟨b,0,none⟩=false)(hl:liesAt Tryz.prog Tryz.prog.depth 170 (n/Tryz.prog.cellsOf 170) 0 170 1=true):
  Calls Tryz.prog 174 #[.pointer (some ⟨b,0,none⟩)] w fun e w'=>e= .returned (.tuple #[])∧w'=w.setCell ⟨b,0,none⟩ (.pointer (some ⟨b,0,none⟩)):=by
 obtain⟨j,hj⟩:=DB.1 (show(Tryz.prog.info? 170).isSome=true by kernel_rfl);have hjs:j.size≠0:=by
  have h2:(Tryz.prog.info? 170).map (·.size)=some 2:=by kernel_rfl
  rw[hj]at h2;simp at h2;omega
 have hu:Tryz.prog.underlying 168=some (.pointer 170):=by kernel_rfl
 have sM:Tryz.prog.underlying 292=some .unsafePointer:=by kernel_rfl
 go_enter Tryz.func174,Tryz.ntmps174
 go_wp2
 rw[Lib.run_to_unsafe w ⟨b,0,none⟩ hu sM hj hjs Qh hn];simp only[Result.andThen];rw[Oper.upon_value]
 go_wp2
 rw[run_callFunc_extern Tryz.func208 (by kernel_rfl) (by kernel_rfl) (by kernel_rfl) (e:=Extern.AbiNoEscape.same) (by kernel_rfl)];rw[Lib.run_noEscape];simp only[Result.andThen];rw[Oper.upon_value]
 go_wp2
 rw[Lib.run_from_unsafe w ⟨b,0,none⟩ sM hu hj Qh hl];simp only[Result.andThen];rw[Oper.upon_value]
 go_wp2
 go_end0
 exact⟨rfl,rfl⟩
theorem azd(hP:Ch Tryz.prog):lR Tryz.prog lY where
 count:=hP
 uo:=ay9 hP
 ext:=by
  intro f T h b C w hh hs hc;have hf:f=174∧T=170:=by
   have h1:lY.ext f=bif Nat.beq f 174 then some 170 else bif Nat.beq f 227 then some 999999 else none:=by kernel_rfl
   rw[h1]at h;cases hb:Nat.beq f 174 with
   |true=>rw[hb]at h;rw[aN]at hb;exact⟨hb,(eX h).symm⟩
   |false=>
    rw[hb]at h;simp only[cond_false]at h;cases fh:Nat.beq f 227 with
    |true=>
     rw[fh]at h;obtain rfl:999999=T:=eX h;have h0:C.size=0:=hs.trans (by kernel_rfl)
     have h2:C[0]? =none:=Array.getElem?_eq_none (by omega);rw[h2]at hc;simp at hc
    |false=>rw[fh]at h;cases h
  obtain⟨rfl,rfl⟩:=hf;obtain⟨h1,h2,h3⟩:=aza hh;refine⟨MuLone.run_callFunc_enter Tryz.func174 (hP _ _ Tryz.func174) (by kernel_rfl:Tryz.f174.body=some (vM Tryz.prog 174)) _ _,?_⟩;have gu:Tryz.prog.cellsOf 170=2:=by kernel_rfl
  rcases hc with hc|hc
  ·refine(azc b C.size w (by omega) (h3.trans hc) h1 h2 (by rw[hs,gu];kernel_rfl)).mono ?_;rintro e w' ⟨rfl,rfl⟩;exact⟨rfl,.inr rfl⟩
  ·refine(azb b w (h3.trans hc)).mono ?_;rintro e w' ⟨rfl,rfl⟩;exact⟨rfl,.inl rfl⟩
 Xu:=by
  intro f T h h0 s c w;have h1:lY.ext f=bif Nat.beq f 174 then some 170 else bif Nat.beq f 227 then some 999999 else none:=by kernel_rfl
  rw[h1]at h;have gu:Tryz.prog.cellsOf 170=2:=by kernel_rfl
  cases hb:Nat.beq f 174 with
  |true=>
   rw[hb]at h;obtain rfl:170=T:=eX h;omega
  |false=>
   rw[hb]at h;simp only[cond_false]at h;cases fh:Nat.beq f 227 with
   |true=>
    rw[aN]at fh;subst fh;rw[run_callFunc_extern Tryz.func227 (by kernel_rfl) (by kernel_rfl) (by kernel_rfl) (e:=Extern.BytealgIndexByte.indexByte) (by kernel_rfl)];simp[Lib.run_indexByteString]
   |false=>rw[fh]at h;cases h
 idle:=by
  intro f h;have h1:lY.idle f=false:=by kernel_rfl
  rw[h1]at h;cases h
end Go.AM
set_option maxRecDepth 100000
namespace Go.AM
open Go.IntKind (wrap)
open Go.Proofs Go.Proofs.YtmknicoledcapaaGreatDoor Go.Lib Go.MakeChecks
def yR:List Int:=[0,1,56,2,57,49,28,3,61,58,42,50,38,29,17,4,62,47,59,36,45,43,51,22,53,39,33,30,24,18,12,5,63,55,48,27,60,41,37,16,46,35,44,21,52,32,23,11,54,26,40,15,34,20,31,10,25,14,19,9,13,8,7,6]
theorem aze:By=yR.map fun z=> .int .u8 z:=by kernel_rfl
theorem azf:Rows.laid_math_bits_deBruijn64tab (H:=Unit)=tabData .u8 yR:=by kernel_rfl
def K3 : List (String×DataW Unit) := [("math/bits.deBruijn64tab", Rows.laid_math_bits_deBruijn64tab)]
theorem amu{W:World}(h:laidMetH Tryz.prog K3 W):ly Tryz.prog lY.aC W (rK W):=by
 have h1 : laidMetH Tryz.prog [("math/bits.deBruijn64tab", tabData .u8 yR)] W := by
  have : K3 = [("math/bits.deBruijn64tab", tabData .u8 yR)] := by unfold K3; rw [azf]
  rwa [this]at h
 rw[laidMetH_plain _ _ _ (by kernel_rfl)] at h1;have hn : Tryz.prog.globalNamed "math/bits.deBruijn64tab" = some 0 := by kernel_rfl
 have ht:=tabIs_of_head (g:=0) (t:=219) (e:=5) (n:=64) hn (by kernel_rfl) (by kernel_rfl) (by kernel_rfl) (by kernel_rfl) (by kernel_rfl) h1;have hlen:yR.length=64:=by kernel_rfl
 have hc:∀i,i<64→W.cell? ⟨0,i,none⟩=some (.int .u8 (yR.getD i 0)):=fun i hi=>ht.cell hn i (by rw[hlen];exact hi);intro g;have hg:lY.aC g=bif Nat.beq g 0 then .pref (List.replicate 64 5) By else .undef:=by kernel_rfl
 rw[hg];cases hb:Nat.beq g 0 with
 |false=>exact .inl rfl
 |true=>
  rw[aN]at hb;subst hb;refine .inr ⟨List.replicate 64 5,By,rfl,by kernel_rfl,fun _ _=> ?_,fun j t x hj hx=> ?_⟩
  ·have h0:=hc 0 (by omega);unfold rK;unfold World.cell? at h0;by_cases hz:0<W.heap.size
   ·exact hz
   ·have:W.heap[0]? =none:=Array.getElem?_eq_none (by omega);simp[this]at h0
  ·have RR:j<64:=by
    have:=(cw.1 hj).1;simpa using this
   rw[MQ,aF RR]at hj;cases hj;rw[aze,jX]at hx;have lM:yR[j]? =some (yR.getD j 0):=by
    rw[bX (by rw[hlen];exact RR)];simp[List.getD,bX (show j<yR.length by rw[hlen];exact RR)]
   rw[lM]at hx;cases hx;exact⟨_,by simpa using hc j RR,.int (by kernel_rfl)⟩
theorem own:ownKnob Tryz.prog.godebug=none:=by kernel_rfl
theorem azg:Ch Tryz.prog:=auV (by kernel_rfl)
theorem mixed:Tryz.prog.follows .mixedOrders=true:=by kernel_rfl
theorem amt:lR Tryz.prog lY:=azd azg
noncomputable def abB(os:Os):World:=World.laidAll Tryz.prog os K3
theorem amr(os:Os)(args:Array Value):laidMetH Tryz.prog K3 ((abB os).forCall (fun _ _=>0) ⟨#[],args,[]⟩).memory:=by
 rw[laidMetH_plain _ _ _ (by kernel_rfl)];exact laidMet_laidAll args (by kernel_rfl) (by kernel_rfl)
end Go.AM
namespace Go.AM
open Go.IntKind (wrap)
theorem wrap_u64(n:Int):IntKind.u64.wrap n=n %18446744073709551616:=by simp[IntKind.wrap,IntKind.bits,IntKind.signed]
theorem Ir{A:Nat}(h:A<2^64):wrap .u64 (A:Int)=A:=by
 rw[wrap_u64];omega
theorem RS{n A:Nat}(h:A<2^n):(BitVec.ofInt n (A:Int)).toNat=A:=by
 rw[BitVec.ofInt_natCast,BitVec.toNat_ofNat];exact GU h
theorem azh{n A B:Nat}(hA:A<2^n)(hB:B<2^n):(BitVec.ofInt n (A:Int)|||BitVec.ofInt n (B:Int)).toNat=A|||B:=by
 rw[BitVec.toNat_or,RS hA,RS hB]
theorem bv_and{n A B:Nat}(hA:A<2^n)(hB:B<2^n):(BitVec.ofInt n (A:Int)&&&BitVec.ofInt n (B:Int)).toNat=A&&&B:=by
 rw[BitVec.toNat_and,RS hA,RS hB]
theorem azi{n A B:Nat}(hA:A<2^n)(i:Nat):(BitVec.ofInt n (A:Int)&&& ~~~ BitVec.ofInt n (B:Int)).toNat.testBit i=(A.testBit i&& !(B.testBit i)):=by
 rw[BitVec.testBit_toNat,BitVec.ofInt_natCast,BitVec.ofInt_natCast];by_cases hi:i<n
 ·simp only[BitVec.getLsbD_and,BitVec.getLsbD_not,BitVec.getLsbD_ofNat,hi,decide_true,Bool.true_and]
 ·have hf:A.testBit i=false:=Nat.testBit_lt_two_pow (lZ hA (zd (by omega) (by omega)));rw[hf,Bool.false_and,BitVec.getLsbD_of_ge _ _ (by omega)]
theorem u64_or{A B:Nat}(hA:A<2^64)(hB:B<2^64):wrap .u64 ((BitVec.ofInt (IntKind.bits .u64) (A:Int)|||BitVec.ofInt (IntKind.bits .u64) (B:Int)).toNat)=((A|||B:Nat):Int):=by
 rw[azh (n:=IntKind.bits .u64) hA hB];exact Ir (GM hA hB)
theorem u64_and{A B:Nat}(hA:A<2^64)(hB:B<2^64):wrap .u64 ((BitVec.ofInt (IntKind.bits .u64) (A:Int)&&&BitVec.ofInt (IntKind.bits .u64) (B:Int)).toNat)=((A&&&B:Nat):Int):=by
 rw[bv_and (n:=IntKind.bits .u64) hA hB];exact Ir (Dt Nat.and_le_left hA)
theorem u64_andNot{A:Nat}(B:Nat)(hA:A<2^64):∃D:Nat,D<2^64∧(∀i,D.testBit i=(A.testBit i&& !(B.testBit i)))∧
  wrap .u64 ((BitVec.ofInt (IntKind.bits .u64) (A:Int)&&& ~~~ BitVec.ofInt (IntKind.bits .u64) (B:Int)).toNat)=(D:Int):=
 ⟨(BitVec.ofInt (IntKind.bits .u64) (A:Int)&&& ~~~ BitVec.ofInt (IntKind.bits .u64) (B:Int)).toNat,BitVec.isLt _,fun i=>azi hA i,Ir (BitVec.isLt _)⟩
theorem Va{m:Nat}(h:m<64):wrap .u64 (1*2^(min m (IntKind.bits .u64)))=((2^m:Nat):Int):=by
 have e:min m (IntKind.bits .u64)=m:=GL (by show m≤64;omega);rw[e];have:(1*2^m:Int)=((2^m:Nat):Int):=by simp
 rw[this];exact Ir (xp (by omega) h)
theorem aoF{A m:Nat}(h:m<64):Int.fdiv (A:Int) (2^(min m (IntKind.bits .u64)))=((A/2^m:Nat):Int):=by
 have e:min m (IntKind.bits .u64)=m:=GL (by show m≤64;omega);rw[e];have:(2^m:Int)=((2^m:Nat):Int):=by simp
 rw[this,Int.fdiv_eq_ediv_of_nonneg _ (Int.natCast_nonneg _)];exact Int.natCast_ediv ..
end Go.AM
set_option maxRecDepth 100000
namespace Go.AM
open Go.IntKind (wrap)
open Go.Proofs
theorem ON:maxLen≤9223372036854775807:=by unfold maxLen;omega
theorem Is:aR=35184372088832:=by unfold aR;rfl
section
variable {α β:Type}{o:Option α}{a:α}{f:α→Option β}{r:Option β}{x y z:β}{b:Bool}
theorem bs(h:o=some a)(h2:f a=r):o.bind f=r:=by rw[h];exact h2
theorem bT(hb:b=true)(h:x=z):(bif b then x else y)=z:=by rw[hb];exact h
theorem bF(hb:b=false)(h:y=z):(bif b then x else y)=z:=by rw[hb];exact h
end
section
variable {X R A α:Type}{step:X→Option (X ⊕ R)}
theorem apl(l:List α)(s:Nat→A→X)(f:A→α→A)(r:A→R)(Inv:Nat→A→Prop)
  (h:∀(i:Nat) (a:A) (hi:i<l.length),Inv i a→step (s i a)=some (.inl (s (i+1) (f a l[i])))∧Inv (i+1) (f a l[i]))
  (he:∀a,Inv l.length a→step (s l.length a)=some (.inr (r a))) (a0:A) (h0:Inv 0 a0):
  Loop step (s 0 a0)=some (r (l.foldl f a0))∧Inv l.length (l.foldl f a0):=by
 have go:∀(k:Nat) (a:A),k≤l.length→Inv k a→Loop step (s k a)=some (r ((l.drop k).foldl f a))∧Inv l.length ((l.drop k).foldl f a):=by
  intro k;generalize hd:l.length-k=d
  induction d generalizing k with
  |zero=>
   intro a hk hi;have:k=l.length:=by omega
   subst this;simp only[List.drop_length,List.foldl_nil];exact⟨gH (he a hi),hi⟩
  |succ d ih=>
   intro a hk hi;have dK:k<l.length:=by omega
   obtain⟨h1,h2⟩:=h k a dK hi;rw[gp h1,ML dK,List.foldl_cons];grind
 grind
theorem U5(good:Nat→Prop)[DecidablePred good](n:Nat)(s:Nat→X)(bad ok:R)(h:∀i,i<n→step (s i)=some (if good i then .inl (s (i+1))else .inr bad))(he:step (s n)=some (.inr ok)):
  Loop step (s 0)=some (if∀i,i<n→good i then ok else bad):=by
 have go:∀(d k:Nat),k+d=n→((∀i,k≤i→i<n→good i)→Loop step (s k)=some ok)∧((¬∀i,k≤i→i<n→good i)→Loop step (s k)=some bad):=by
  intro d
  induction d with
  |zero=>
   intro k hk;have:k=n:=by omega
   subst this;exact⟨fun _=>gH he,fun hx=>absurd (fun i h1 h2=>by omega) hx⟩
  |succ d ih=>
   intro k hk;have h1:=h k (by omega);by_cases hg:good k
   ·rw[aF hg]at h1;rw[gp h1];grind
   ·rw[aD hg]at h1;rw[gH h1];grind
 obtain⟨g1,g2⟩:=go n 0 (by omega);grind
end
noncomputable def azj(C:af)(x:Int):Option LV:=
 some [vI 3,vI x,dd ([]:LV)]
theorem azk{x:Int}{r:Option LV}(h:azj CC x=r):CC 17 [vI x]=r:=bj (L:=bh) an h
noncomputable def azl(C:af)(op:Int)(kids:LV):Option LV:=
 some [vI op,vI 0,dd kids]
theorem aj8{op:Int}{kids:LV}{r:Option LV}(h:azl CC op kids=r):CC 16 [vI op,dd kids]=r:=bj (L:=bh) an h
noncomputable def CV(C:af)(mG mH:Int)(aE aH:LV)(bQ bY:Int)(aL aP aB:LV){β:Type}(kn:(Int×Int×LV×LV×LV)→Option β)(kr:((Int×Int×Int×LV×LV) ⊕ (Bool×Int×Int×LV×LV×LV))→Option β):Option β:=
 (C 34 [vI bQ,vI bY,dd aL,ah aP,dL aB]).bind fun r4=>
 bif !(gB r4)then
  (C 35 [vI (gI (r4.drop 1)),vI (gI ((r4.drop 1).drop 1)),dd (gL (((r4.drop 1).drop 2).drop 1)),ah (gL ((((r4.drop 1).drop 2).drop 1).drop 1)),dL (gL ((r4.drop 1).drop 2))]).bind fun r5=>
  bif ((gI r5):Int) != 0 then
  kr (.inl ((gI r5),0,0,([]:LV),([]:LV)))
  else
  kn ((gI (r5.drop 1)),(gI ((r5.drop 1).drop 1)),(gL (((r5.drop 1).drop 2).drop 1)),(gL ((((r5.drop 1).drop 2).drop 1).drop 1)),(gL ((r5.drop 1).drop 2)))
 else
  kr (.inr (!(gB r4),(gI (r4.drop 1)),(gI ((r4.drop 1).drop 1)),(gL (((r4.drop 1).drop 2).drop 1)),(gL ((((r4.drop 1).drop 2).drop 1).drop 1)),(gL ((r4.drop 1).drop 2))))
noncomputable def yS(C:af)(mG mH:Int)(aE aH:LV):=un fun bQ=>un fun bY=>un fun aL=>un fun aP aB=>CV C mG mH aE aH bQ bY aL aP aB (fun y=>some (Sum.inl y)) (fun r=>some (Sum.inr r))
noncomputable def azm(C:af):cp:=bz 81 YV [Q0,Q0,Q1,Q1,Q0,Q0,Q1,Q1,Q1] [[0,0,0,0,0],[0,1,2,0,0,5,6,0,0,0]] (@CV C) bh
theorem azn(C:af):bn C (azm C) 15 (Lp [1,1,1,0,0,0] 15):=bA YV [Q0,Q0,Q1,Q1,Q0,Q0,Q1,Q1,Q1] [[0,0,0,0,0],[0,1,2,0,0,5,6,0,0,0]] (@CV C) (ba an)
noncomputable def aj9(C:af)(pg ph:Int)(pj:LV)(aQ:Int):Option LV:=
 (C 31 [vI pg,vI ph,dd pj,vI aQ]).bind fun r1=>
 bif ((gI r1):Int) != 0 then
  some [vI 0,vI 0,vI (gI r1),av ([]:LV),ah ([]:LV)]
 else
  (C 33 [vI pg,vI ph,dd pj]).bind fun r2=>
  (C 32 [vI (gI r2),vI (gI (r2.drop 1)),dd (gL ((r2.drop 1).drop 1)),vI aQ]).bind fun r3=>
  (Loop (yS C 0 0 ([]:LV) ([]:LV)) ((gI r3),(gI (r3.drop 1)),(gL (r3.drop 2)),(gL ((r3.drop 2).drop 1)),(gL (((r3.drop 2).drop 1).drop 1)))).bind (ed (un fun jD=>un fun Z8=>un fun azo=>un fun(BP:LV) (pq:LV)=>
   some [vI Z8,vI azo,vI jD,av BP,ah pq]) (un fun(BN:Bool)=>un fun Z9=>un fun aaa=>un fun(pz:LV)=>un fun(sA:LV) (yh:LV)=>
   (C 36 [vI Z9,vI aaa,dd pz,ah sA,dL yh]).bind fun EG=>
   some [vI (gI EG),vI (gI (EG.drop 1)),vI 0,av (gL (((EG.drop 2).drop 2).drop 1)),ah (gL ((((EG.drop 2).drop 2).drop 1).drop 1))]))
theorem azp{pg ph:Int}{pj:LV}{aQ:Int}{r:Option LV}(h:aj9 CC pg ph pj aQ=r):CC 15 [vI pg,vI ph,dd pj,vI aQ]=r:=bj (bp (azn CC) an) h
noncomputable def azq(C:af)(bQ bY:Int)(aT aE aH:LV):Option LV:=
 some [.bool (bY==(aT.length:Int)),vI bQ,vI bY,dL aH,dd aT,ah aE]
theorem RT{bQ bY:Int}{aT aE aH:LV}{r:Option LV}(h:azq CC bQ bY aT aE aH=r):CC 34 [vI bQ,vI bY,dd aT,ah aE,dL aH]=r:=bj (L:=bh) an h
noncomputable def yT(C:af)(t16 t17 bQ bY:Int)(aH rows aP aB:LV){β:Type}(kn:(Int×Int×Int×LV×LV×LV×LV)→Option β)(kr:((Int×Int×Int×LV×LV×LV) ⊕ (Int×Bool×Int×Int×LV×LV×LV×LV))→Option β):Option β:=
 bif decide (t17<t16)then
  aA aP bY fun x1=>
  (C 62 [vI ((x1.cell 0).toInt),vI ((x1.cell 1).toInt),dd ((x1.cell 2).toList),vI t17]).bind fun r2=>
  bif ((gI (r2.drop 3)):Int) != 0 then
  kr (.inl ((gI (r2.drop 3)),bQ,bY,aH,aP,aB))
  else
  (C 63 [vI (gI r2),vI (gI (r2.drop 1)),dd (gL ((r2.drop 1).drop 1))]).bind fun r3=>
  bif Nat.ble ((gS r3).length) maxLen&&true then
   bif !(gq (.str (gS r3)) aH)then
   bif (aP.length:Int)==512 then
    kr (.inl (3,bQ,bY,aH,aP,aB))
   else
    (C 60 [vI (gI r2),vI (gI (r2.drop 1)),dd (gL ((r2.drop 1).drop 1)),vI bQ,vI bY,dd aP,ah aB,dL aH]).bind fun r4=>
    aA rows t17 fun x5=>
    kn (wrap .i64 (t17+1),(gI (r4.drop 1)),(gI ((r4.drop 1).drop 1)),(gL ((r4.drop 1).drop 2)),bc rows t17 (vI (gI r4)),(gL (((r4.drop 1).drop 2).drop 1)),(gL ((((r4.drop 1).drop 2).drop 1).drop 1)))
   else
   aA rows t17 fun x6=>
   kn (wrap .i64 (t17+1),bQ,bY,aH,bc rows t17 (vI ((kz (.str (gS r3)) aH (vI 0)).toInt)),aP,aB)
  else none
 else
  kr (.inr (t17,decide (t17<t16),bQ,bY,aH,rows,aP,aB))
noncomputable def sY(C:af)(t16:Int):=un fun t17=>un fun bQ=>un fun bY=>un fun aH=>un fun rows=>un fun aP aB=>yT C t16 t17 bQ bY aH rows aP aB (fun y=>some (Sum.inl y)) (fun r=>some (Sum.inr r))
noncomputable def azr(C:af):cp:=bz 49 YY [Q0,Q1,Q1,Q1,Q1,Q1,Q1,Q1] [[0,0,0,0,0,0],[1,0,0,0,0,0,0,0,0]] (@yT C) bh
theorem azs(C:af):bn C (azr C) 35 (Lp [1,1,0,1,0,0] 35):=bA YY [Q0,Q1,Q1,Q1,Q1,Q1,Q1,Q1] [[0,0,0,0,0,0],[1,0,0,0,0,0,0,0,0]] (@yT C) (ba an)
noncomputable def RU(C:af)(bQ bY:Int)(aT aE aH:LV):Option LV:=
 bif (decide (0≤bQ))&&((decide (bQ≤bQ))&&(Nat.ble ((bQ.toNat)*8) aR))then
  (Loop (sY C ((List.replicate (bQ.toNat) (vI 0)).length:Int)) (0,bQ,bY,aH,List.replicate (bQ.toNat) (vI 0),aT,aE)).bind (ed (un fun ng=>un fun zX=>un fun BP=>un fun(pq:LV)=>un fun(yg:LV) (Ja:LV)=>
   some [vI ng,vI zX,vI BP,dL pq,dd yg,ah Ja]) (un fun yb=>un fun(wb:Bool)=>un fun K4=>un fun K5=>un fun(sD:LV)=>un fun(aka:LV)=>un fun(p9:LV) (rE:LV)=>
   bif Nat.ble ((rE.length+([ab aka]:LV).length)*24) aR then
   some [vI 0,vI K4,vI (wrap .i64 (K5+1)),dL sD,dd p9,ah (rE++([ab aka]:LV))]
   else none))
 else none
theorem aab{bQ bY:Int}{aT aE aH:LV}{r:Option LV}(h:RU CC bQ bY aT aE aH=r):CC 35 [vI bQ,vI bY,dd aT,ah aE,dL aH]=r:=bj (bp (azs CC) an) h
noncomputable def akb(C:af):Option LV:=
 (C 17 [vI 0]).bind fun r1=>
 (C 17 [vI 1]).bind fun r2=>
 (C 16 [vI 5,dd ([.agg [vI (gI r1),vI (gI (r1.drop 1)),dd (gL (r1.drop 2))],.agg [vI (gI r2),vI (gI (r2.drop 1)),dd (gL (r2.drop 2))]]:LV)]).bind fun r3=>
 (C 16 [vI 7,dd ([.agg [vI (gI r3),vI (gI (r3.drop 1)),dd (gL ((r3.drop 1).drop 1))]]:LV)]).bind fun r4=>
 (C 15 [vI (gI r4),vI (gI (r4.drop 1)),dd (gL ((r4.drop 1).drop 1)),vI 2]).bind fun r5=>
 bif ((gI (r5.drop 2)):Int)==0 then
  (C 18 [vI (gI r5),vI (gI (r5.drop 1)),av (gL (r5.drop 3)),ah (gL ((r5.drop 3).drop 1))]).bind fun r6=>
  bif (((gL (r6.drop 2)).length:Int):Int)==3 then
  (C 17 [vI 0]).bind fun r7=>
  (C 19 [vI (gI r7),vI (gI (r7.drop 1)),dd (gL (r7.drop 2)),.str [97]]).bind fun r8=>
  some [.bool (gB r8)]
  else
  some [.bool false]
 else
  some [.bool false]
theorem azt{r:Option LV}(h:akb CC=r):CC 6 []=r:=bj (L:=bh) an h
def kA:V:=dd [.agg [vI 5,vI 0,dd [.agg [vI 3,vI 0,dd []],.agg [vI 3,vI 1,dd []]]]]
def kB:V:=dd [.agg [vI 3,vI 1,dd []],.agg [vI 7,vI 0,kA]]
def kE:LV:=[.agg [vI 7,vI 0,kA],.agg [vI 5,vI 0,kB],.agg [vI 1,vI 0,dd []]]
def kM:LV:=[.bf [.str [40,97,98,41,42],vI 0],.bf [.str [98,40,97,98,41,42],vI 1],.bf [.str [48],vI 2]]
def kF:V:=av [.bool true,.bool false,.bool false]
def kN:V:=ah [ab [vI 1,vI 2],ab [vI 2,vI 0],ab [vI 2,vI 2]]
theorem azu:CC 31 [vI 7,vI 0,kA,vI 2]=some [vI 0]:=e8 (N:=60) (n:=30) (by kernel_rfl)
theorem azv:CC 33 [vI 7,vI 0,kA]=some [vI 7,vI 0,kA]:=e8 (N:=60) (n:=30) (by kernel_rfl)
theorem azw:CC 32 [vI 7,vI 0,kA,vI 2]=some [vI 2,vI 0,dd [.agg [vI 7,vI 0,kA]],ah [],dL [.bf [.str [40,97,98,41,42],vI 0]]]:=e8 (N:=60) (n:=30) (by kernel_rfl)
theorem azx:CC 62 [vI 7,vI 0,kA,vI 0]=some [vI 5,vI 0,kB,vI 0]:=e8 (N:=60) (n:=30) (by kernel_rfl)
theorem azy:CC 63 [vI 5,vI 0,kB]=some [.str [98,40,97,98,41,42]]:=e8 (N:=60) (n:=30) (by kernel_rfl)
theorem azz:CC 60 [vI 5,vI 0,kB,vI 2,vI 0,dd [.agg [vI 7,vI 0,kA]],ah [],dL [.bf [.str [40,97,98,41,42],vI 0]]]=some [vI 1,vI 2,vI 0,dL [.bf [.str [40,97,98,41,42],vI 0],.bf [.str [98,40,97,98,41,42],vI 1]],dd [.agg [vI 7,vI 0,kA],.agg [vI 5,vI 0,kB]],ah []]:=e8 (N:=60) (n:=30) (by kernel_rfl)
theorem azA:CC 62 [vI 7,vI 0,kA,vI 1]=some [vI 1,vI 0,dd [],vI 0]:=e8 (N:=60) (n:=30) (by kernel_rfl)
theorem azB:CC 63 [vI 1,vI 0,dd []]=some [.str [48]]:=e8 (N:=60) (n:=30) (by kernel_rfl)
theorem azC:CC 60 [vI 1,vI 0,dd [],vI 2,vI 0,dd [.agg [vI 7,vI 0,kA],.agg [vI 5,vI 0,kB]],ah [],dL [.bf [.str [40,97,98,41,42],vI 0],.bf [.str [98,40,97,98,41,42],vI 1]]]=some [vI 2,vI 2,vI 0,dL kM,dd kE,ah []]:=e8 (N:=60) (n:=30) (by kernel_rfl)
theorem azD:CC 35 [vI 2,vI 0,dd [.agg [vI 7,vI 0,kA]],ah [],dL [.bf [.str [40,97,98,41,42],vI 0]]]=some [vI 0,vI 2,vI 1,dL kM,dd kE,ah [ab [vI 1,vI 2]]]:=by
 have h1:sY CC 2 (0,2,0,[.bf [.str [40,97,98,41,42],vI 0]],[vI 0,vI 0],[.agg [vI 7,vI 0,kA]],[])=some (.inl (1,2,0,[.bf [.str [40,97,98,41,42],vI 0],.bf [.str [98,40,97,98,41,42],vI 1]],[vI 1,vI 0],[.agg [vI 7,vI 0,kA],.agg [vI 5,vI 0,kB]],[])):=by simp only[sY,yT,un,aA];exact bT rfl (bT rfl (bs rfl (bs azx (bF rfl (bs azy (bT rfl (bT rfl (bF rfl (bs azz (bT rfl (bs rfl rfl)))))))))))
 have h2:sY CC 2 (1,2,0,[.bf [.str [40,97,98,41,42],vI 0],.bf [.str [98,40,97,98,41,42],vI 1]],[vI 1,vI 0],[.agg [vI 7,vI 0,kA],.agg [vI 5,vI 0,kB]],[])=some (.inl (2,2,0,kM,[vI 1,vI 2],kE,[])):=by simp only[sY,yT,un,aA];exact bT rfl (bT rfl (bs rfl (bs azA (bF rfl (bs azB (bT rfl (bT rfl (bF rfl (bs azC (bT rfl (bs rfl rfl)))))))))))
 refine aab ?_;unfold RU;exact bT rfl (bs ((gp h1).trans ((gp h2).trans (gH rfl))) rfl)
theorem azE:CC 62 [vI 5,vI 0,kB,vI 0]=some [vI 1,vI 0,dd [],vI 0]:=e8 (N:=60) (n:=30) (by kernel_rfl)
theorem azF:CC 63 [vI 1,vI 0,dd []]=some [.str [48]]:=e8 (N:=60) (n:=30) (by kernel_rfl)
theorem azG:CC 62 [vI 5,vI 0,kB,vI 1]=some [vI 7,vI 0,kA,vI 0]:=e8 (N:=60) (n:=30) (by kernel_rfl)
theorem azH:CC 63 [vI 7,vI 0,kA]=some [.str [40,97,98,41,42]]:=e8 (N:=60) (n:=30) (by kernel_rfl)
theorem azI:CC 35 [vI 2,vI 1,dd kE,ah [ab [vI 1,vI 2]],dL kM]=some [vI 0,vI 2,vI 2,dL kM,dd kE,ah [ab [vI 1,vI 2],ab [vI 2,vI 0]]]:=by
 have h1:sY CC 2 (0,2,1,kM,[vI 0,vI 0],kE,[ab [vI 1,vI 2]])=some (.inl (1,2,1,kM,[vI 2,vI 0],kE,[ab [vI 1,vI 2]])):=by simp only[sY,yT,un,aA];exact bT rfl (bT rfl (bs rfl (bs azE (bF rfl (bs azF (bT rfl (bF rfl (bT rfl (bs rfl rfl)))))))))
 have h2:sY CC 2 (1,2,1,kM,[vI 2,vI 0],kE,[ab [vI 1,vI 2]])=some (.inl (2,2,1,kM,[vI 2,vI 0],kE,[ab [vI 1,vI 2]])):=by simp only[sY,yT,un,aA];exact bT rfl (bT rfl (bs rfl (bs azG (bF rfl (bs azH (bT rfl (bF rfl (bT rfl (bs rfl rfl)))))))))
 refine aab ?_;unfold RU;exact bT rfl (bs ((gp h1).trans ((gp h2).trans (gH rfl))) rfl)
theorem azJ:CC 62 [vI 1,vI 0,dd [],vI 0]=some [vI 1,vI 0,dd [],vI 0]:=e8 (N:=60) (n:=30) (by kernel_rfl)
theorem azK:CC 63 [vI 1,vI 0,dd []]=some [.str [48]]:=e8 (N:=60) (n:=30) (by kernel_rfl)
theorem azL:CC 62 [vI 1,vI 0,dd [],vI 1]=some [vI 1,vI 0,dd [],vI 0]:=e8 (N:=60) (n:=30) (by kernel_rfl)
theorem azM:CC 63 [vI 1,vI 0,dd []]=some [.str [48]]:=e8 (N:=60) (n:=30) (by kernel_rfl)
theorem azN:CC 35 [vI 2,vI 2,dd kE,ah [ab [vI 1,vI 2],ab [vI 2,vI 0]],dL kM]=some [vI 0,vI 2,vI 3,dL kM,dd kE,kN]:=by
 have h1:sY CC 2 (0,2,2,kM,[vI 0,vI 0],kE,[ab [vI 1,vI 2],ab [vI 2,vI 0]])=some (.inl (1,2,2,kM,[vI 2,vI 0],kE,[ab [vI 1,vI 2],ab [vI 2,vI 0]])):=by simp only[sY,yT,un,aA];exact bT rfl (bT rfl (bs rfl (bs azJ (bF rfl (bs azK (bT rfl (bF rfl (bT rfl (bs rfl rfl)))))))))
 have h2:sY CC 2 (1,2,2,kM,[vI 2,vI 0],kE,[ab [vI 1,vI 2],ab [vI 2,vI 0]])=some (.inl (2,2,2,kM,[vI 2,vI 2],kE,[ab [vI 1,vI 2],ab [vI 2,vI 0]])):=by simp only[sY,yT,un,aA];exact bT rfl (bT rfl (bs rfl (bs azL (bF rfl (bs azM (bT rfl (bF rfl (bT rfl (bs rfl rfl)))))))))
 refine aab ?_;unfold RU;exact bT rfl (bs ((gp h1).trans ((gp h2).trans (gH rfl))) rfl)
theorem azO:CC 36 [vI 2,vI 3,dd kE,kN,dL kM]=some [vI 2,vI 0,vI 2,vI 3,dL kM,kF,kN,dd kE]:=e8 (N:=60) (n:=30) (by kernel_rfl)
theorem azP:CC 15 [vI 7,vI 0,kA,vI 2]=some [vI 2,vI 0,vI 0,kF,kN]:=by
 have b1:yS CC 0 0 [] [] (2,0,[.agg [vI 7,vI 0,kA]],[],[.bf [.str [40,97,98,41,42],vI 0]])=some (.inl (2,1,kE,[ab [vI 1,vI 2]],kM)):=by simp only[yS,CV,un];exact bs (RT rfl) (bT rfl (bs azD (bF rfl rfl)))
 have b2:yS CC 0 0 [] [] (2,1,kE,[ab [vI 1,vI 2]],kM)=some (.inl (2,2,kE,[ab [vI 1,vI 2],ab [vI 2,vI 0]],kM)):=by simp only[yS,CV,un];exact bs (RT rfl) (bT rfl (bs azI (bF rfl rfl)))
 have b3:yS CC 0 0 [] [] (2,2,kE,[ab [vI 1,vI 2],ab [vI 2,vI 0]],kM)=some (.inl (2,3,kE,[ab [vI 1,vI 2],ab [vI 2,vI 0],ab [vI 2,vI 2]],kM)):=by simp only[yS,CV,un];exact bs (RT rfl) (bT rfl (bs azN (bF rfl rfl)))
 have b4:yS CC 0 0 [] [] (2,3,kE,[ab [vI 1,vI 2],ab [vI 2,vI 0],ab [vI 2,vI 2]],kM)=some (.inr (.inr (false,2,3,kE,[ab [vI 1,vI 2],ab [vI 2,vI 0],ab [vI 2,vI 2]],kM))):=by simp only[yS,CV,un];exact bs (RT rfl) (bF rfl rfl)
 refine azp ?_;unfold aj9;refine bs azu (bF rfl (bs azv (bs azw (bs ((gp b1).trans ((gp b2).trans ((gp b3).trans (gH b4)))) ?_))));exact bs azO rfl
theorem azQ:CC 18 [vI 2,vI 0,kF,kN]=some [vI 2,vI 0,kF,kN]:=e8 (N:=60) (n:=30) (by kernel_rfl)
theorem azR:CC 19 [vI 3,vI 0,dd [],.str [97]]=some [.bool true]:=e8 (N:=60) (n:=30) (by kernel_rfl)
theorem Wp:CC 6 []=some [.bool true]:=by
 have hl:∀x,CC 17 [vI x]=some [vI 3,vI x,dd []]:=fun x=>azk rfl;refine azt ?_;unfold akb;refine bs (hl 0) (bs (hl 1) (bs (aj8 rfl) (bs (aj8 rfl) (bs azP (bT rfl (bs azQ (bT rfl (bs (hl 0) (bs azR rfl)))))))))
end Go.AM
set_option maxRecDepth 100000
namespace Go.AM
open Go.IntKind (wrap)
theorem ep{α:Type}{l:List α}{i:Nat}{d:α}(h:i<l.length):l.getD i d=l[i]:=by simp[h]
structure Da where
 L:Nat
 st:Nat
 F:List Bool
 N:List (List Nat)
deriving DecidableEq
namespace Da
def n(d:Da):Nat:=d.F.length
def nx(d:Da)(q x:Nat):Nat:=(d.N.getD q []).getD x 0
def fin(d:Da)(q:Nat):Bool:=d.F.getD q false
def run(d:Da)(q:Nat)(w:List Nat):Nat:=w.foldl d.nx q
def acc(d:Da)(q:Nat)(w:List Nat):Bool:=d.fin (d.run q w)
structure Ok(d:Da):Prop where
 l1:1≤d.L
 l6:d.L≤6
 nN:d.N.length=d.n
 row:∀r∈d.N,r.length=d.L∧∀q∈r,q<d.n
 s:d.st<d.n
 eb:d.n≤512
end Da
def WL(L:Nat)(w:List Nat):Prop:= ∀x∈w,x<L
theorem WL.nil{L:Nat}:WL L []:=fun _ h=>by cases h
theorem WL.cons{L x:Nat}{w:List Nat}(h:x<L)(hw:WL L w):WL L (x::w):=fun y hy=>by
 rcases jg.1 hy with rfl|hy
 ·exact h
 ·exact hw y hy
theorem WL.head{L x:Nat}{w:List Nat}(h:WL L (x::w)):x<L:=h x (by simp)
theorem WL.tail{L x:Nat}{w:List Nat}(h:WL L (x::w)):WL L w:=fun y hy=>h y (by simp[hy])
theorem WL.app{L:Nat}{v w:List Nat}:WL L (v++w)↔WL L v∧WL L w:=by
 unfold WL;grind
namespace Da
def uc(d:Da)(q:Nat)(d':Da)(q':Nat):Prop:= ∀w,WL d.L w→d.acc q w=d'.acc q' w
theorem Ok.lH{d:Da}(h:d.Ok){q x:Nat}(hq:q<d.n)(hx:x<d.L):d.nx q x<d.n:=by
 have dS:q<d.N.length:=by rw[h.nN];exact hq
 have hr:=h.row d.N[q] (dw dS);unfold nx;simp_all
theorem Ok.vZ{d:Da}(h:d.Ok):∀(w:List Nat) {q:Nat},q<d.n→WL d.L w→d.run q w<d.n
 | [],q,hq,_=>hq
 |x::w,q,hq,hw=>h.vZ w (h.lH hq hw.head) hw.tail
theorem VD{d:Da}{q x:Nat}{w:List Nat}:d.run q (x::w)=d.run (d.nx q x) w:=rfl
theorem RW{d:Da}{q x:Nat}{w:List Nat}:d.acc q (x::w)=d.acc (d.nx q x) w:=rfl
theorem acU{d:Da}{q:Nat}{v w:List Nat}:d.run q (v++w)=d.run (d.run q v) w:=AT
theorem vY{d:Da}{q:Nat}{v w:List Nat}:d.acc q (v++w)=d.acc (d.run q v) w:=by unfold acc;rw[acU]
theorem xf{d:Da}{q:Nat}:d.acc q []=d.fin q:=rfl
theorem uc.nx{d d':Da}{q q' x:Nat}(h:d.uc q d' q')(hx:x<d.L):d.uc (d.nx q x) d' (d'.nx q' x):=fun w hw=>h (x::w) (hw.cons hx)
def pos(d:Da)(t:Nat):Nat:=d.nx (t/d.L) (t %d.L)
def mt(d:Da):Nat→Nat
 |0=>1
 |t+1=>if d.pos t=d.mt t then d.mt t+1 else d.mt t
structure Ih(d:Da):Prop where
 le:∀t,t<d.n*d.L→d.pos t≤d.mt t
 row:∀q,q<d.n→q<d.mt (q*d.L)
 all:d.mt (d.n*d.L)=d.n
structure Canon(d:Da)(L:Nat)(K:List Nat→Bool):Prop where
 ok:d.Ok
 hL:d.L=L
 st:d.st=0
 num:d.Ih
 red:∀p q,p<d.n→q<d.n→d.uc p d q→p=q
 tN:∀w,WL L w→d.acc 0 w=K w
theorem Oq(d:Da):∀{s t:Nat},s≤t→d.mt s≤d.mt t:=by
 intro s t h
 induction t with
 |zero=>grind
 |succ t ih=>
  rcases jG s (t+1)with h1|h1
  ·have:=ih (by omega);have e:d.mt (t+1)=if d.pos t=d.mt t then d.mt t+1 else d.mt t:=rfl
   grind
  grind
theorem aac{d d':Da}{K:List Nat→Bool}{L:Nat}(h:d.Canon L K)(h':d'.Canon L K):∀t,t≤d.n*L→t≤d'.n*L→d.mt t=d'.mt t∧(∀s,s<t→d.pos s=d'.pos s)∧∀q,q<d.mt t→d.uc q d' q:=by
 intro t;have e:=h.hL;have e':=h'.hL;have hl:=h.ok.l1
 induction t with
 |zero=>
  intro _ _;refine⟨rfl,fun s hs=>by omega,fun q hq=> ?_⟩;obtain rfl:q=0:=by have:q<1:=hq;omega
  intro w hw;rw[h.tN w (e▸hw),h'.tN w (e▸hw)]
 |succ t ih=>
  intro h1 h2;obtain⟨i1,i2,i3⟩:=ih (by omega) (by omega);have hm:d.mt t≤d.n:=by rw[←h.num.all];exact d.Oq (by grind)
  have NF:d'.mt t≤d'.n:=by rw[←h'.num.all];exact d'.Oq (by grind)
  have hq:t/L<d.n:=by rw[MO (by omega)];omega
  have dS:t/L<d'.n:=by rw[MO (by omega)];omega
  have hx:t %L<L:=AS _ (by omega);have hqm:t/L<d.mt t:=by
   have a:=h.num.row _ hq;rw[e]at a;have b:d.mt (t/L*L)≤d.mt t:=d.Oq (Nat.div_mul_le_self t L);omega
  have hE:=(i3 _ hqm).nx (by rw[e];exact hx);have p1:d.pos t=d.nx (t/L) (t %L):=by unfold pos;rw[e]
  have p2:d'.pos t=d'.nx (t/L) (t %L):=by unfold pos;rw[e']
  rw[←p1,←p2]at hE;have l1:=h.num.le t (by grind);have l2:=h'.num.le t (by grind);have b1:d.pos t<d.n:=by rw[p1];exact h.ok.lH hq (by omega)
  have b2:d'.pos t<d'.n:=by rw[p2];exact h'.ok.lH dS (by omega)
  have key:d.pos t=d'.pos t:=by
   rcases jG (d.pos t) (d.mt t)with c|c
   ·have hA:=i3 _ c;refine h'.red _ _ (by omega) b2 fun w hw=> ?_;have Eh:WL d.L w:=by grind
    rw[←hA w Eh,hE w Eh]
   ·rcases jG (d'.pos t) (d.mt t)with c'|c'
    ·have hA:=i3 _ c';refine h.red _ _ b1 (by omega) fun w hw=> ?_;rw[hE w hw,hA w hw]
    ·omega
  refine⟨?_,?_,?_⟩
  ·unfold mt;grind
  ·grind
  ·intro q Ac;rcases jG q (d.mt t)with c|c
   ·grind
   ·have:d.pos t=d.mt t∧q=d.mt t:=by
     unfold mt at Ac;grind
    grind
theorem azS{a b:List Nat}(hl:a.length=b.length)(h:∀x,x<a.length→a.getD x 0=b.getD x 0):a=b:=by
 refine uj hl fun x h1 h2=> ?_;grind
theorem aad{d:Da}(h:d.Ok){q:Nat}(hq:q<d.n):(d.N.getD q []).length=d.L:=by
 have dS:q<d.N.length:=by rw[h.nN];exact hq
 rw[ep dS];exact(h.row _ (dw dS)).1
theorem Canon.eq{d d':Da}{K:List Nat→Bool}{L:Nat}(h:d.Canon L K)(h':d'.Canon L K):d=d':=by
 have e:=h.hL;have e':=h'.hL;have hl:=h.ok.l1;rw[e]at hl;have hn:d.n=d'.n:=by
  rcases Nat.lt_trichotomy d.n d'.n with c|c|c
  ·obtain⟨s1,_,_⟩:=aac h h' (d.n*L) (aW _) (eT _ (by omega));have a:=h.num.all;have b:=h'.num.row d.n c;grind
  ·exact c
  ·obtain⟨s1,_,_⟩:=aac h h' (d'.n*L) (eT _ (by omega)) (aW _);have a:=h'.num.all;have b:=h.num.row d'.n c;grind
 obtain⟨s1,s2,s3⟩:=aac h h' (d.n*L) (aW _) (by grind);have a:=h.num.all;rw[e]at a;have hE:∀q,q<d.n→d.uc q d' q:=fun q hq=>s3 q (by omega);have hP:∀q x,q<d.n→x<L→d.nx q x=d'.nx q x:=fun q x hq hx=>by
  have:=s2 (q*L+x) (by
   have:(q+1)*L≤d.n*L:=eT _ (by omega);grind)
  unfold pos at this;rw[e,e']at this;rwa [show(q*L+x)/L=q by rw[ze,Nat.mul_add_div (by omega),Nat.div_eq_of_lt hx];rfl,show(q*L+x) %L=x by rw[ze,Nat.mul_add_mod,GU hx]]at this
 have hF:d.F=d'.F:=by
  refine uj hn fun q h1 h2=> ?_;have:=hE q h1 [] WL.nil;rw[xf,xf]at this;unfold fin at this;grind
 have hN:d.N=d'.N:=by
  refine uj (by rw[h.ok.nN,h'.ok.nN,hn]) fun q h1 h2=> ?_;have hq:q<d.n:=by rw[←h.ok.nN];exact h1
  have r1:=aad h.ok hq;have r2:=aad h'.ok (show q<d'.n by omega);have hx:=fun x hx=>hP q x hq hx;unfold nx at hx;rw[ep h1]at r1 hx;rw[ep h2]at r2 hx;exact azS (by omega) fun x h3=>hx x (by omega)
 obtain⟨L1,s1,F1,N1⟩:=d;obtain⟨L2,s2,F2,N2⟩:=d';have q1:=h.st;have q2:=h'.st;grind
end Da
section
variable {α:Type}[DecidableEq α]
def cN(S:List α)(a:α):List α:=if a∈S then S else S++[a]
def b9(next:α→Nat→α)(S:List α)(a:α):Nat→List α
 |0=>S
 |x+1=>cN (b9 next S a x) (next a x)
def ar(L:Nat)(next:α→Nat→α)(a0:α):Nat→List α
 |0=>[a0]
 |i+1=>match(ar L next a0 i)[i]? with
  |some a=>b9 next (ar L next a0 i) a L
  |none=>ar L next a0 i
theorem Gc(S:List α)(a:α):S <+: cN S a:=by
 unfold cN;grind
theorem EB{S:List α}{a:α}:a∈cN S a:=by
 unfold cN;split
 ·assumption
 ·simp
theorem aae{S:List α}{a:α}(h:S.Nodup):(cN S a).Nodup:=by
 unfold cN;grind
theorem Gd{S:List α}{a:α}:(cN S a).length=if a∈S then S.length else S.length+1:=by
 unfold cN;grind
variable {L:Nat}{next:α→Nat→α}{a0:α}
theorem RX(S:List α)(a:α):∀x,S <+: b9 next S a x
 |0=>GO _
 |x+1=>(RX S a x).trans (Gc _ _)
theorem BG(S:List α)(a:α){x y:Nat}(h:x≤y):b9 next S a x <+: b9 next S a y:=by
 induction y with
 |zero=>grind
 |succ y ih=>
  rcases jG x (y+1)with c|c
  ·exact(ih (by omega)).trans (Gc _ _)
  grind
theorem akc{S:List α}{a:α}(h:S.Nodup):∀x,(b9 next S a x).Nodup
 |0=>h
 |x+1=>aae (akc h x)
theorem akd{S:List α}{a:α}{x y:Nat}(h:x<y):next a x∈b9 next S a y:=
 (BG S a (show x+1≤y by omega)).subset EB
theorem adM{i:Nat}{a:α}(h:(ar L next a0 i)[i]? =some a):ar L next a0 (i+1)=b9 next (ar L next a0 i) a L:=by
 rw[ar,h]
theorem azT{i:Nat}(h:(ar L next a0 i).length≤i):ar L next a0 (i+1)=ar L next a0 i:=by
 rw[ar,List.getElem?_eq_none h]
theorem azU(i:Nat):ar L next a0 i <+: ar L next a0 (i+1):=by
 rw[ar];split
 ·exact RX _ _ _
 grind
theorem sF{i j:Nat}(h:i≤j):ar L next a0 i <+: ar L next a0 j:=by
 induction j with
 |zero=>grind
 |succ j ih=>
  rcases jG i (j+1)with c|c
  ·exact(ih (by omega)).trans (azU j)
  grind
theorem Ge:∀i,(ar L next a0 i).Nodup
 |0=>by simp[ar]
 |i+1=>by
  rw[ar];split
  ·exact akc (Ge i) _
  ·exact Ge i
theorem K6{i j:Nat}(h:(ar L next a0 i).length≤i)(hj:i≤j):ar L next a0 j=ar L next a0 i:=by
 induction j with
 |zero=>grind
 |succ j ih=>
  rcases jG i (j+1)with c|c
  ·rw[azT (by grind),ih (by omega)]
  grind
theorem adP(i:Nat):(ar L next a0 i)[0]? =some a0:=by
 have h:=sF (L:=L) (next:=next) (a0:=a0) (nH i);have h0:0<(ar L next a0 0).length:=by simp[ar]
 rw[bX (lZ h0 h.length_le),←h.getElem h0];rfl
theorem O1(i:Nat):0<(ar L next a0 i).length:=lZ (by simp[ar]) (sF (L:=L) (next:=next) (a0:=a0) (nH i)).length_le
theorem K7:∀i,∀a∈ar L next a0 i,∃w,WL L w∧a=w.foldl next a0
 |0,a,h=>⟨[],WL.nil,by simpa[ar]using h⟩
 |i+1,a,h=>by
  rw[ar]at h;split at h
  ·rename_i b hb;have au:b∈ar L next a0 i:=nE hb
   obtain⟨w,hw,rfl⟩:=K7 i b au;have:∀x,x≤L→∀a∈b9 next (ar L next a0 i) (w.foldl next a0) x,∃w,WL L w∧a=w.foldl next a0:=by
    intro x
    induction x with
    |zero=>intro _ a h;exact K7 i a h
    |succ x ih=>
     intro hx a h;rw[b9]at h;unfold cN at h;split at h
     ·grind
     ·rcases ik.1 h with h|h
      ·grind
      ·refine⟨w++[x],WL.app.2 ⟨hw,WL.nil.cons (by omega)⟩,?_⟩;grind
   grind
  ·exact K7 i a h
section
variable {k:Nat}(hd:(ar L next a0 k).length≤k)
include hd
theorem O0{i:Nat}(h:i<(ar L next a0 k).length):i<(ar L next a0 i).length:=by
 rcases jG i (ar L next a0 i).length with c|c
 ·exact c
 ·have:=K6 c (show i≤k by omega);grind
theorem azV{i:Nat}(h:i<(ar L next a0 k).length):(ar L next a0 i)[i]? =some (ar L next a0 k)[i]:=by
 have h1:=O0 hd h;rw[bX h1,(sF (show i≤k by omega)).getElem h1]
theorem K8{i:Nat}(h:i<(ar L next a0 k).length):ar L next a0 (i+1)=b9 next (ar L next a0 i) (ar L next a0 k)[i] L:=adM (azV hd h)
theorem ake{a:α}(h:a∈ar L next a0 k){x:Nat}(hx:x<L):next a x∈ar L next a0 k:=by
 obtain⟨i,hi,rfl⟩:=GK h;have h1:next (ar L next a0 k)[i] x∈ar L next a0 (i+1):=by rw[K8 hd hi];exact akd hx
 rcases jG i k with c|c
 ·exact(sF (show i+1≤k by omega)).subset h1
 ·omega
end
def iW(L:Nat)(next:α→Nat→α)(fin:α→Bool)(S:List α):Da where
 L:=L
 st:=0
 F:=S.map fin
 N:=S.map fun a=>(List.range L).map fun x=>S.idxOf (next a x)
theorem tD{fin:α→Bool}{S:List α}:(iW L next fin S).n=S.length:=by simp[iW,Da.n]
theorem IP{fin:α→Bool}{S:List α}{i x:Nat}(hi:i<S.length)(hx:x<L):(iW L next fin S).nx i x=S.idxOf (next S[i] x):=by
 unfold Da.nx iW;grind
theorem Vn{fin:α→Bool}{S:List α}{i:Nat}(hi:i<S.length):(iW L next fin S).fin i=fin S[i]:=by
 unfold Da.fin iW;grind
theorem BF{S T:List α}(hp:T <+: S){a:α}(h:a∈T):S.idxOf a=T.idxOf a:=by
 obtain⟨U,rfl⟩:=hp;grind
section
variable {k:Nat}(hd:(ar L next a0 k).length≤k){fin:α→Bool}
include hd
theorem azW{i x:Nat}(hi:i<(ar L next a0 k).length)(hx:x<L):∃h:(iW L next fin (ar L next a0 k)).nx i x<(ar L next a0 k).length,(ar L next a0 k)[(iW L next fin (ar L next a0 k)).nx i x]=next (ar L next a0 k)[i] x:=by
 have hm:=ake hd (dw hi) hx;rw[IP hi hx];grind
theorem akf:∀(w:List Nat) {i:Nat} (hi:i<(ar L next a0 k).length),WL L w→∃h:(iW L next fin (ar L next a0 k)).run i w<(ar L next a0 k).length,(ar L next a0 k)[(iW L next fin (ar L next a0 k)).run i w]=w.foldl next (ar L next a0 k)[i]
 | [],i,hi,_=>⟨hi,rfl⟩
 |x::w,i,hi,hw=>by
  obtain⟨h1,h2⟩:=azW (fin:=fin) hd hi hw.head;obtain⟨h3,h4⟩:=akf w h1 hw.tail;refine⟨h3,?_⟩;rw[List.foldl_cons,←h2];exact h4
theorem adO{w:List Nat}{i:Nat}(hi:i<(ar L next a0 k).length)(hw:WL L w):(iW L next fin (ar L next a0 k)).acc i w=fin (w.foldl next (ar L next a0 k)[i]):=by
 obtain⟨h1,h2⟩:=akf (fin:=fin) hd w hi hw;unfold Da.acc;rw[Vn h1,h2]
theorem adN(h1:1≤L)(h6:L≤6)(hm:(ar L next a0 k).length≤512):(iW L next fin (ar L next a0 k)).Ok where
 l1:=h1
 l6:=h6
 nN:=by rw[tD];simp[iW]
 row r hr:=by
  rw[tD];obtain⟨a,ha,rfl⟩:=gm.1 (show r∈(ar L next a0 k).map _ from hr);refine⟨by simp[iW],fun q hq=> ?_⟩;obtain⟨x,hx,rfl⟩:=gm.1 hq;exact GX (ake hd ha (gn.1 hx))
 s:=by rw[tD];exact O1 k
 eb:=by rw[tD];exact hm
theorem aaf(h1:1≤L):∀i,i≤(ar L next a0 k).length→(iW L next fin (ar L next a0 k)).mt (i*L)=(ar L next a0 i).length∧∀(hi:i<(ar L next a0 k).length) x,x≤L→(iW L next fin (ar L next a0 k)).mt (i*L+x)=(b9 next (ar L next a0 i) (ar L next a0 k)[i] x).length:=by
 have key:∀i,(iW L next fin (ar L next a0 k)).mt (i*L)=(ar L next a0 i).length→∀(hi:i<(ar L next a0 k).length) x,x≤L→(iW L next fin (ar L next a0 k)).mt (i*L+x)=(b9 next (ar L next a0 i) (ar L next a0 k)[i] x).length:=by
  intro i h hi x
  induction x with
  |zero=>intro _;exact h
  |succ x ih=>
   intro hx;have ih:=ih (by omega);have hp:b9 next (ar L next a0 i) (ar L next a0 k)[i] (x+1) <+: ar L next a0 k:=by
    refine(BG _ _ hx).trans ?_;rw[←K8 hd hi];exact sF (by omega)
   have hp0:b9 next (ar L next a0 i) (ar L next a0 k)[i] x <+: ar L next a0 k:=(BG _ _ (by omega)).trans hp
   have gg:(iW L next fin (ar L next a0 k)).pos (i*L+x)=(ar L next a0 k).idxOf (next (ar L next a0 k)[i] x):=by
    unfold Da.pos;rw[show(iW L next fin (ar L next a0 k)).L=L from rfl,show(i*L+x)/L=i by rw[ze,Nat.mul_add_div (by omega),Nat.div_eq_of_lt (by omega)];rfl,show(i*L+x) %L=x by rw[ze,Nat.mul_add_mod,GU (by omega)],IP hi (by omega)]
   show(iW L next fin (ar L next a0 k)).mt ((i*L+x)+1)=_;rw[Da.mt,gg,ih,b9];rw[b9]at hp;generalize b9 next (ar L next a0 i) (ar L next a0 k)[i] x=T at*
   generalize next (ar L next a0 k)[i] x=b at*
   rw[Gd];by_cases hb:b∈T
   ·rw[aF hb,BF hp0 hb,aD (by grind)]
   ·rw[aD hb];unfold cN at hp;rw[aD hb]at hp;rw[BF hp (by simp),List.idxOf_append,aD hb];simp
 intro i
 induction i with
 |zero=>
  intro _;have:(iW L next fin (ar L next a0 k)).mt (0*L)=(ar L next a0 0).length:=by rw[Nat.zero_mul];rfl
  grind
 |succ i ih=>
  intro hi;obtain⟨_,h3⟩:=ih (by omega);have h4:=h3 (by omega) L (aW _);rw[←K8 hd (by omega),←GA]at h4;grind
theorem Vo:(ar L next a0 (ar L next a0 k).length)=ar L next a0 k:=by
 have hp:=sF (L:=L) (next:=next) (a0:=a0) hd;exact(K6 hp.length_le hd).symm
theorem azX(h1:1≤L):(iW L next fin (ar L next a0 k)).Ih where
 le t ht:=by
  rw[tD]at ht;have hq:t/L<(ar L next a0 k).length:=by rw[MO (by omega)];exact ht
  have hx:t %L<L:=AS _ (by omega);have P3:t/L*L+t %L=t:=Nat.div_add_mod' t L;have h2:=(aaf (fin:=fin) hd h1 (t/L) (by omega)).2 hq (t %L) (by omega);rw[P3]at h2;rw[h2];unfold Da.pos;rw[show(iW L next fin (ar L next a0 k)).L=L from rfl,IP hq hx];have hp:b9 next (ar L next a0 (t/L)) (ar L next a0 k)[t/L] (t %L+1) <+: ar L next a0 k:=by
   refine(BG _ _ (show t %L+1≤L by omega)).trans ?_;rw[←K8 hd hq];exact sF (by omega)
  rw[b9]at hp;generalize b9 next (ar L next a0 (t/L)) (ar L next a0 k)[t/L] (t %L)=T at*
  generalize next (ar L next a0 k)[t/L] (t %L)=b at*
  rw[BF hp EB];have:=GX (EB (S:=T) (a:=b));rw[Gd]at this;grind
 row q hq:=by
  rw[tD]at hq;rw[show(iW L next fin (ar L next a0 k)).L=L from rfl,(aaf hd h1 q (by omega)).1];exact O0 hd hq
 all:=by
  rw[tD,show(iW L next fin (ar L next a0 k)).L=L from rfl,(aaf hd h1 _ (aW _)).1,Vo hd]
end
theorem akg{U:List α}(h0:a0∈U)(hU:∀a∈U,∀x,x<L→next a x∈U)(k:Nat):ar L next a0 k ⊆ U:=by
 intro a ha;obtain⟨w,hw,rfl⟩:=K7 k a ha;have:∀(w:List Nat) (b:α),b∈U→WL L w→w.foldl next b∈U:=by
  intro w
  induction w with
  |nil=>grind
  |cons x w ih=>intro b hb hw;exact ih _ (hU b hb x hw.head) hw.tail
 grind
theorem adL{U:List α}(h0:a0∈U)(hU:∀a∈U,∀x,x<L→next a x∈U)(k:Nat):(ar L next a0 k).length≤U.length:=
 za (Ge k) (akg h0 hU k)
end
namespace Da
def trim(d:Da):Da:=iW d.L d.nx d.fin (ar d.L d.nx d.st d.n)
theorem Ok.yU{d:Da}(h:d.Ok)(k:Nat):(ar d.L d.nx d.st k).length≤d.n:=by
 have:=adL (L:=d.L) (next:=d.nx) (a0:=d.st) (U:=List.range d.n) (gn.2 h.s) (fun a ha x hx=>gn.2 (h.lH (gn.1 ha) hx)) k;grind
theorem Ok.K9{d:Da}(h:d.Ok)(k:Nat):∀q∈ar d.L d.nx d.st k,q<d.n:=fun q hq=>by
 have:=akg (L:=d.L) (next:=d.nx) (a0:=d.st) (U:=List.range d.n) (gn.2 h.s) (fun a ha x hx=>gn.2 (h.lH (gn.1 ha) hx)) k hq;grind
theorem Ok.akh{d:Da}(h:d.Ok):d.trim.Ok:=adN (h.yU _) h.l1 h.l6 (pJ (h.yU _) h.eb)
theorem Ok.aag{d:Da}(h:d.Ok){i:Nat}(hi:i<(ar d.L d.nx d.st d.n).length){w:List Nat}(hw:WL d.L w):d.trim.acc i w=d.acc (ar d.L d.nx d.st d.n)[i] w:=adO (h.yU _) hi hw
theorem Ok.aki{d:Da}(h:d.Ok){w:List Nat}(hw:WL d.L w):d.trim.acc 0 w=d.acc d.st w:=by
 rw[h.aag (O1 _) hw];have:=adP (L:=d.L) (next:=d.nx) (a0:=d.st) d.n;grind
theorem Ok.azY{d:Da}(h:d.Ok)(hr:∀p q,p<d.n→q<d.n→d.uc p d q→p=q):d.trim.Canon d.L (d.acc d.st)where
 ok:=h.akh
 hL:=rfl
 st:=rfl
 num:=azX (h.yU _) h.l1
 red p q hp hq he:=by
  unfold trim at hp hq;rw[tD]at hp hq;have h1:d.uc (ar d.L d.nx d.st d.n)[p] d (ar d.L d.nx d.st d.n)[q]:=fun w hw=>by
   rw[←h.aag hp hw,←h.aag hq hw];exact he w hw
  have h2:=hr _ _ (h.K9 _ _ (dw hp)) (h.K9 _ _ (dw hq)) h1;rw[←List.Nodup.idxOf_getElem (Ge _) p hp,←List.Nodup.idxOf_getElem (Ge _) q hq,h2]
 tN w hw:=h.aki hw
end Da
end Go.AM
set_option maxRecDepth 100000
namespace Go.AM
open Go.IntKind (wrap)
open Go.Proofs
noncomputable def La(C:af)(CW:Int)(t38:LV)(t39 t40:Int)(t49:LV)(t50 bq bB:Int)(fl fo:LV)(t51:Int){β:Type}(kn:Int→Option β)(kr:((Int) ⊕ (Int×Bool))→Option β):Option β:=
 bif decide (t51<t50)then
  (idx t49 t51).bind fun x2=>
  bif decide ((x2.toInt:Int)<0)then
  kr (.inl 4)
  else
  bif decide ((x2.toInt:Int)≥CW)then
   kr (.inl 4)
  else
   kn (wrap .i64 (t51+1))
 else
  kr (.inr (t51,decide (t51<t50)))
noncomputable def RY(C:af)(CW:Int)(t38:LV)(t39 t40:Int)(t49:LV)(t50 bq bB:Int)(fl fo:LV):=fun t51=>La C CW t38 t39 t40 t49 t50 bq bB fl fo t51 (fun y=>some (Sum.inl y)) (fun r=>some (Sum.inr r))
noncomputable def Lb(C:af)(CW:Int)(t38:LV)(t39 bq bB:Int)(fl fo:LV)(t40:Int){β:Type}(kn:Int→Option β)(kr:((Int) ⊕ (Int×Bool))→Option β):Option β:=
 bif decide (t40<t39)then
  (idx t38 t40).bind fun x1=>
  bif (x1.toList.length:Int) != bq then
  kr (.inl 4)
  else
  (Loop (RY C CW t38 t39 t40 x1.toList (x1.toList.length:Int) bq bB fl fo) 0).bind (ed (fun iU=>
   kr (.inl iU)) (un fun(mr:Int) (mu:Bool)=>
   kn (wrap .i64 (t40+1))))
 else
  kr (.inr (t40,decide (t40<t39)))
noncomputable def RZ(C:af)(CW:Int)(t38:LV)(t39 bq bB:Int)(fl fo:LV):=fun t40=>Lb C CW t38 t39 bq bB fl fo t40 (fun y=>some (Sum.inl y)) (fun r=>some (Sum.inr r))
noncomputable def akj(C:af):cp:=bz 225 YW [Q0,Q0,Q0,Q0,Q0,Q0,Q1,Q0,Q0,Q0,Q0] [[0],[1,2,3,4,5,6,0,0,8,9,10,11]] (@La C) (bz 145 YX [Q0,Q0,Q0,Q1,Q0,Q0,Q0,Q0] [[0],[1,2,3,0,0,5,6,7,8]] (@Lb C) bh)
theorem azZ(C:af):bn C (akj C) 26 (Lp [1,1,1,1,1,0,1,0,0,1,1,0,0,1,1,1,0,0] 26):=bA YW [Q0,Q0,Q0,Q0,Q0,Q0,Q1,Q0,Q0,Q0,Q0] [[0],[1,2,3,4,5,6,0,0,8,9,10,11]] (@La C) (ba an)
theorem az0(C:af):bn C (akj C) 26 (Lp [1,1,1,1,1,0,1,0,0] 26):=bA YX [Q0,Q0,Q0,Q1,Q0,Q0,Q0,Q0] [[0],[1,2,3,0,0,5,6,7,8]] (@Lb C) (ba (bp (azZ C) an))
noncomputable def akk(C:af)(cD cE:Int)(cd cH:LV):Option LV:=
 bif decide (cD<1)then
  some [vI 1]
 else
  bif decide (cD>6)then
  some [vI 1]
  else
  bif decide ((cd.length:Int)>512)then
   some [vI 3]
  else
   bif (cH.length:Int) != (cd.length:Int)then
   some [vI 4]
   else
   bif decide (cE<0)then
    some [vI 4]
   else
    bif decide (cE≥(cd.length:Int))then
    some [vI 4]
    else
    (Loop (RZ C (cd.length:Int) cH (cH.length:Int) cD cE cd cH) 0).bind (ed (fun jD=>
     some [vI jD]) (un fun(ng:Int) (v8:Bool)=>
     some [vI 0]))
theorem az1{cD cE:Int}{cd cH:LV}{r:Option LV}(h:akk CC cD cE cd cH=r):CC 26 [vI cD,vI cE,av cd,ah cH]=r:=bj (bp (az0 CC) an) h
abbrev iV(n:Int):V:=vI n
def wo(r:List Int):V:=ab (r.map iV)
@[simp] theorem az2 (r:List Int):(wo r).toList=r.map iV:=by simp[wo]
structure Df where
 L:Int
 st:Int
 F:List Bool
 N:List (List Int)
def Pn(d:Df)(l:List V):List V:=vI d.L::vI d.st::av (d.F.map V.bool)::ah (d.N.map wo)::l
namespace Df
structure Ok(d:Df):Prop where
 L1: -9223372036854775808≤d.L
 L2:d.L≤9223372036854775807
 s1: -9223372036854775808≤d.st
 s2:d.st≤9223372036854775807
 F:d.F.length≤maxLen
 N:d.N.length≤maxLen
 row:∀r∈d.N,r.length≤maxLen∧∀q∈r,-9223372036854775808≤q∧q≤9223372036854775807
def ud(d:Df)(r:List Int)(i:Nat):Prop:=0≤r.getD i 0∧r.getD i 0<d.F.length
instance (d:Df)(r:List Int):DecidablePred (d.ud r):=fun i=>by unfold ud;infer_instance
def yV(d:Df)(q:Nat):Prop:=((d.N.getD q []).length:Int)=d.L∧∀i,i<(d.N.getD q []).length→d.ud (d.N.getD q []) i
instance (d:Df):DecidablePred d.yV:=fun i=>by unfold yV;infer_instance
def val(d:Df):Int:=
 if d.L<1∨6<d.L then 1
 else if 512<d.F.length then 3
 else if d.N.length≠d.F.length∨d.st<0∨(d.F.length:Int)≤d.st then 4
 else if∀q,q<d.N.length→d.yV q then 0 else 4
end Df
theorem VR{α:Type}{f:α→V}{l:List α}{i:Nat}{z:α}(h:i<l.length):idx (l.map f) (i:Int)=some (f (l.getD i z)):=by
 simp_all
section
variable {d:Df}(hd:d.Ok)
include hd
theorem az3{q:Nat}(h:q<d.N.length):(d.N.getD q []).length≤maxLen:=by
 rw[show d.N.getD q []=d.N[q] by simp[h]];exact(hd.row _ (dw h)).1
theorem az4{q:Nat}(hq:q<d.N.length){t38:List V}{t39:Int}{a b:Int}{l1 l2:List V}:
  Loop (RY CC (d.F.length:Int) t38 t39 (q:Int) ((d.N.getD q []).map iV) (((d.N.getD q []).map iV).length:Int) a b l1 l2) 0=
   some (if∀i,i<(d.N.getD q []).length→d.ud (d.N.getD q []) i then .inr (((d.N.getD q []).length:Int),false)else .inl 4):=by
 have hl:=az3 hd hq;have hm:=ON;generalize d.N.getD q []=r at*
 refine U5 (d.ud r) r.length (fun i=>(i:Int)) (.inl 4:Int ⊕ (Int×Bool)) (.inr ((r.length:Int),false)) (fun i hi=> ?_) ?_
 ·simp only[RY,La,cT,fT];rw[dG,VR (z:=0) hi];simp only[Option.bind_some,V.toInt_int];by_cases h1:r.getD i 0<0
  ·rw[aF h1,aD (show¬d.ud r i from fun h=>by unfold Df.ud at h;omega)]
  ·rw[aD h1];by_cases h2:r.getD i 0≥(d.F.length:Int)
   ·rw[aF h2,aD (show¬d.ud r i from fun h=>by unfold Df.ud at h;omega)]
   ·rw[aD h2,aF (show d.ud r i from⟨by omega,by omega⟩),lF];rfl
 ·simp only[RY,La,cT,fT];grind
theorem az5{a b:Int}{l1 l2:List V}:
  Loop (RZ CC (d.F.length:Int) (d.N.map wo) ((d.N.map wo).length:Int) d.L b l1 l2) 0=
   some (if∀q,q<d.N.length→d.yV q then .inr ((d.N.length:Int),false)else .inl 4):=by
 have hm:=ON;have hN:=hd.N;refine U5 d.yV d.N.length (fun i=>(i:Int)) (.inl 4:Int ⊕ (Int×Bool)) (.inr ((d.N.length:Int),false)) (fun q hq=> ?_) ?_
 ·simp only[RZ,Lb,cT,fT];rw[dG,VR (z:=[]) hq];simp only[Option.bind_some,az2,cT,Ex];have:=az4 hd hq (t38:=d.N.map wo) (t39:=(d.N.length:Int)) (a:=d.L) (b:=b) (l1:=l1) (l2:=l2);rw[cT]at this;by_cases h1:((d.N.getD q []).length:Int)=d.L
  ·rw[aF h1];refine bs this ?_;by_cases h2:∀i,i<(d.N.getD q []).length→d.ud (d.N.getD q []) i
   ·rw[aF h2,aF (show d.yV q from⟨h1,h2⟩)];simp only[ed,un];rw[lF];rfl
   ·rw[aD h2,aD (show¬d.yV q from fun h=>h2 h.2)];rfl
  ·rw[aD h1,aD (show¬d.yV q from fun h=>h1 h.1)]
 ·simp only[RZ,Lb,cT,fT];grind
theorem az6:CC 26 (Pn d [])=some [vI d.val]:=by
 refine az1 ?_;unfold akk Df.val;simp only[cT,fT,Ex];have h:=az5 hd (a:=0) (b:=d.st) (l1:=d.F.map V.bool) (l2:=d.N.map wo);rw[cT]at h;by_cases h1:d.L<1
 ·grind
 rw[aD h1];by_cases h2:d.L>6
 ·grind
 rw[aD h2,aD (show¬(d.L<1∨6<d.L) by omega)];by_cases h3:512<d.F.length
 ·grind
 rw[aD (show¬(d.F.length:Int)>512 by omega),aD h3];by_cases h4:d.N.length=d.F.length
 ·rw[aF (show(d.N.length:Int)=(d.F.length:Int) by omega)];by_cases h5:d.st<0
  ·grind
  rw[aD h5];by_cases h6:d.st≥(d.F.length:Int)
  ·grind
  rw[aD h6,aD (show¬(d.N.length≠d.F.length∨d.st<0∨(d.F.length:Int)≤d.st) by omega)];refine bs h ?_;split<;>rfl
 grind
end
def uX(r:List Nat):List Int:=r.map fun q:Nat=>(q:Int)
theorem akl(r:List Nat)(i:Nat):(uX r).getD i 0=((r.getD i 0:Nat):Int):=by
 unfold uX;grind
def Da.df(a:Da):Df:=⟨a.L,a.st,a.F,a.N.map uX⟩
theorem Da.Ok.az7{a:Da}(h:a.Ok):a.df.Ok:=by
 have h1:=h.l6;have h2:=h.s;have h3:=h.eb;have h4:=h.nN;unfold Da.n at*
 refine⟨by simp only[Da.df];omega,by simp only[Da.df];omega,by simp only[Da.df];omega,by simp only[Da.df];omega,by simp only[Da.df];unfold maxLen;omega,by simp only[Da.df,cT];unfold maxLen;omega,fun r hr=> ?_⟩;obtain⟨r,sN,rfl⟩:=gm.1 hr;have:=h.row r sN;refine⟨by simp only[uX,cT];unfold maxLen;omega,fun q hq=> ?_⟩;obtain⟨q,Ac,rfl⟩:=gm.1 hq;have:=this.2 q Ac;unfold Da.n at this;omega
theorem Da.Ok.val{a:Da}(h:a.Ok):a.df.val=0:=by
 have h0:=h.l1;have h1:=h.l6;have h2:=h.s;have h3:=h.eb;have h4:=h.nN;unfold Da.n at*
 unfold Df.val;rw[aD (by simp only[Da.df];omega),aD (by simp only[Da.df];omega),aD (by simp only[Da.df,cT];omega),aF];intro q hq;simp only[Da.df,cT]at hq;have e:a.df.N.getD q []=uX (a.N.getD q []):=by simp[Da.df,hq]
 have hr:=h.row (a.N.getD q []) (by grind);unfold Df.yV;rw[e];refine⟨by simp only[uX,cT,Da.df];omega,fun i hi=> ?_⟩;rw[uX,cT]at hi;have:=hr.2 ((a.N.getD q [])[i]) (dw hi);unfold Df.ud;rw[akl,ep hi];simp only[Da.df];unfold Da.n at this;omega
def tab{α:Type}(n:Nat)(g:Nat→α):List α:=(List.range n).map g
section
variable {α β:Type}{n i:Nat}{g h:Nat→α}
@[simp] theorem en:(tab n g).length=n:=by simp[tab]
theorem nj(hi:i<n):(tab n g)[i]? =some (g i):=by simp[tab,hi]
theorem CX(hi:i<n){z:α}:(tab n g).getD i z=g i:=by simp[tab,hi]
theorem aah(hi:i<(tab n g).length):(tab n g)[i]=g i:=by simp[tab]
theorem dW(e:∀j,j<n→g j=h j):tab n g=tab n h:=qA fun j hj=>e j (gn.1 hj)
theorem mw{v:α}:(tab n g).set i v=tab n fun j=>if j=i then v else g j:=by
 refine uj (by simp) fun j h1 h2=> ?_;rw[List.getElem_set,aah,aah];grind
theorem az8:tab n g++[g n]=tab (n+1) g:=by simp[tab,zc]
theorem BJ:tab (n+1) g=tab n g++[g n]:=az8.symm
theorem aqM:tab 0 g=[]:=rfl
theorem p5{v:α}:List.replicate n v=tab n fun _=>v:=by simp[tab,List.map_const']
theorem az9{f:α→β}:(tab n g).map f=tab n fun i=>f (g i):=by simp[tab,Function.comp]
theorem akm(l:List α)(z:α):l=tab l.length fun i=>l.getD i z:=by
 refine uj (by simp) fun j h1 h2=> ?_;rw[aah];simp[h1]
theorem CY(l:List α)(z:α){f:α→β}:l.map f=tab l.length fun i=>f (l.getD i z):=by
 rw[←az9,←akm]
theorem zR{a:α}:a∈tab n g↔∃i,i<n∧g i=a:=by simp[tab]
end
section
variable {γ:Type}{n i:Nat}{g:Nat→V}
theorem pd(hi:i<n):idx (tab n g) (i:Int)=some (g i):=by rw[BE rfl,nj hi]
theorem nY(hi:i<n){K:V→Option γ}:(bif (decide (0≤(i:Int)))&&(decide ((i:Int)<((tab n g).length:Int)))then((tab n g)[((i:Int)).toNat]?).bind K else none)=K (g i):=by
 rw[Int.toNat_natCast,nj hi,mW.2 ⟨cB (by omega),cB (by simp_all)⟩];rfl
theorem bJ{es:List V}{v:V}(hi:es[i]? =some v){K:V→Option γ}:(bif (decide (0≤(i:Int)))&&(decide ((i:Int)<(es.length:Int)))then(es[((i:Int)).toNat]?).bind K else none)=K v:=by
 grind
theorem ra{m:Nat}(hi:i<m):((decide (0≤(i:Int)))&&(decide ((i:Int)<(m:Int))))=true:=mW.2 ⟨cB (by omega),cB (by omega)⟩
end
theorem cap{a b m:Nat}(h:a+b≤10000000)(hm:m≤1000):Nat.ble ((a+b)*m) aR=true:=by
 rw[gG,Is];have:=Nat.mul_le_mul h hm;omega
theorem gP{n m:Nat}(h:n≤10000000)(hm:m≤1000):((decide (0≤(n:Int)))&&((decide ((n:Int)≤(n:Int)))&&(Nat.ble (((n:Int).toNat)*m) aR)))=true:=by
 have h2:=Nat.mul_le_mul h hm;rw[Int.toNat_natCast];refine mW.2 ⟨cB (by omega),mW.2 ⟨cB (by omega),?_⟩⟩;rw[gG,Is];omega
theorem bu{i:Nat}(h:i≤1000000000):wrap .i64 ((i:Int)+1)=((i+1:Nat):Int):=by rw[lF];omega
theorem bt{i n:Nat}(h:i<n):decide ((i:Int)<(n:Int))=true:=cB (by omega)
theorem cL{i n:Nat}(h:n≤i):decide ((i:Int)<(n:Int))=false:=dj (by omega)
section
variable {X R:Type}{step:X→Option (X ⊕ R)}
theorem eZ(n:Nat)(s:Nat→X)(r:R)(h:∀i,i<n→step (s i)=some (.inl (s (i+1))))(he:step (s n)=some (.inr r)):Loop step (s 0)=some r:=OQ s n h he
theorem nh(P:Nat→X→Prop)(Q:R→Prop):∀(n k:Nat) (x:X),(∀i,k≤i→i<k+n→∀x,P i x→∃y,step x=some (.inl y)∧P (i+1) y)→(∀x,P (k+n) x→∃r,step x=some (.inr r)∧Q r)→P k x→∃r,Loop step x=some r∧Q r
 |0,k,x,_,he,hx=>by
  obtain⟨r,h1,h2⟩:=he x hx;exact⟨r,gH h1,h2⟩
 |n+1,k,x,h,he,hx=>by
  obtain⟨y,h1,h2⟩:=h k (aW _) (by omega) x hx;obtain⟨r,h3,h4⟩:=nh P Q n (k+1) y (fun i hi hn=>h i (by omega) (by omega)) (by grind) h2;exact⟨r,(gp h1).trans h3,h4⟩
theorem aAa(bad:Nat→Bool)(n:Nat)(s:Nat→X)(r1:Nat→R)(r2:R)(h:∀i,i<n→step (s i)=some (if bad i=true then .inr (r1 i)else .inl (s (i+1))))(he:step (s n)=some (.inr r2)):
  (∃i,i<n∧bad i=true∧(∀j,j<i→bad j=false)∧Loop step (s 0)=some (r1 i))∨((∀i,i<n→bad i=false)∧Loop step (s 0)=some r2):=by
 have go:∀(d k:Nat),k+d=n→(∀j,j<k→bad j=false)→Loop step (s 0)=Loop step (s k)→(∃i,i<n∧bad i=true∧(∀j,j<i→bad j=false)∧Loop step (s 0)=some (r1 i))∨((∀i,i<n→bad i=false)∧Loop step (s 0)=some r2):=by
  intro d
  induction d with
  |zero=>
   intro k hk hb e;obtain rfl:k=n:=by omega
   exact .inr ⟨hb,e.trans (gH he)⟩
  |succ d ih=>
   intro k hk hb e;have h1:=h k (by omega);cases Cg:bad k with
   |true=>
    rw[aF Cg]at h1;exact .inl ⟨k,by omega,Cg,hb,e.trans (gH h1)⟩
   |false=>
    rw[aD (by grind)]at h1;refine ih (k+1) (by omega) (fun j hj=> ?_) (e.trans (gp h1));grind
 grind
end
def akn(w:List UInt8)(i:Nat):Int:=((w.getD i 0).toNat:Int)-97
def wOk(w:List UInt8)(L:Int):Prop:=1≤L∧L≤6∧w.length≤2048∧∀i,i<w.length→0≤akn w i∧akn w i<L
instance (w:List UInt8)(L:Int):Decidable (wOk w L):=by unfold wOk;infer_instance
def mC(L:Nat)(f:Nat→Nat):V:=ab (tab L fun x=>iV (f x))
def Da.dN(a:Da):List V:=tab a.n fun q=>V.bool (a.fin q)
def Da.dX(a:Da):List V:=tab a.n fun q=>mC a.L (a.nx q)
@[simp] theorem Da.Et {a:Da}:a.dN.length=a.n:=by simp[Da.dN]
@[simp] theorem Da.aAb {a:Da}:a.dX.length=a.n:=by simp[Da.dX]
@[simp] theorem R0 {L:Nat} {f:Nat→Nat}:(mC L f).toList=tab L fun x=>iV (f x):=by simp[mC]
def uO(a:Da)(l:List V):List V:=vI a.L::vI a.st::av a.dN::ah a.dX::l
def eu(a:Da):List V:=uO a []
theorem Da.Ok.leaves{a:Da}(h:a.Ok)(l:List V):Pn a.df l=uO a l:=by
 unfold Pn uO;have e1:a.df.F.map V.bool=a.dN:=CY _ false;have e2:a.df.N.map wo=a.dX:=by
  unfold Da.dX;rw[CY _ [],show a.df.N.length=a.n by simp[Da.df,h.nN]];refine dW fun q hq=> ?_;have dS:q<a.N.length:=by rw[h.nN];exact hq
  unfold wo mC;rw[show a.df.N.getD q []=uX (a.N.getD q []) by simp[Da.df,dS],CY _ 0];have hl:(uX (a.N.getD q [])).length=a.L:=by simp only[uX,cT];exact Da.aad h hq
  rw[hl];exact congrArg _ (dW fun x _=>by rw[akl];rfl)
 rw[e1,e2];rfl
theorem Da.aai{a:Da}{q:Nat}(hq:q<a.n):idx a.dN (q:Int)=some (.bool (a.fin q)):=pd hq
theorem Da.aaj{a:Da}{q:Nat}(hq:q<a.n):idx a.dX (q:Int)=some (mC a.L (a.nx q)):=pd hq
theorem R3{L x:Nat}{f:Nat→Nat}(hx:x<L):idx (tab L fun x=>iV (f x)) (x:Int)=some (iV (f x)):=pd hx
theorem su{a:Da}(h:a.Ok):CC 26 (eu a)=some [vI 0]:=by
 have:=az6 h.az7;rwa [h.val,h.leaves]at this
section
variable {α:Type}(ke:α→V)
def fV(i:Nat):List α→List V
 | []=>[]
 |a::S=> .bf [ke a,iV (i:Int)]::fV (i+1) S
where iV (n:Int):V:=vI n
end
theorem Lc{α:Type}{ke:α→V}:∀(S:List α) (i:Nat),(fV ke i S).length=S.length
 | [],_=>rfl
 |a::S,i=>by simp[fV,Lc S (i+1)]
section
variable {α:Type}[DecidableEq α]{ke:α→V}
variable (hk:∀a b,jk (ke a) (ke b)=decide (a=b))
include hk
theorem OX(x:α):∀(S:List α) (i:Nat),gq (ke x) (fV ke i S)=decide (x∈S)
 | [],_=>by simp[fV,gq]
 |a::S,i=>by
  have c:∀(p q:V),(V.bf [p,q]).comp 0=p:=fun p q=>rfl;rw[fV,gq,c,hk,OX x S (i+1)];grind
theorem OY(x:α)(z:V):∀(S:List α) (i:Nat),x∈S→kz (ke x) (fV ke i S) z=vI ((i+S.idxOf x:Nat):Int)
 | [],_,h=>by cases h
 |a::S,i,h=>by
  have c:∀(p q:V),(V.bf [p,q]).comp 0=p:=fun p q=>rfl;have c1:∀(p q:V),(V.bf [p,q]).comp 1=q:=fun p q=>rfl;rw[fV,kz,c,c1,hk];by_cases e:x=a
  ·subst e;rw[cB rfl];simp[fV.iV]
  ·rw[dj e,cond_false,OY x z S (i+1) ((jg.1 h).resolve_left e),show(a::S).idxOf x=S.idxOf x+1 from by grind];grind
theorem OZ(x:α):∀(S:List α) (i:Nat),x∉S→jl (ke x) (vI ((i+S.length:Nat):Int)) (fV ke i S)=fV ke i (S++[x])
 | [],i,_=>by simp[fV,jl,fV.iV]
 |a::S,i,h=>by
  have c:∀(p q:V),(V.bf [p,q]).comp 0=p:=fun p q=>rfl;have e:x≠a:=fun e=>h (by simp[e]);rw[fV,jl,c,hk,dj e,cond_false,List.cons_append,fV];congr 1;have:=OZ x S (i+1) fun hx=>h (by simp[hx]);grind
end
theorem aAc(a b:Nat):jk (vI (a:Int)) (vI (b:Int))=decide (a=b):=by
 simp only[jk,V.cells,qK,xu,Bool.and_true];grind
theorem apE(a b:Nat):jk (.int .u64 (a:Int)) (.int .u64 (b:Int))=decide (a=b):=by
 simp only[jk,V.cells,qK,xu,Bool.and_true];grind
theorem aak{n:Nat}(h:n≤1000000000000):ft .i64 (n:Int)=true:=by
 have e1:IntKind.min .i64= -9223372036854775808:=by decide
 have e2:IntKind.max .i64=9223372036854775807:=by decide
 unfold ft;grind
theorem adI{n:Nat}(h:n<2^64):ft .u64 (n:Int)=true:=by
 have e1:IntKind.min .u64=0:=by decide
 have e2:IntKind.max .u64=18446744073709551615:=by decide
 unfold ft;grind
theorem adJ{α:Type}[DecidableEq α]{S:List α}{a:α}:(cN S a).idxOf a=if a∈S then S.idxOf a else S.length:=by
 unfold cN;grind
noncomputable def ako(C:af)(q x eF eG:Int)(nu mE:LV):Option LV:=
 (idx mE q).bind fun x1=>
 (idx x1.toList x).bind fun x2=>
 some [vI x2.toInt,vI eF,vI eG,av nu,ah mE]
theorem aAd{q x eF eG:Int}{nu mE:LV}{r:Option LV}(h:ako CC q x eF eG nu mE=r):CC 101 [vI q,vI x,vI eF,vI eG,av nu,ah mE]=r:=bj (L:=bh) an h
noncomputable def akp(C:af)(q yd ye:Int)(we wg:LV):Option LV:=
 (idx we q).bind fun x1=>
 some [.bool x1.toBool,vI yd,vI ye,av we,ah wg]
theorem aAe{q yd ye:Int}{we wg:LV}{r:Option LV}(h:akp CC q yd ye we wg=r):CC 102 [vI q,vI yd,vI ye,av we,ah wg]=r:=bj (L:=bh) an h
noncomputable def akq(C:af)(x:Int)(aT:LV):Option LV:=
 bif ft .i64 x&&true then
  bif ft .i64 x&&true then
  bif Nat.ble ((aT.length+([vI x]:LV).length)*8) aR then
   some [vI (aT.length:Int),ab (aT++([vI x]:LV)),.list 216 (jl (vI x) (vI (aT.length:Int)) ([]:LV))]
  else none
  else none
 else none
theorem aAf{x:Int}{aT:LV}{r:Option LV}(h:akq CC x aT=r):CC 140 [vI x,ab aT]=r:=bj (L:=bh) an h
noncomputable def akr(C:af)(x:Int)(aT aE:LV):Option LV:=
 bif ft .i64 x&&true then
  bif !(gq (vI x) aE)then
  bif ft .i64 x&&true then
   bif Nat.ble ((aT.length+([vI x]:LV).length)*8) aR then
   some [vI (aT.length:Int),.list 216 (jl (vI x) (vI (aT.length:Int)) aE),ab (aT++([vI x]:LV))]
   else none
  else none
  else
  some [vI ((kz (vI x) aE (vI 0)).toInt),.list 216 aE,ab aT]
 else none
theorem aAg{x:Int}{aT aE:LV}{r:Option LV}(h:akr CC x aT aE=r):CC Yg [vI x,ab aT,.list 216 aE]=r:=bj (L:=bh) an h
noncomputable def Ld(C:af)(aQ i state t36 sB sC bq bB:Int)(aP aB bH bP:LV)(t37 rR rS:Int)(rT rU rows aK br:LV){β:Type}(kn:(Int×Int×Int×LV×LV×LV×LV×LV)→Option β)(kr:(Int×Bool×Int×Int×LV×LV×LV×LV×LV)→Option β):Option β:=
 bif decide (t37<t36)then
  (C 101 [vI state,vI t37,vI rR,vI rS,av rT,ah rU]).bind fun r3=>
  (C Yg [vI (gI r3),ab aK,.list 216 br]).bind fun r4=>
  aA rows t37 fun x5=>
  kn (wrap .i64 (t37+1),(gI (r3.drop 1)),(gI ((r3.drop 1).drop 1)),(gL (((r3.drop 1).drop 1).drop 1)),(gL ((((r3.drop 1).drop 1).drop 1).drop 1)),bc rows t37 (vI (gI r4)),(gL ((r4.drop 1).drop 1)),(gL (r4.drop 1)))
 else
  kr (t37,decide (t37<t36),rR,rS,rT,rU,rows,aK,br)
noncomputable def R4(C:af)(aQ i state t36 sB sC bq bB:Int)(aP aB bH bP:LV):=un fun t37=>un fun rR=>un fun rS=>un fun rT=>un fun rU=>un fun rows=>un fun aK br=>Ld C aQ i state t36 sB sC bq bB aP aB bH bP t37 rR rS rT rU rows aK br (fun y=>some (Sum.inl y)) (fun r=>some (Sum.inr r))
noncomputable def Lf(C:af)(aQ sB sC bq bB:Int)(aL aP:LV)(i rR rS:Int)(rT rU aB aK br bH:LV){β:Type}(kn:(Int×Int×Int×LV×LV×LV×LV×LV×LV)→Option β)(kr:((Int×Int×Int×LV×LV×Int×Int×LV×LV×LV) ⊕ (Int×Bool×Int×Int×LV×LV×LV×LV×LV×LV))→Option β):Option β:=
 bif decide (i<(aB.length:Int))then
  aA aB i fun x2=>
  bif (decide (0≤aQ))&&((decide (aQ≤aQ))&&(Nat.ble ((aQ.toNat)*8) aR))then
  (Loop (R4 C aQ i x2.toInt ((List.replicate (aQ.toNat) (vI 0)).length:Int) sB sC bq bB aL aP br bH) (0,rR,rS,rT,rU,List.replicate (aQ.toNat) (vI 0),aB,aK)).bind (un fun jD=>un fun(ng:Bool)=>un fun IK=>un fun aks=>un fun(akt:LV)=>un fun(aku:LV)=>un fun(akv:LV)=>un fun(Gf:LV) (pz:LV)=>
   bif decide ((Gf.length:Int)>512)then
    kr (.inl (3,IK,aks,akt,aku,0,0,([]:LV),([]:LV),([]:LV)))
   else
    bif Nat.ble ((bH.length+([ab akv]:LV).length)*24) aR then
    (C 102 [vI x2.toInt,vI IK,vI aks,av akt,ah aku]).bind fun Gg=>
    bif Nat.ble ((br.length+([.bool (gB Gg)]:LV).length)*1) aR then
     kn (wrap .i64 (i+1),(gI (Gg.drop 1)),(gI ((Gg.drop 1).drop 1)),(gL (((Gg.drop 1).drop 1).drop 1)),(gL ((((Gg.drop 1).drop 1).drop 1).drop 1)),Gf,pz,br++([.bool (gB Gg)]:LV),bH++([ab akv]:LV))
    else none
    else none)
  else none
 else
  kr (.inr (i,decide (i<(aB.length:Int)),rR,rS,rT,rU,aB,aK,br,bH))
noncomputable def R5(C:af)(aQ sB sC bq bB:Int)(aL aP:LV):=un fun i=>un fun rR=>un fun rS=>un fun rT=>un fun rU=>un fun aB=>un fun aK=>un fun br bH=>Lf C aQ sB sC bq bB aL aP i rR rS rT rU aB aK br bH (fun y=>some (Sum.inl y)) (fun r=>some (Sum.inr r))
noncomputable def akw(C:af):cp:=bz 161 Zi [Q0,Q0,Q0,Q0,Q1,Q1,Q1,Q1,Q1,Q0,Q0,Q0,Q0,Q1,Q0,Q0,Q1,Q1,Q0,Q0] [[1,2,3,4,0,0,0,0,0,0,10,11,12,13,0,15,16,0,0,19,20]] (@Ld C) (bz 81 Zj [Q0,Q1,Q1,Q1,Q1,Q1,Q0,Q0,Q0,Q0,Q0,Q0,Q1,Q1,Q1,Q1] [[0,0,0,0,0,0,0,0,0,0],[1,0,0,0,0,0,0,7,8,9,10,11,12,0,0,0,0]] (@Lf C) bh)
theorem aAh(C:af):bn C (akw C) 100 (Lp [1,1,1,1,0,1,0,0,1,0,0,1,1,0,1,0,0] 100):=bA Zi [Q0,Q0,Q0,Q0,Q1,Q1,Q1,Q1,Q1,Q0,Q0,Q0,Q0,Q1,Q0,Q0,Q1,Q1,Q0,Q0] [[1,2,3,4,0,0,0,0,0,0,10,11,12,13,0,15,16,0,0,19,20]] (@Ld C) (ba an)
theorem aAi(C:af):bn C (akw C) 100 (Lp [1,1,1,1,0,1,0,0] 100):=bA Zj [Q0,Q1,Q1,Q1,Q1,Q1,Q0,Q0,Q0,Q0,Q0,Q0,Q1,Q1,Q1,Q1] [[0,0,0,0,0,0,0,0,0,0],[1,0,0,0,0,0,0,7,8,9,10,11,12,0,0,0,0]] (@Lf C) (ba (bp (aAh C) an))
noncomputable def akx(C:af)(aQ start rR rS:Int)(rT rU:LV):Option LV:=
 (C 140 [vI start,ab ([]:LV)]).bind fun r1=>
 (Loop (R5 C aQ 0 0 aQ 0 ([]:LV) ([]:LV)) (0,rR,rS,rT,rU,(gL (r1.drop 1)),(gL ((r1.drop 1).drop 1)),([]:LV),([]:LV))).bind (ed (un fun BU=>un fun sD=>un fun uR=>un fun(p9:LV)=>un fun(rE:LV)=>un fun Vh=>un fun aAj=>un fun(tC:LV)=>un fun(ym:LV) (aAk:LV)=>
  some [vI Vh,vI aAj,vI BU,vI sD,vI uR,av p9,ah rE,av tC,ah ym,ab aAk]) (un fun aHp=>un fun(aHq:Bool)=>un fun aAl=>un fun aAm=>un fun(aAn:LV)=>un fun(aAo:LV)=>un fun(aal:LV)=>un fun(OW:LV)=>un fun(zT:LV) (BC:LV)=>
  some [vI aQ,vI 0,vI 0,vI aAl,vI aAm,av aAn,ah aAo,av zT,ah BC,ab aal]))
theorem aAp{aQ start rR rS:Int}{rT rU:LV}{r:Option LV}(h:akx CC aQ start rR rS rT rU=r):CC 100 [vI aQ,vI start,vI rR,vI rS,av rT,ah rU]=r:=bj (bp (aAi CC) an) h
noncomputable def Lg(C:af)(t31 eF eG bM bN:Int)(xg aL aP aB aK:LV)(t32:Int)(numbers:LV){β:Type}(kn:(Int×LV)→Option β)(kr:(Int×Bool×LV)→Option β):Option β:=
 bif decide (t32<t31)then
  aA numbers t32 fun x3=>
  kn (wrap .i64 (t32+1),bc numbers t32 (vI (-1)))
 else
  kr (t32,decide (t32<t31),numbers)
noncomputable def R6(C:af)(t31 eF eG bM bN:Int)(xg aL aP aB aK:LV):=un fun t32 numbers=>Lg C t31 eF eG bM bN xg aL aP aB aK t32 numbers (fun y=>some (Sum.inl y)) (fun r=>some (Sum.inr r))
noncomputable def Lh(C:af)(t40 eF eG bM bN:Int)(CZ aL aP aB aK:LV)(t41:Int)(numbers:LV){β:Type}(kn:(Int×LV)→Option β)(kr:(Int×Bool×LV)→Option β):Option β:=
 bif decide (t41<t40)then
  aA CZ t41 fun x7=>
  bif (decide (0≤x7.toInt))&&(decide (x7.toInt<(numbers.length:Int)))then
  (numbers[(x7.toInt:Int).toNat]?).bind fun x8=>
  kn (wrap .i64 (t41+1),bc numbers (x7.toInt) (vI t41))
  else none
 else
  kr (t41,decide (t41<t40),numbers)
noncomputable def R7(C:af)(t40 eF eG bM bN:Int)(CZ aL aP aB aK:LV):=un fun t41 numbers=>Lh C t40 eF eG bM bN CZ aL aP aB aK t41 numbers (fun y=>some (Sum.inl y)) (fun r=>some (Sum.inr r))
noncomputable def aky(C:af):cp:=bz 97 Y3 [Q0,Q1,Q0,Q0,Q0,Q0,Q0,Q1,Q0,Q0,Q0,Q0] [[1,0,0,3,4,5,6,7,0,9,10,11,12]] (@Lg C) (bz 177 Y4 [Q0,Q1,Q0,Q0,Q0,Q0,Q1,Q0,Q0,Q0,Q0,Q0] [[1,0,0,3,4,5,6,0,8,9,10,11,12]] (@Lh C) bh)
theorem aAq(C:af):bn C (aky C) 65 (Lp [1,1,1,1,0,1,0,0] 65):=bA Y3 [Q0,Q1,Q0,Q0,Q0,Q0,Q0,Q1,Q0,Q0,Q0,Q0] [[1,0,0,3,4,5,6,7,0,9,10,11,12]] (@Lg C) (ba an)
theorem aAr(C:af):bn C (aky C) 65 (Lp [1,1,1,1,1,0,1,0,0] 65):=bA Y4 [Q0,Q1,Q0,Q0,Q0,Q0,Q1,Q0,Q0,Q0,Q0,Q0] [[1,0,0,3,4,5,6,0,8,9,10,11,12]] (@Lh C) (ba an)
noncomputable def akz(C:af)(cD cE:Int)(cd cH:LV):Option LV:=
 (C 26 [vI cD,vI cE,av cd,ah cH]).bind fun r1=>
 bif ((gI r1):Int) != 0 then
  some [vI 0,vI 0,av ([]:LV),ah ([]:LV),ab ([]:LV)]
 else
  (C 100 [vI cD,vI cE,vI cD,vI cE,av cd,ah cH]).bind fun r2=>
  bif (decide (0≤((gL (((r2.drop 3).drop 1).drop 1)).length:Int)))&&((decide (((gL (((r2.drop 3).drop 1).drop 1)).length:Int)≤((gL (((r2.drop 3).drop 1).drop 1)).length:Int)))&&(Nat.ble (((((gL (((r2.drop 3).drop 1).drop 1)).length:Int):Int).toNat)*8) aR))then
  (Loop (R6 C ((List.replicate ((((gL (((r2.drop 3).drop 1).drop 1)).length:Int):Int).toNat) (vI 0)).length:Int) 0 0 (gI r2) (gI (r2.drop 1)) (gL ((((r2.drop 3).drop 4).drop 1).drop 1)) ([]:LV) ([]:LV) (gL ((r2.drop 3).drop 4)) (gL (((r2.drop 3).drop 4).drop 1))) (0,List.replicate ((((gL (((r2.drop 3).drop 1).drop 1)).length:Int):Int).toNat) (vI 0))).bind (un fun mr=>un fun(mu:Bool) (aAs:LV)=>
   (Loop (R7 C ((gL ((((r2.drop 3).drop 4).drop 1).drop 1)).length:Int) 0 0 (gI r2) (gI (r2.drop 1)) (gL ((((r2.drop 3).drop 4).drop 1).drop 1)) ([]:LV) ([]:LV) (gL ((r2.drop 3).drop 4)) (gL (((r2.drop 3).drop 4).drop 1))) (0,aAs)).bind (un fun uS=>un fun(Pf:Bool) (aAt:LV)=>
    some [vI (gI r2),vI (gI (r2.drop 1)),av (gL ((r2.drop 3).drop 4)),ah (gL (((r2.drop 3).drop 4).drop 1)),ab aAt]))
  else none
theorem aAu{cD cE:Int}{cd cH:LV}{r:Option LV}(h:akz CC cD cE cd cH=r):CC 65 [vI cD,vI cE,av cd,ah cH]=r:=bj (bp (aAq CC) (bp (aAr CC) an)) h
end Go.AM
